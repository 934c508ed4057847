/- As many pipes, files and descriptors may be as there is room for: what finds none changes nothing; closed ones make room; no conditions. -/
import Derived.Test.YthhmplobccgeiaaGreatMg
import Derived.KernelRfl
import Derived.Test.YthhmplobccgeiaaGreatRows
set_option linter.all false
set_option maxRecDepth 10000
namespace Go.EQ
open Go Go.NN
theorem Gc8 (k:Nat) (S:KS) (A:KA):CtP B0 Al2 [P0 k] [pt k (.cells B71 false (D43 S A))] (P0 A.s):=by
 refine CtP.of Ew3 rfl fun h r=>Tr.eq (Ev1 ..) ?_;refine Je ?_
 exact Jz
theorem Ia3 (k:Nat) (S:KS) (N:Nat) (ok:KOk N S) (env:Int):Ct B0 Bp8 [P0 k,int env] [D3 k S] fun v own =>
  (A18 S.tabs env≠[]∧∃ c,v=.tuple ⟨[P0 c,int 0]⟩∧own [U9 c k env (A18 S.tabs env) [],D3 k S])∨(A18 S.tabs env=[]∧v=.tuple ⟨[.pointer none,int 1]⟩∧own [D3 k S]):=by
 refine Ct.of Go5 rfl fun h r=>Tr.eq (Gq3 ..) ?_;refine Je ?_
 refine B4 (D3 k S) fun ⟨m,s,q,rg,ea,ec,ma,mc,ms,sa,sc,ss⟩=>?_;refine Je ?_
 (refine Jb ?_;unhygienic intros)
 refine Yb (Yf rfl ?_)
 refine Tr.pcall (Gc8 k S ⟨m,s,q,rg,ea,ec,ma,mc,ms,sa,sc,ss⟩) ?_;refine Je ?_;(refine Ja ?_;unhygienic intros)
 try dsimp only
 refine Yc (E68 s S.tabs env ok.space) ?_;rintro _ h ⟨a0,c0,rfl,o⟩<;>refine Jh o ?_
 (refine Ja ?_;unhygienic intros)
 refine Ys fun o=>(?_:Tr _ _ _ _) o;refine Je ?_
 by_cases hz:A18 S.tabs env=[]
 ·refine Yt (by simp [hz]) ?_
  refine B2 (D3 k S) ⟨m,s,q,rg,ea,ec,ma,mc,ms,sa,sc,ss⟩ ?_;refine Je ?_
  refine Ys fun o=>?_
  exact .inr ⟨hz,rfl,o.sub⟩
 ·refine Yf ?_ ?_
  ·rw [beq_eq_false_iff_ne]
   intro h0
   exact hz (List.eq_nil_of_length_eq_zero (by omega))
  refine Tr.pcall (Gc8 k S ⟨m,s,q,rg,ea,ec,ma,mc,ms,sa,sc,ss⟩) ?_;refine Je ?_;(refine Ja ?_;unhygienic intros)
  try dsimp only
  refine Yc (E68 s S.tabs env ok.space) ?_;rintro _ h ⟨a1,c1,rfl,o⟩<;>refine Jh o ?_
  (refine Jc ?_;unhygienic intros)
  refine Yn fun mb h=>?_
  refine Yn fun c h=>?_
  refine B2 (D3 k S) ⟨m,s,q,rg,ea,ec,ma,mc,ms,sa,sc,ss⟩ ?_;refine Je ?_
  refine E0 (U9 c k env (A18 S.tabs env) []) (a1,c1,mb) [1,2,1] rfl ?_;refine Je ?_
  refine Ys fun o=>?_
  exact .inl ⟨hz,c,rfl,o.sub⟩
def A81:PlanS:=⟨[false,false],[(0,1),(1,0)],5⟩
theorem H04:Ct B0 Bx3 [] [] fun v own=>∃ A,v=.agg ⟨Eq7 A81 A⟩∧own (Di3 A81 A):=by
 refine Ct.of Gw2 rfl fun h r=>Tr.eq (G41 ..) ?_;refine Je ?_
 (refine Jc ?_;unhygienic intros;rename H=>h)
 refine Yn fun b h=>?_
 refine Yn fun b1 h=>?_
 refine Yn fun b2 h=>?_
 (refine Ja ?_;unhygienic intros;rename H=>h)
 refine Ai0 0 rfl 2 2 rfl (by omega) ?_
 refine Ai0 1 rfl 1 2 rfl (by omega) ?_
 refine Je ?_
 refine Ys fun o=>?_
 exact ⟨⟨some ⟨b1,0,none⟩,2,some ⟨b2,0,none⟩,2⟩,rfl,(show Own h (slC false Bu8 2 (some ⟨b2,0,none⟩) A81.brs.length 2 (A81.brs.flatMap brL)::slC false E61 1 (some ⟨b1,0,none⟩) A81.bad.length 2 (A81.bad.map Value.bool)::_) from o).sub⟩
def Ag1:BootS:=Eq1 A81
theorem G34:Bn9 Ag1=true:=by kernel_rfl
theorem Ez4:Small Ag1:=by
 have e:Ag1=⟨[20,20],[0,0,0,0,0,0,0,0,0,1,1,1,1,1,1,1,1,1],[[0],[1]],5,[⟨0,0,0,492,[0]⟩,⟨1,0,0,492,[1]⟩,⟨0,8,0,40,[0,1]⟩,⟨1,9,0,40,[1,0]⟩]⟩:=by kernel_rfl
 rw [e]
 exact ⟨by simp [B1],by simp [B1],by simp [B1]⟩
theorem Br1:Ag1=⟨[20,20],[0,0,0,0,0,0,0,0,0,1,1,1,1,1,1,1,1,1],[[0],[1]],5,[⟨0,0,0,492,[0]⟩,⟨1,0,0,492,[1]⟩,⟨0,8,0,40,[0,1]⟩,⟨1,9,0,40,[1,0]⟩]⟩:=by kernel_rfl
theorem Ia9:RBoot Ag1 (Ai1 Ag1.frames):=by
 rw [Br1]
 refine ⟨by simp,by simp,by simp,fun x hx=>?_,fun x hx=>?_⟩
 ·simp only [List.mem_cons,List.not_mem_nil,or_false] at hx
  rcases hx with rfl|rfl|rfl|rfl<;>simp [B1]
 ·simp only [List.mem_cons,List.not_mem_nil,or_false] at hx
  rcases hx with rfl|rfl|rfl|rfl<;>simp [Ai1]
def S00:KS:=Dw7 Ag1
theorem G29:KOk 0 S00:=H96 G34 Ez4
def wrS (S:KS) (cap:Int) (b:List UInt8):KS:=(W9 S 0 ⟨2,cap,0,0,0,0,b⟩).2
def S0:KS:=wrS S00 256 Ab3
theorem Ii4:(W9 S00 0 ⟨2,256,0,0,0,0,Ab3⟩).1.1=0:=by kernel_rfl
theorem H60:A18 S00.tabs 0=[256,257,258]:=by kernel_rfl
def wrR (K:RKS) (cap:Int) (b:List UInt8):RKS:={ K with R:=(Ag6 K.R 0 cap 0 b).2 }
def K0:RKS:=wrR (Db3 Ag1) 256 Ab3
theorem D08:RKOk (Db3 Ag1)∧(Db3 Ag1).B=Ag1:=Ia6 (by rw [Br1];simp) (by rw [Br1];simp)
theorem E72 {K:RKS} (k:RKOk K) (cap:Int) (b:List UInt8):RKOk (wrR K cap b):=H75 k 0 cap 0 b
theorem H06:By8 K0 0≠[]:=by
 have:By8 K0 0=[256,257,258]:=by kernel_rfl
 rw [this];simp
theorem Aa3:Ab3.length=492:=by kernel_rfl
theorem Dp0 {l:List HP} {h:H} {α:Type} {Q:α→H→Prop} {x:Option (α × H)} (i:Nat) {b n:Nat} {cs:List Value} (hi:l[i]?=some (pt b (.cells A6 false cs))) (hn:cs.length=n) (t:Tr (l.set i (slC false A6 1 (some (J5 b)) n n cs)) h x Q):Tr l h x Q:=fun o=>by
 refine t (Own.back (h:=h) hi ?_)
 have o1:=o.front hi
 refine Own.slShut (pre:=[]) (post:=[]) (by simpa using o1) ⟨by omega,Nat.le_refl _,by simp,by simp,by simp,by omega,by simp⟩
theorem H68 (A:PlA):Ct B0 Be9 [.agg ⟨Eq7 A81 A⟩] (Di3 A81 A) fun v own =>
  ∃ k c w m,v=.tuple ⟨[P0 k,P0 c,P0 w,P0 m]⟩∧own [D3 k S0,U9 c k 0 [256,257,258] [],rkC w K0,rcC m w 0 (By8 K0 0) []]:=by
 have hB:Eq1 A81=Ag1:=rfl
 obtain ⟨ba,bc,ra,rc⟩:=A
 refine Ct.of G10 rfl fun h r=>Tr.eq (Gs6 ..) ?_;refine Je ?_
 refine Yn fun b0 h=>?_
 (refine Ja ?_;unhygienic intros)
 refine Yc (H77 A81 ⟨ba,bc,ra,rc⟩ (by simp [A81]) (by simp [A81])) ?_;rintro _ h ⟨A,kA,rfl,o⟩<;>refine Jh o ?_
 rw [hB] at kA ⊢
 obtain ⟨fa,fc,ea,ec,sa,sc,ss,ha,hc,hs⟩:=A
 (refine Jc ?_;unhygienic intros)
 refine Yn fun b1 h=>?_
 (refine Ja ?_;unhygienic intros)
 have J:=Id4 false Ag1 ⟨fa,fc,ea,ec,sa,sc,ss,ha,hc,hs⟩ kA Ez4
 simp only [G34,if_true] at J
 refine Yc (J) ?_;rintro _ h ⟨k,rfl,o⟩<;>refine Jh o ?_
 (refine Jb ?_;unhygienic intros)
 refine Yb (Yf rfl ?_)
 refine Ys fun o=>(?_:Tr _ _ _ _) o;refine Je ?_
 refine Yf rfl ?_
 (refine Ja ?_;unhygienic intros)
 refine Yc (G94 Ag1 ⟨fa,fc,ea,ec,sa,sc,ss,ha,hc,hs⟩ kA (by rw [Br1];simp) Ia9) ?_;rintro _ h ⟨w,rfl,o⟩<;>refine Jh o ?_
 (refine Ja ?_;unhygienic intros)
 refine Yc (Ia3 k (Dw7 Ag1) 0 G29 0) ?_
 rintro v h (⟨hz,c,rfl,o⟩|⟨hz,rfl,o⟩)
 case inr=>exact absurd hz (by rw [show Dw7 Ag1=S00 from rfl,H60];simp)
 rw [show Dw7 Ag1=S00 from rfl,H60] at o
 refine (?_:Tr _ _ _ _) o
 refine Je ?_
 (refine Jb ?_;unhygienic intros)
 refine Yb (Yf rfl ?_)
 refine Ys fun o=>(?_:Tr _ _ _ _) o;refine Je ?_
 refine Yf rfl ?_
 refine Yc (Gk3) ?_;rintro _ h ⟨rfl,o⟩<;>refine Jh o ?_
 (refine Jc ?_;unhygienic intros)
 refine Tr.ck (by rw [A17,Aa3];simp [B1]) ?_
 rw [A17,Aa3]
 refine Yn fun b2 h=>?_
 refine Dp0 (n:=492) 0 rfl (by rw [S4,show (bs Ab3).data.toList=Ab3 from rfl,Aa3]) ?_
 refine Je ?_
 have J2:=D15 k S00 0 G29 (by omega) 0 ⟨2,256,0,0,0,0,Ab3⟩ (some (J5 b2)) 492 false (show ((2:Int)≠5) by decide)
 simp only [Aa3] at J2
 refine Bs3 J2 [2,0] rfl ?_
 rintro _ h ⟨y,d,rfl,o⟩
 rw [Ii4]
 rw [show (W9 S00 0 ⟨2,256,0,0,0,0,Ab3⟩).2=S0 from rfl] at o
 refine (?_:Tr _ _ _ _) o
 refine Je ?_
 (refine Jc ?_;unhygienic intros)
 refine Yf rfl ?_
 refine Tr.ck (by simp [B1]) ?_
 refine Yn fun b3 h=>?_
 refine Dp0 (n:=492) 0 rfl (by rw [S4,Aa3]) ?_
 refine Je ?_
 have J3:=Es8 w (Db3 Ag1) D08.1 0 (by rw [D08.2,Br1];simp) ⟨2,256,0,0,0,0,Ab3⟩ rfl (by rw [Aa3];simp [B1]) (slC false A6 1 (some (J5 b3)) Ab3.length 492 (A0 Ab3)) (some (J5 b3)) 492 false
 simp only [Aa3] at J3
 refine Yc J3 ?_
 rintro _ h ⟨rfl,o⟩
 rw [show ({ Db3 Ag1 with R:=(Ag6 (Db3 Ag1).R ((0:Nat):Int) 256 0 Ab3).2 }:RKS)=K0 from rfl] at o
 refine (?_:Tr _ _ _ _) o
 refine Je ?_
 (refine Ja ?_;unhygienic intros)
 refine Yc (Gg0 w K0 (E72 D08.1 256 Ab3) 0 (by show (0:Nat)<(Db3 Ag1).B.envs.length;rw [D08.2,Br1];simp)) ?_
 rintro v h (⟨_,m,rfl,o⟩|⟨hn,rfl,o⟩)
 case inr=>exact absurd hn H06
 refine (?_:Tr _ _ _ _) o
 refine Je ?_
 (refine Ja ?_;unhygienic intros)
 refine Ys fun o=>?_
 exact ⟨k,c,w,m,rfl,o.sub⟩
def Bz7 (mem:List UInt8) (rg:Rg):List (List UInt8):=rg.map fun p=>slice mem p.1 p.2
theorem G04 {mem:List UInt8} {rg:Rg} {j lo n:Nat} (h:rg[j]?=some (lo,n)):(Bz7 mem rg)[j]?=some (slice mem lo n):=by unfold Bz7;rw [List.getElem?_map,h];rfl
theorem G00 {mem:List UInt8} {rg:Rg} (h:∀ (j lo n:Nat),rg[j]?=some (lo,n)→lo+n≤mem.length):Fit mem.length rg (Bz7 mem rg):=⟨by simp [Bz7],fun j lo n hj=>⟨h j lo n hj,slice mem lo n,G04 hj,Eg8 (h j lo n hj)⟩⟩
theorem Hy7 {mem:List UInt8} {rg:Rg} (k:RgOk rg) (h:∀ (j lo n:Nat),rg[j]?=some (lo,n)→lo+n≤mem.length):As4 mem rg (Bz7 mem rg)=mem:=by
 have f:=G00 h
 refine List.ext_getElem? fun i=>?_
 by_cases ho:∃ (j lo n:Nat),rg[j]?=some (lo,n)∧lo≤i∧i<lo+n
 ·obtain ⟨j,lo,n,hj,h1,h2⟩:=ho
  obtain ⟨i',rfl⟩:∃ i',i=lo+i':=⟨i-lo,by omega⟩
  rw [B45 f k j lo n _ hj (G04 hj) i' (by omega),Bu0,if_pos (by omega)]
 ·exact Do7 f i fun j lo n hj=>by
   by_cases hh:lo≤i∧i<lo+n
   ·exact absurd ⟨j,lo,n,hj,hh.1,hh.2⟩ ho
   ·omega
theorem FrOk.room {F:Fr} {j lo n:Nat} (f:Fit F.S.mem.length F.rg (Bz7 F.S.mem F.rg)) (h:F.rg[j]?=some (lo,n)):lo+n≤F.S.mem.length:=(f.each j lo n h).1
theorem Fr.at_cut {F:Fr} (k:FrOk F) (h:∀ (j lo n:Nat),F.rg[j]?=some (lo,n)→lo+n≤F.S.mem.length):F.at (Bz7 F.S.mem F.rg)=F.S:=by
 unfold Fr.at;rw [Hy7 k.dj h];rfl
theorem Own.cmTake {r:List HP} {h:H} (c k:Nat) (F:Fr) (bad:List RecS) (ok:FrOk F) (hr:∀ (j lo n:Nat),F.rg[j]?=some (lo,n)→lo+n≤F.S.mem.length) (o1:Own h (D3 k F.S::U9 c k F.env F.caps bad::r)):Own h (cmC c k F ⟨Bz7 F.S.mem F.rg,bad⟩::r):=by
 refine Own.inex (f:=fun u:Unit=>sl (cmF c k F ⟨Bz7 F.S.mem F.rg,bad⟩)) () (Own.group (l:=cmF c k F ⟨Bz7 F.S.mem F.rg,bad⟩) ?_)
 show Own h (D3 k (F.at (Bz7 F.S.mem F.rg))::U9 c k F.env F.caps bad::pu _::r)
 rw [Fr.at_cut ok hr]
 have o2:=Own.inpure (show Fit F.S.mem.length F.rg (Bz7 F.S.mem F.rg) from G00 hr) o1
 exact o2.picks [1,1,0] rfl
theorem Ib4 {l r:List HP} {h:H} {α:Type} {Q:α→H→Prop} {x:Option (α × H)} (c k:Nat) (F:Fr) (X:CX) [tk:Take (cmC c k F X) l r]
  (t:Fit F.S.mem.length F.rg X.m→Tr (D3 k (F.at X.m)::U9 c k F.env F.caps X.bad::r) h x Q):Tr l h x Q:=fun o=>by
 have o1:Own h (cmC c k F X::r):=o.perm tk.pm
 obtain ⟨u,o2⟩:=Own.ex (f:=fun u:Unit=>sl (cmF c k F X)) o1
 have o3:Own h (D3 k (F.at X.m)::U9 c k F.env F.caps X.bad::pu (Fit F.S.mem.length F.rg X.m)::r):=Own.join o2
 have f:=(o3.front (i:=2) rfl).pure
 exact t f (o3.front (i:=2) rfl).tail
theorem Hm3 {S:KS} {env cap obj:Int} {lo n:Nat} {e1 e2:Int} (hg:Bq0 S.tabs env cap=some ⟨obj,3,0,(n:Int),e1,e2⟩) (h0:0≤obj) (hr:S.regs[obj.toNat]?=some ((lo:Int),(n:Int))) (hl:lo+n≤65536) :
  ∀ (a m:Nat) (right:Int),right=1∨right=2→a+m≤n→O4 S.tabs S.regs env cap right a m=(((lo+a:Nat):Int),0):=by
 intro a m right hri ha
 have hlt:=(List.getElem?_eq_some_iff.1 hr).1
 unfold O4
 rw [hg]
 have b1:(O5 .i64 3 1==0)=false:=by kernel_rfl
 have b2:(O5 .i64 3 2==0)=false:=by kernel_rfl
 have hb:¬ ((O5 .i64 3 right==0)=true):=by rcases hri with rfl|rfl<;>simp [b1,b2]
 simp only
 have h2:(decide ((a:Int)<0) || decide ((m:Int)<0) || decide ((a:Int)>(n:Int)) || decide ((m:Int)>IntKind.wrap .i64 ((n:Int)-a)) || decide (obj<0) || decide (obj≥S.regs.length))=false:=by
  simp only [Bool.or_eq_false_iff,decide_eq_false_iff_not,A9];omega
 have h3:(decide (IntKind.wrap .i64 (0+(a:Int))>(n:Int)) || decide ((m:Int)>IntKind.wrap .i64 (IntKind.wrap .i64 ((n:Int)-0)-a)))=false:=by
  simp only [Bool.or_eq_false_iff,decide_eq_false_iff_not,A9];omega
 have h4:IntKind.wrap .i64 (IntKind.wrap .i64 ((lo:Int)+0)+a)=((lo+a:Nat):Int):=by simp only [A9];omega
 rw [if_neg hb]
 simp only [h2,hr,h3,h4,Bool.false_eq_true,if_false]
structure Like (S:KS):Prop where
 ok:KOk 0 S
 tabs:S.tabs=S00.tabs
 regs:S.regs=S00.regs
 envs:S.envs=S00.envs
 mem:S.mem.length=2560
theorem Ea9 {S:KS} (k:Like S) {m:List UInt8} (h:m.length=2560):Like (Bm9 S m) :=
 ⟨⟨k.ok.envs,k.ok.tabs,k.ok.space,k.ok.quota,by show m.length≤65536;omega,k.ok.regs,k.ok.may,k.ok.mayl,k.ok.nsect,k.ok.sects,k.ok.now⟩,k.tabs,k.regs,k.envs,h⟩
theorem Ie8:Like S00:=⟨G29,rfl,rfl,rfl,by kernel_rfl⟩
theorem Ia1 (S:KS) (k:Like S) (cap:Int) (b:List UInt8):Like (wrS S cap b):=by
 unfold wrS W9
 split
 ·exact k
 ·exact Ea9 k (by rw [Hk3];exact k.mem)
theorem Dq2:Like S0:=Ia1 S00 Ie8 256 Ab3
def rgP (s:Nat):Rg:=[(1280*s,492),(512,40),(1856,40)]
def frP (S:KS) (s:Nat) (env:Int):Fr:=⟨S,0,env,[256,257,258],rgP s⟩
theorem E86:S00.regs=[(0,492),(1280,492),(512,40),(1856,40)]:=by kernel_rfl
theorem If4:S00.envs.length=18:=by kernel_rfl
structure EnvP (s:Nat) (env:Int):Prop where
 hs:s<2
 he:0≤env∧env<18
 a:Bq0 S00.tabs env 256=some ⟨s,3,0,492,0,0⟩
 b:Bq0 S00.tabs env 257=some ⟨2,3,0,40,0,0⟩
 c:Bq0 S00.tabs env 258=some ⟨3,3,0,40,0,0⟩
theorem Gi2:EnvP 0 0:=⟨by omega,by omega,by kernel_rfl,by kernel_rfl,by kernel_rfl⟩
theorem D07 {s j lo n:Nat} (h:(rgP s)[j]?=some (lo,n)):(j=0∧lo=1280*s∧n=492)∨(j=1∧lo=512∧n=40)∨(j=2∧lo=1856∧n=40):=by
 unfold rgP at h
 match j,h with
 | 0,h=>simp at h;omega
 | 1,h=>simp at h;omega
 | 2,h=>simp at h;omega
 | j+3,h=>simp at h
theorem Eb4 {S:KS} (k:Like S) {s:Nat} (hs:s<2) (env:Int):∀ (j lo n:Nat),(frP S s env).rg[j]?=some (lo,n)→lo+n≤(frP S s env).S.mem.length:=by
 intro j lo n h
 have hm:=k.mem
 have:=D07 h
 show lo+n≤S.mem.length
 omega
theorem Ga9 {S:KS} (k:Like S) {s:Nat} {env:Int} (e:EnvP s env):FrOk (frP S s env):=by
 have hs:=e.hs;have he:=e.he
 refine ⟨k.ok,by simp [frP],by simp [frP],by simp [frP],by simp [frP,rgP],?_,?_,?_,⟨1280*s,rfl⟩,?_⟩
 ·show ¬ (env<0∨env≥(S.envs.length:Int))
  rw [k.envs,If4];omega
 ·intro j cap lo n hc hr
  show ∀ (a m:Nat) (right:Int),right=1∨right=2→a+m≤n→O4 S.tabs S.regs env cap right a m=_
  have hg:=D07 hr
  rcases hg with ⟨rfl,rfl,rfl⟩|⟨rfl,rfl,rfl⟩|⟨rfl,rfl,rfl⟩
  ·cases hc
   refine Hm3 (obj:=s) (e1:=0) (e2:=0) (by rw [k.tabs];exact e.a) (by omega) ?_ (by omega)
   rw [k.regs,E86,Int.toNat_natCast]
   match s,hs with
   | 0,_=>rfl
   | 1,_=>rfl
  ·cases hc
   exact Hm3 (obj:=2) (e1:=0) (e2:=0) (by rw [k.tabs];exact e.b) (by omega) (by rw [k.regs,E86];rfl) (by omega)
  ·cases hc
   exact Hm3 (obj:=3) (e1:=0) (e2:=0) (by rw [k.tabs];exact e.c) (by omega) (by rw [k.regs,E86];rfl) (by omega)
 ·intro i j lo n lo' n' hij hi hj
  have h1:=D07 hi;have h2:=D07 hj
  omega
 ·intro j lo n h0 h
  have:=D07 h;omega
abbrev F0:Fr:=frP S0 0 0
def X0:CX:=⟨Bz7 S0.mem (rgP 0),[]⟩
theorem H56:FrOk F0:=Ga9 Dq2 Gi2
theorem H31 (A:PlA):Ct B0 Be9 [.agg ⟨Eq7 A81 A⟩] (Di3 A81 A) fun v own =>
  ∃ k c w m,v=.tuple ⟨[P0 k,P0 c,P0 w,P0 m]⟩∧own [cmC c k F0 X0,rkC w K0,rcC m w 0 (By8 K0 0) []]:=by
 intro h r o
 obtain ⟨v,h',e,k,c,w,m,hv,o2⟩:=H68 A h r o
 refine ⟨v,h',e,k,c,w,m,hv,?_⟩
 exact Own.cmTake c k F0 [] H56 (Eb4 Dq2 (by omega) 0) o2
theorem Ig2 {y m:Int} (h:0≤y):Int.tmod y m=y%m:=Int.tmod_eq_emod_of_nonneg h
theorem Y9 {x:Int} (h:0≤x∧x<256):((b8 x).toNat:Int)=x:=by rw [← Bg1,Dh7];omega
theorem Gy2 {p:PipeS} (h:okP p=true):U5 (I6 p)=(p,1):=by
 have hk:=h
 simp only [okP,Bool.and_eq_true,decide_eq_true_eq] at h
 have e:Bb5 (I6 p)=p:=by
  obtain ⟨a,b,c,d,l,hl⟩:=p
  simp only at h
  have h1:=Y9 (x:=a) (by omega);have h2:=Y9 (x:=b) (by omega);have h3:=Y9 (x:=c) (by omega);have h4:=Y9 (x:=d) (by omega)
  simp [Bb5,I6,Ag4,D36 hl]
  exact ⟨h1,h2,h3,h4⟩
 have hz:(I6 p).all (·==0)=false:=by simp [I6,Ag4]
 unfold U5 isP
 rw [hz,e,hk]
 simp
theorem E46 {l b:List UInt8} {a c n:Nat} (h:a+b.length≤l.length) (hd:c+n≤a∨a+b.length≤c):slice (J4 l a b) c n=slice l c n:=by
 refine List.ext_getElem? fun i=>?_
 rw [Bu0,Bu0]
 split
 ·rw [Bj7 h,if_neg (by omega)]
 ·rfl
theorem E75 {l b:List UInt8} {a:Nat} (h:a+b.length≤l.length):slice (J4 l a b) a b.length=b:=by
 refine List.ext_getElem? fun i=>?_
 rw [Bu0]
 split
 ·rw [Bj7 h,if_pos (by omega)];congr 1;omega
 ·rw [List.getElem?_eq_none (by omega)]
abbrev H59:List Int:=[256,257,258]
structure InS (p:ProcS):Prop where
 a:0≤p.pending∧p.pending≤65535
 b:0≤p.mask∧p.mask≤65535
 c:0≤p.ignored∧p.ignored≤65535
 d:0≤p.caught∧p.caught≤65535
theorem Gt6 {p:ProcS} (h:okS p=true) (r:InS p):Z6 (Au0 p)=(p,1):=by
 have hk:=h
 obtain ⟨ra,rb,rc,rd⟩:=r
 have e:Bb6 (Au0 p)=p:=by
  obtain ⟨st,pa,gr,co,pe,ma,ig,ca,fds,hl⟩:=p
  simp only at ra rb rc rd
  unfold okS at h
  simp only [Bool.and_eq_true,Bool.not_eq_true',Bool.or_eq_false_iff,decide_eq_false_iff_not,List.any_eq_false] at h
  match fds,hl with
  | [f0,f1,f2,f3,f4,f5,f6,f7],hl =>
   have hf:=h.2.2.1
   simp at hf
   have two_b:∀ n:Int,0≤n∧n≤65535→((hi2 n).toNat:Int)*256+((lo2 n).toNat:Int)=n:=fun n hn=>by
    unfold hi2 lo2
    rw [if_pos hn,if_pos hn,Y9 (by omega),← Bg1,Dh7];omega
   have g0:=h.1
   simp only [Bb6,Au0,D35,two]
   simp
   refine ⟨Y9 (by omega),Y9 (by omega),Y9 (by omega),Y9 (by omega),two_b _ ra,two_b _ rb,two_b _ rc,two_b _ rd,Y9 (by omega),Y9 (by omega),Y9 (by omega),Y9 (by omega),Y9 (by omega),Y9 (by omega),Y9 (by omega),Y9 (by omega)⟩
 have hz:(Au0 p).all (·==0)=false:=by
  simp [Au0,D35]
 unfold Z6 isS
 rw [hz,e,hk]
 simp
theorem Id6:D83 0 0=true:=by kernel_rfl
def stR (kind:Int) (l:List UInt8):Int:=if kind=1 then (Z6 l).2 else if kind=2 then (Z3 l).2 else if kind=5 then (Ar4 l).2 else (U5 l).2
def rd (X:CX) (r:RecS):List UInt8 :=
 match G4 X.m.length r with
 | some (j,a,n)=>slice (X.m.getD j []) a n
 | none=>[]
structure Clean (nc:Nat) (X:CX):Prop where
 len:X.m.length=nc
 pos:0<nc
 bad:X.bad=[]
 own:(X.m.getD 0 []).length=492
 brs:∀ j,0<j→j<nc→(X.m.getD j []).length=40
 ok:∀ r:RecS,1≤r.kind→r.kind≤5→0≤r.index→r.index<W0 nc r.kind→stR r.kind (rd X r)≠2
structure Rin (nc:Nat) (r:RecS):Prop where
 a:1≤r.kind
 b:r.kind≤5
 c:0≤r.index
 d:r.index<W0 nc r.kind
theorem Rin.place {nc:Nat} {r:RecS} (h:Rin nc r) (hn:0<nc):∃ j a,G4 nc r=some (j,a,P8 r.kind)∧j<nc∧(j=0→a+P8 r.kind≤492)∧(0<j→a=0∧P8 r.kind=40):=by
 obtain ⟨h1,h2,h3,h4⟩:=h
 obtain ⟨k,i⟩:=r
 simp only at h1 h2 h3 h4
 have hk:k=1∨k=2∨k=3∨k=4∨k=5:=by omega
 unfold G4 P8
 simp only
 rw [if_neg (by omega)]
 rcases hk with rfl|rfl|rfl|rfl|rfl
 ·exact ⟨0,_,rfl,hn,fun _=>by simp [W0] at h4 ⊢;omega,fun h=>by omega⟩
 ·exact ⟨0,_,rfl,hn,fun _=>by simp [W0] at h4 ⊢;omega,fun h=>by omega⟩
 ·simp only [W0] at h4
  by_cases h5:i<4
  ·exact ⟨0,_,by simp [h5];rfl,hn,fun _=>by simp;omega,fun h=>by omega⟩
  ·exact ⟨i.toNat-3,0,by simp [h5],by simp at h4;omega,fun h=>by omega,fun _=>⟨rfl,rfl⟩⟩
 ·exact ⟨0,_,rfl,hn,fun _=>by simp,fun h=>by omega⟩
 ·exact ⟨0,_,rfl,hn,fun _=>by simp,fun h=>by omega⟩
theorem H20 {nc:Nat} {r r':RecS} (h:Rin nc r) (h':Rin nc r') (ne:r≠r') {j a n j' a' n':Nat} (e:G4 nc r=some (j,a,n)) (e':G4 nc r'=some (j',a',n')):j≠j'∨a+n≤a'∨a'+n'≤a:=by
 obtain ⟨h1,h2,h3,h4⟩:=h
 obtain ⟨g1,g2,g3,g4⟩:=h'
 obtain ⟨k,i⟩:=r
 obtain ⟨k',i'⟩:=r'
 simp only at h1 h2 h3 h4 g1 g2 g3 g4
 have ne':k≠k'∨i≠i':=by
  by_cases hk:k=k'
  ·right;intro hi;exact ne (by rw [hk,hi])
  ·exact .inl hk
 unfold G4 at e e'
 simp only at e e'
 rw [if_neg (by omega)] at e e'
 unfold W0 at h4 g4
 have hk:k=1∨k=2∨k=3∨k=4∨k=5:=by omega
 have hk':k'=1∨k'=2∨k'=3∨k'=4∨k'=5:=by omega
 have fin:∀ {x y:Nat × Nat × Nat},some x=some y→x=y:=fun h=>by cases h;rfl
 rcases hk with rfl|rfl|rfl|rfl|rfl<;>rcases hk' with rfl|rfl|rfl|rfl|rfl<;>simp at e e' h4 g4 ne'<;>(try split at e)<;>(try split at e')<;>(try simp at e e')<;>omega
def Bw2 (X:CX) (r:RecS) (b:List UInt8):CX :=
 match G4 X.m.length r with
 | some (j,a,_)=>{ X with m:=X.m.set j (J4 (X.m.getD j []) a b) }
 | none=>X
theorem E23 (l:List (List UInt8)) (j j':Nat) (x:List UInt8) (h:j<l.length):(l.set j x).getD j' []=if j'=j then x else l.getD j' []:=by
 rw [List.getD_eq_getElem?_getD,List.getD_eq_getElem?_getD,List.getElem?_set]
 by_cases hj:j=j'
 ·subst hj;simp [h]
 ·rw [if_neg hj,if_neg (fun e=>hj e.symm)]
section
variable {nc:Nat} {X:CX} (c:Clean nc X) {r r':RecS} (h:Rin nc r) (h':Rin nc r')
include c h
theorem Ho9:rdX X r=some (rd X r):=by
 obtain ⟨j,a,e,_⟩:=h.place c.pos
 unfold rdX rd
 rw [c.len,e]
 simp [c.bad]
theorem B92 (b:List UInt8):wrX X r b true=(true,Bw2 X r b):=by
 obtain ⟨j,a,e,_⟩:=h.place c.pos
 unfold wrX Bw2
 rw [c.len,e]
 simp [c.bad]
theorem El4 {j a n:Nat} (e:G4 nc r=some (j,a,n)):a+n≤(X.m.getD j []).length∧j<X.m.length∧n=P8 r.kind:=by
 obtain ⟨j',a',e',hj,h0,h1⟩:=h.place c.pos
 rw [e] at e';cases e'
 rw [c.len]
 by_cases hz:j=0
 ·subst hz;rw [c.own];exact ⟨h0 rfl,hj,rfl⟩
 ·rw [c.brs j (by omega) hj]
  have:=h1 (by omega)
  exact ⟨by omega,hj,rfl⟩
include h'
theorem Al9 {b:List UInt8} (hb:b.length=P8 r.kind):rd (Bw2 X r b) r'=if r'=r then b else rd X r':=by
 obtain ⟨j,a,e,_⟩:=h.place c.pos
 obtain ⟨j',a',e',_⟩:=h'.place c.pos
 have p:=El4 c h e
 have p':=El4 c h' e'
 have es:Bw2 X r b={ X with m:=X.m.set j (J4 (X.m.getD j []) a b) }:=by unfold Bw2;rw [c.len,e]
 have el:(Bw2 X r b).m.length=nc:=by rw [es];simp [c.len]
 unfold rd
 rw [el,e',c.len,e',es]
 simp only
 rw [E23 _ _ _ _ p.2.1]
 by_cases hr:r'=r
 ·subst hr
  rw [e] at e';cases e'
  rw [if_pos rfl,if_pos rfl]
  have:=E75 (l:=X.m.getD j []) (b:=b) (a:=a) (by omega)
  rwa [hb] at this
 ·rw [if_neg hr]
  by_cases hj:j'=j
  ·subst hj
   rw [if_pos rfl]
   have dj:=H20 h' h hr e' e
   exact E46 (by omega) (by omega)
  ·rw [if_neg hj]
end
theorem B75 {nc:Nat} {X:CX} (c:Clean nc X) {r:RecS} (h:Rin nc r) {b:List UInt8} (hb:b.length=P8 r.kind) (hs:stR r.kind b≠2):Clean nc (Bw2 X r b):=by
 obtain ⟨j,a,e,_⟩:=h.place c.pos
 have p:=El4 c h e
 have es:Bw2 X r b={ X with m:=X.m.set j (J4 (X.m.getD j []) a b) }:=by unfold Bw2;rw [c.len,e]
 refine ⟨by rw [es];simp [c.len],c.pos,by rw [es];exact c.bad,?_,?_,?_⟩
 ·rw [es];simp only
  rw [E23 _ _ _ _ p.2.1]
  split
  ·rename_i h0;subst h0;rw [Ad3 (by omega)];exact c.own
  ·exact c.own
 ·intro i h0 h1
  rw [es];simp only
  rw [E23 _ _ _ _ p.2.1]
  split
  ·rename_i h2;subst h2;rw [Ad3 (by omega)];exact c.brs i h0 h1
  ·exact c.brs i h0 h1
 ·intro r' h1 h2 h3 h4
  rw [Al9 c h ⟨h1,h2,h3,h4⟩ hb]
  split
  ·rename_i hr;rw [hr];exact hs
  ·exact c.ok r' h1 h2 h3 h4
theorem B97 {α:Type} (dec:List UInt8→α × Int) (z:α) {nc:Nat} {X:CX} (c:Clean nc X) {r:RecS} (h:Rin nc r) (hd:(dec (rd X r)).2=stR r.kind (rd X r)):S6 dec z X r=(dec (rd X r),X):=by
 unfold S6
 rw [Ho9 c h]
 simp only
 rw [if_neg (by rw [hd];exact c.ok r h.a h.b h.c h.d)]
abbrev vS (X:CX) (i:Int):ProcS × Int:=Z6 (rd X ⟨1,i⟩)
abbrev vF (X:CX) (i:Int):FileS × Int:=Z3 (rd X ⟨2,i⟩)
abbrev vP (X:CX) (i:Int):PipeS × Int:=U5 (rd X ⟨3,i⟩)
theorem Dm8 {nc:Nat} {i:Int} (h:0≤i∧i<8):Rin nc ⟨1,i⟩:=⟨by simp,by simp,h.1,h.2⟩
theorem Bk9 {nc:Nat} {i:Int} (h:0≤i∧i<12):Rin nc ⟨2,i⟩:=⟨by simp,by simp,h.1,h.2⟩
theorem Bl5 {nc:Nat} {i:Int} (h:0≤i∧i<3+nc):Rin nc ⟨3,i⟩:=⟨by simp,by simp,h.1,h.2⟩
theorem Dy7 {nc:Nat} {X:CX} (c:Clean nc X) {i:Int} (h:0≤i∧i<8):D75 X i=(vS X i,X):=B97 Z6 .zero c (Dm8 h) rfl
theorem Bb3 {nc:Nat} {X:CX} (c:Clean nc X) {i:Int} (h:0≤i∧i<12):D58 X i=(vF X i,X):=B97 Z3 .zero c (Bk9 h) rfl
theorem Dx2 {nc:Nat} {X:CX} (c:Clean nc X) {i:Int} (h:0≤i∧i<3+nc):Dg0 X i=(vP X i,X):=B97 U5 .zero c (Bl5 h) rfl
theorem Dh0 {f:CX→Int→CX} {X:CX}:∀ (m:Nat) (i:Int),(∀ j,i≤j→j<i+m→f X j=X)→Dh5 f m i X=X
 | 0,_,_=>rfl
 | m+1,i,h=>by
  unfold Dh5
  rw [h i (by omega) (by omega)]
  exact Dh0 m (i+1) fun j h1 h2=>h j (by omega) (by omega)
theorem E80 {nc:Nat} {X:CX} (c:Clean nc X):E94 X=X:=by
 have h3:Gc4 X=X:=by
  unfold Gc4
  have e1:Eq9 X=(U5 (rd X ⟨4,0⟩),X):=B97 U5 .zero c ⟨by simp,by simp,by simp,by simp [W0]⟩ rfl
  have e2:Ej7 X=(Ar4 (rd X ⟨5,0⟩),X):=B97 Ar4 0 c ⟨by simp,by simp,by simp,by simp [W0]⟩ rfl
  rw [e1];simp only;rw [e2]
 have hl:=c.len
 unfold E94 lookN Gz7 G18
 rw [Dh0 8 0 (fun j h1 h2=>by rw [Dy7 c (by omega)])]
 rw [Dh0 12 0 (fun j h1 h2=>by rw [Bb3 c (by omega)])]
 rw [Dh0 (3+X.m.length) 0 (fun j h1 h2=>by rw [Dx2 c (by omega)]),h3]
theorem Gy8 {f:FileS} (h:okF f=true):Z3 (Ah7 f)=(f,1):=by
 have hk:=h
 simp only [okF,Bool.and_eq_true,Bool.or_eq_true,decide_eq_true_eq,beq_iff_eq,bne_iff_ne] at h
 have e:B37 (Ah7 f)=f:=by
  obtain ⟨a,b,c,d⟩:=f
  simp only at h
  have h1:=Y9 (x:=a) (by omega);have h2:=Y9 (x:=b) (by omega);have h3:=Y9 (x:=c) (by omega);have h4:=Y9 (x:=d) (by omega)
  simp [B37,Ah7,A61]
  exact ⟨h1,h2,h3,h4⟩
 have hz:(Ah7 f).all (·==0)=false:=by simp [Ah7,A61]
 unfold Z3 isF
 rw [hz,e,hk]
 simp
section
variable {nc:Nat} {X:CX} (c:Clean nc X)
include c
abbrev Ay7 (X:CX) (i:Int) (p:ProcS):CX:=Bw2 X ⟨1,i⟩ (Au0 p)
abbrev Au1 (X:CX) (i:Int) (f:FileS):CX:=Bw2 X ⟨2,i⟩ (Ah7 f)
theorem Bi1 {i:Int} (h:0≤i∧i<8) {p:ProcS} (ok:okS p=true) (r:InS p) :
  Bf5 X i p=(true,Ay7 X i p)∧Clean nc (Ay7 X i p)∧(∀ j:Int,0≤j∧j<8→vS (Ay7 X i p) j=if j=i then (p,1) else vS X j)∧(∀ j:Int,0≤j∧j<12→vF (Ay7 X i p) j=vF X j)∧(∀ j:Int,0≤j∧j<3+nc→vP (Ay7 X i p) j=vP X j):=by
 have hl:(Au0 p).length=P8 (1:Int):=by rw [D96];rfl
 refine ⟨by unfold Bf5;rw [ok];exact B92 c (Dm8 h) _,B75 c (Dm8 h) hl (by show (Z6 (Au0 p)).2≠2;rw [Gt6 ok r];simp),fun j hj=>?_,fun j hj=>?_,fun j hj=>?_⟩
 ·show Z6 (rd _ _)=_
  rw [Al9 c (Dm8 h) (Dm8 hj) hl]
  by_cases e:j=i
  ·rw [if_pos (by rw [e]),if_pos e];exact Gt6 ok r
  ·rw [if_neg (by simp [e]),if_neg e]
 ·show Z3 (rd _ _)=_
  rw [Al9 c (Dm8 h) (Bk9 hj) hl,if_neg (by simp)]
 ·show U5 (rd _ _)=_
  rw [Al9 c (Dm8 h) (Bl5 hj) hl,if_neg (by simp)]
theorem Ah6 {i:Int} (h:0≤i∧i<12) {f:FileS} (ok:okF f=true) :
  Bh6 X i f=(true,Au1 X i f)∧Clean nc (Au1 X i f)∧(∀ j:Int,0≤j∧j<8→vS (Au1 X i f) j=vS X j)∧(∀ j:Int,0≤j∧j<12→vF (Au1 X i f) j=if j=i then (f,1) else vF X j)∧(∀ j:Int,0≤j∧j<3+nc→vP (Au1 X i f) j=vP X j):=by
 have hl:(Ah7 f).length=P8 (2:Int):=by rw [Dn9];rfl
 refine ⟨by unfold Bh6;rw [ok];exact B92 c (Bk9 h) _,B75 c (Bk9 h) hl (by show (Z3 (Ah7 f)).2≠2;rw [Gy8 ok];simp),fun j hj=>?_,fun j hj=>?_,fun j hj=>?_⟩
 ·show Z6 (rd _ _)=_
  rw [Al9 c (Bk9 h) (Dm8 hj) hl,if_neg (by simp)]
 ·show Z3 (rd _ _)=_
  rw [Al9 c (Bk9 h) (Bk9 hj) hl]
  by_cases e:j=i
  ·rw [if_pos (by rw [e]),if_pos e];exact Gy8 ok
  ·rw [if_neg (by simp [e]),if_neg e]
 ·show U5 (rd _ _)=_
  rw [Al9 c (Bk9 h) (Bl5 hj) hl,if_neg (by simp)]
theorem If8 {i:Int} (h:0≤i∧i<8):((vS X i).2=0∧(vS X i).1=.zero)∨((vS X i).2=1∧okS (vS X i).1=true):=by
 have:=c.ok ⟨1,i⟩ (by simp) (by simp) h.1 h.2
 have hk:(vS X i).2≠2:=this
 unfold vS Z6 at hk ⊢
 split
 ·exact .inl ⟨rfl,rfl⟩
 ·split
  ·rename_i h2
   unfold isS at h2
   simp only [Bool.and_eq_true] at h2
   exact .inr ⟨rfl,h2.1⟩
  ·rename_i h1 h2;simp [h1,h2] at hk
theorem Gr9 {i:Int} (h:0≤i∧i<12):((vF X i).2=0∧(vF X i).1=.zero)∨((vF X i).2=1∧okF (vF X i).1=true):=by
 have:=c.ok ⟨2,i⟩ (by simp) (by simp) h.1 h.2
 have hk:(vF X i).2≠2:=this
 unfold vF Z3 at hk ⊢
 split
 ·exact .inl ⟨rfl,rfl⟩
 ·split
  ·rename_i h2
   unfold isF at h2
   simp only [Bool.and_eq_true] at h2
   exact .inr ⟨rfl,h2.1⟩
  ·rename_i h1 h2;simp [h1,h2] at hk
end
abbrev O6 (n e:Int) (b:Bool):List Value:=[int n,int e,.slice none 0 0,.bool b]
theorem Es6 (e:Int):Ct B0 Ay3 [int e] [] fun v own=>v=.agg ⟨O6 0 e false⟩∧own []:=by
 refine Ct.of G90 rfl fun h r=>Tr.eq (Hc6 ..) ?_;refine Je ?_
 (refine Ja ?_;unhygienic intros)
 refine Ys fun o=>?_
 exact ⟨rfl,o.sub⟩
theorem Eq8 (ok:Bool) (n:Int):Ct B0 Ay0 [.bool ok,int n] [] fun v own=>v=.agg ⟨if ok then O6 n 0 false else O6 0 105 false⟩∧own []:=by
 refine Ct.of G97 rfl fun h r=>Tr.eq (Hb2 ..) ?_;refine Je ?_
 cases ok with
 | true =>
  (refine Ja ?_;unhygienic intros)
  refine Ys fun o=>?_
  exact ⟨rfl,o.sub⟩
 | false =>
  (refine Ja ?_;unhygienic intros)
  refine Yc (Es6 105) ?_;rintro _ h ⟨rfl,o⟩<;>(refine Jf o ?_;unhygienic intros)
  refine Ys fun o=>?_
  exact ⟨rfl,o.sub⟩
def J7 (X:CX) (i:Int):ProcS × Int:=if (vS X i).2=1∧(vS X i).1.state=1 then ((vS X i).1,0) else (.zero,105)
theorem Et5 (b k:Nat) (F:Fr) (X:CX) (ok:FrOk F) {nc:Nat} (c:Clean nc X) (i:Int) (hi:0≤i∧i<8):Ct B0 Ay8 [P0 b,int i] [cmC b k F X] fun v own=>v=.tuple ⟨[.agg ⟨D4 (J7 X i).1⟩,int (J7 X i).2]⟩∧own [cmC b k F X]:=by
 refine Ct.of G56 rfl fun h r=>Tr.eq (G63 ..) ?_;refine Je ?_
 (refine Jc ?_;unhygienic intros)
 refine Yn fun b0 h=>?_
 refine Yc (He5 b k F X ok) ?_;rintro _ h ⟨rfl,o⟩<;>refine Jh o ?_
 rw [E80 c]
 (refine Ja ?_;unhygienic intros)
 refine Yc (E05 b k F X ok i) ?_;rintro _ h ⟨rfl,o⟩<;>refine Jh o ?_
 rw [Dy7 c hi]
 dsimp only
 (refine Jc ?_;unhygienic intros)
 refine Yn fun b1 h=>?_
 (refine Jb ?_;unhygienic intros)
 refine Tr.orG (c:=(vS X i).1.state != 1) (fun hb=>?_) ?_
 ·exact Jz
 unfold J7
 by_cases h1:(vS X i).2=1∧(vS X i).1.state=1
 ·rw [if_pos h1]
  refine Yf (by simp [h1.1,h1.2]) ?_
  (refine Ja ?_;unhygienic intros)
  refine Ys fun o=>?_
  exact ⟨rfl,o.sub⟩
 ·rw [if_neg h1]
  refine Yt (by simp;by_cases h2:(vS X i).2=1<;>simp [h2] at h1 ⊢;exact h1) ?_
  (refine Ja ?_;unhygienic intros)
  refine Ys fun o=>?_
  exact ⟨rfl,o.sub⟩
def Ai8 (X:CX):Nat→Int→Int
 | 0,_=>-1
 | m+1,i=>if (vS X i).2=0 then i else Ai8 X m (i+1)
theorem Hm4 (b k:Nat) (F:Fr) (X:CX) (ok:FrOk F) {nc:Nat} (c:Clean nc X):∀ (m:Nat) (i:Int),0≤i→i+m=8 →
  CtJ G6 Ap7 Bi9 [(0,P0 b),(6,int i)] [cmC b k F X] fun v own=>v=int (Ai8 X m i)∧own [cmC b k F X]:=by
 intro m
 induction m with
 | zero =>
  intro i h0 hi
  refine CtJ.of Dw6 fun h r=>Tr.eq (D10 ..) ?_;refine Je ?_
  refine Yf (by simp;omega) ?_
  refine Ys fun o=>?_
  exact ⟨rfl,o.sub⟩
 | succ m ih =>
  intro i h0 hi
  have e1:IntKind.wrap .i64 (i+1)=i+1:=by rw [A9];omega
  refine CtJ.of Dw6 fun h r=>Tr.eq (D10 ..) ?_;refine Je ?_
  refine Yt (by simp;omega) ?_
  refine Yc (E05 b k F X ok i) ?_;rintro _ h ⟨rfl,o⟩<;>refine Jh o ?_
  rw [Dy7 c (by omega)]
  dsimp only
  (refine Jc ?_;unhygienic intros)
  refine Yn fun b1 h=>?_
  (refine Ja ?_;unhygienic intros)
  rw [show Ai8 X (m+1) i=if (vS X i).2=0 then i else Ai8 X m (i+1) from rfl]
  by_cases h1:(vS X i).2=0
  ·rw [if_pos h1]
   refine Yt (by simpa using h1) ?_
   refine Ys fun o=>?_
   exact ⟨rfl,o.sub⟩
  ·rw [if_neg h1,e1]
   refine Yf (by simpa using h1) ?_
   refine P6 [1] 1 rfl rfl ?_
   refine Yr (ih (i+1) (by omega) (by omega)) ?_
   intro v h q
   exact q
theorem H71 (b k:Nat) (F:Fr) (X:CX) (ok:FrOk F) {nc:Nat} (c:Clean nc X):Ct B0 Ap7 [P0 b] [cmC b k F X] fun v own=>v=int (Ai8 X 8 0)∧own [cmC b k F X]:=by
 refine Ct.of Dw6 rfl fun h r=>Tr.eq (Hc3 ..) ?_;refine Je ?_
 refine Yr (Hm4 b k F X ok c 8 0 (by omega) (by omega)) ?_
 intro v h q
 exact q
def Bj1:List Int→List Int→List Int
 | [],m=>m
 | f::l,m=>Bj1 l (if f>0 then m.set (f-1).toNat (m.getD (f-1).toNat 0+1) else m)
def Ab5 (n:Int) (m:List Int):Prop:=m.length=12∧∀ x ∈ m,0≤x∧x≤n
theorem Ab5.get {n:Int} {m:List Int} (h:Ab5 n m) {j:Nat} (hj:j<12):0≤m.getD j 0∧m.getD j 0≤n:=by
 have hl:=h.1
 have e:m[j]?=some m[j]:=List.getElem?_eq_getElem (by omega)
 rw [List.getD_eq_getElem?_getD,e]
 exact h.2 _ (List.getElem_mem _)
theorem Ab5.set {n:Int} {m:List Int} (h:Ab5 n m) {j:Nat} (hj:j<12):Ab5 (n+1) (m.set j (m.getD j 0+1)):=by
 refine ⟨by simpa using h.1,fun x hx=>?_⟩
 rcases List.mem_or_eq_of_mem_set hx with h2|rfl
 ·have:=h.2 x h2;omega
 ·have:=h.get hj;omega
theorem Ab5.up {n:Int} {m:List Int} (h:Ab5 n m):Ab5 (n+1) m:=⟨h.1,fun x hx=>by have:=h.2 x hx;omega⟩
theorem Gw3 {m:List Int} {j:Nat} (h:j<m.length) (v:Int):Dj2 (m.map int) j (int v)=some ((m.set j v).map int):=by
 rw [Dj2,show Nat.blt j (m.map int).length=true from Nat.ble_eq_true_of_le (by simp;omega),List.map_set];rfl
def By9 (l:List Int):Prop:=∀ f ∈ l,0≤f∧f≤12
theorem Ep4 {l:List Int} {i:Nat} (h:i<l.length):(l.map int)[i]?=some (int (l.getD i 0)):=by rw [List.getElem?_map,N3 0 h];rfl
theorem Hb5 (b k:Nat) (F:Fr) (X:CX) (b0 b1:Nat) (p:ProcS) (hf:By9 p.fds) (Φ:Value→(List HP→Prop)→Prop) (M:List Int)
  (next:CtJ G6 E9 Aj8 [(0,P0 b),(5,P0 b1),(31,.agg ⟨p.fds.map int⟩),(32,int 0)] [pt b1 (.cells D60 false (M.map int)),cmC b k F X] Φ) :
  ∀ (m i:Nat) (more:List Int),i+m=8→Ab5 i more→Bj1 (p.fds.drop i) more=M →
  CtJ G6 E9 Av7 [(0,P0 b),(3,P0 b0),(5,P0 b1),(17,.agg ⟨p.fds.map int⟩),(18,int i)] [pt b1 (.cells D60 false (more.map int)),pt b0 (.cells D1 false (D4 p)),cmC b k F X] Φ:=by
 intro m
 induction m with
 | zero =>
  intro i more hi hm hM
  have:i=8:=by omega
  subst this
  rw [show p.fds.drop 8=[] from List.drop_eq_nil_of_le (by rw [p.len];omega),show Bj1 [] more=more from rfl] at hM
  subst hM
  refine CtJ.of Ar9 fun h r=>Tr.eq (Ds4 ..) ?_;refine Je ?_
  refine Yf (by simp) ?_
  (refine Ja ?_;unhygienic intros)
  refine P6 [0,1] 1 rfl rfl ?_
  refine Yr next ?_
  intro v h q
  exact q
 | succ m ih =>
  intro i more hi hm hM
  have e1:IntKind.wrap .i64 ((i:Int)+1)=((i+1:Nat):Int):=by rw [A9];omega
  have hil:i<p.fds.length:=by rw [p.len];omega
  have hg:=Ep4 hil
  have hd:p.fds.drop i=p.fds.getD i 0::p.fds.drop (i+1):=by
   rw [List.drop_eq_getElem_cons hil,List.getD_eq_getElem?_getD,List.getElem?_eq_getElem hil];rfl
  have hr:0≤p.fds.getD i 0∧p.fds.getD i 0≤12:=hf _ (by
   rw [List.getD_eq_getElem?_getD,List.getElem?_eq_getElem hil];exact List.getElem_mem _)
  rw [hd] at hM
  generalize p.fds.getD i 0=f at hg hr hM
  rw [show Bj1 (f::p.fds.drop (i+1)) more=Bj1 (p.fds.drop (i+1)) (if f>0 then more.set (f-1).toNat (more.getD (f-1).toNat 0+1) else more) from rfl] at hM
  refine CtJ.of Ar9 fun h r=>Tr.eq (Ds4 ..) ?_;refine Je ?_
  refine Yt (by simp;omega) ?_
  rw [e1]
  refine Tr.ck (by omega) ?_
  rw [Int.toNat_natCast]
  (refine Ja ?_;unhygienic intros)
  by_cases hz:f>0
  ·have e2:IntKind.wrap .i64 (f-1)=f-1:=by rw [A9];omega
   have hj:(f-1).toNat<12:=by omega
   have hm2:=hm.get hj
   have e3:IntKind.wrap .i64 (more.getD (f-1).toNat 0+1)=more.getD (f-1).toNat 0+1:=by rw [A9];omega
   have hgm:=Ep4 (l:=more) (i:=(f-1).toNat) (by rw [hm.1];exact hj)
   rw [if_pos hz] at hM
   rw [e2]
   refine Yt (by simpa using hz) ?_
   (refine Ja ?_;unhygienic intros)
   rw [e3]
   refine Gs (fun h=>?_) (by exact Gw3 (by rw [hm.1];exact hj) _)
   refine Yr (ih (i+1) (more.set (f-1).toNat (more.getD (f-1).toNat 0+1)) (by omega) (by rw [show ((i+1:Nat):Int)=(i:Int)+1 by omega];exact hm.set hj) hM) ?_
   intro v h q
   exact q
  ·rw [if_neg hz] at hM
   refine Yf (by simpa using hz) ?_
   refine Yr (ih (i+1) more (by omega) (by simpa using hm.up) hM) ?_
   intro v h q
   exact q
def Ab4 (X:CX) (more:List Int):List Int→Int
 | []=>0
 | f::l=>if f=0 then Ab4 X more l else if (vF X (f-1)).2≠1 then 105 else if (vF X (f-1)).1.refs+more.getD (f-1).toNat 0>64 then 123 else Ab4 X more l
theorem Es9 {f:FileS} (h:okF f=true):1≤f.refs∧f.refs≤64:=by
 simp only [okF,Bool.and_eq_true,Bool.or_eq_true,decide_eq_true_eq,beq_iff_eq,bne_iff_ne] at h
 omega
theorem Ge7 {nc:Nat} {X:CX} (c:Clean nc X) {i:Int} (h:0≤i∧i<12):0≤(vF X i).1.refs∧(vF X i).1.refs≤64:=by
 rcases Gr9 c h with ⟨_,h1⟩|⟨_,h1⟩
 ·rw [h1];simp
 ·have:=Es9 h1;omega
theorem Ha7 (b k:Nat) (F:Fr) (X:CX) (ok:FrOk F) {nc:Nat} (c:Clean nc X) (b1:Nat) (fds more:List Int) (hl:fds.length=8) (hf:By9 fds) (hm:Ab5 8 more) (Φ:Value→(List HP→Prop)→Prop)
  (bad:∀ (e:Int),Ab4 X more fds=e→e≠0→∀ h r,Own h (cmC b k F X::r)→Φ (int e) fun l=>Own h (l++r))
  (next:Ab4 X more fds=0→CtJ G6 E9 Aj9 [(0,P0 b),(57,.agg ⟨more.map int⟩),(58,int 0)] [cmC b k F X] Φ) :
  ∀ (m i:Nat),i+m=8→Ab4 X more fds=Ab4 X more (fds.drop i) →
  CtJ G6 E9 Aj8 [(0,P0 b),(5,P0 b1),(31,.agg ⟨fds.map int⟩),(32,int i)] [pt b1 (.cells D60 false (more.map int)),cmC b k F X] Φ:=by
 intro m
 induction m with
 | zero =>
  intro i hi he
  have:i=8:=by omega
  subst this
  rw [show fds.drop 8=[] from List.drop_eq_nil_of_le (by omega),show Ab4 X more []=0 from rfl] at he
  have hl12:Dg6 (more.map int) 0 12=some (more.map int):=Da2 (by simp [hm.1])
  refine CtJ.of Ar9 fun h r=>Tr.eq (Dq3 ..) ?_;refine Je ?_
  refine Yf (by simp) ?_
  refine Gs ?_ (by exact hl12)
  refine P6 [1] 1 rfl rfl ?_
  refine Yr (next he) ?_
  intro v h q
  exact q
 | succ m ih =>
  intro i hi he
  have e1:IntKind.wrap .i64 ((i:Int)+1)=((i+1:Nat):Int):=by rw [A9];omega
  have hil:i<fds.length:=by omega
  have hg:=Ep4 hil
  have hd:fds.drop i=fds.getD i 0::fds.drop (i+1):=by
   rw [List.drop_eq_getElem_cons hil,List.getD_eq_getElem?_getD,List.getElem?_eq_getElem hil];rfl
  have hr:0≤fds.getD i 0∧fds.getD i 0≤12:=hf _ (by
   rw [List.getD_eq_getElem?_getD,List.getElem?_eq_getElem hil];exact List.getElem_mem _)
  rw [hd] at he
  generalize fds.getD i 0=f at hg hr he
  rw [show Ab4 X more (f::fds.drop (i+1))=if f=0 then Ab4 X more (fds.drop (i+1)) else if (vF X (f-1)).2≠1 then 105 else if (vF X (f-1)).1.refs+more.getD (f-1).toNat 0>64 then 123 else Ab4 X more (fds.drop (i+1)) from rfl] at he
  refine CtJ.of Ar9 fun h r=>Tr.eq (Dq3 ..) ?_;refine Je ?_
  refine Yt (by simp;omega) ?_
  rw [e1]
  refine Tr.ck (by omega) ?_
  rw [Int.toNat_natCast]
  (refine Ja ?_;unhygienic intros)
  by_cases hz:f=0
  ·rw [if_pos hz] at he
   refine Yt (by simpa using hz) ?_
   refine Yr (ih (i+1) (by omega) he) ?_
   intro v h q
   exact q
  rw [if_neg hz] at he
  refine Yf (by simpa using hz) ?_
  have e2:IntKind.wrap .i64 (f-1)=f-1:=by rw [A9];omega
  have hj:(f-1).toNat<12:=by omega
  rw [e2]
  refine Yc (B53 b k F X ok (f-1)) ?_;rintro _ h ⟨rfl,o⟩<;>refine Jh o ?_
  rw [Bb3 c (by omega)]
  dsimp only
  (refine Jc ?_;unhygienic intros)
  refine Yn fun b2 h=>?_
  (refine Ja ?_;unhygienic intros)
  by_cases h1:(vF X (f-1)).2=1
  ·rw [if_neg (by simpa using h1)] at he
   refine Yf (by simpa using h1) ?_
   have hm2:=hm.get hj
   have hgm:=Ep4 (l:=more) (i:=(f-1).toNat) (by rw [hm.1];exact hj)
   have hrf:=Ge7 c (i:=f-1) (by omega)
   have e3:IntKind.wrap .i64 ((vF X (f-1)).1.refs+more.getD (f-1).toNat 0)=(vF X (f-1)).1.refs+more.getD (f-1).toNat 0:=by rw [A9];omega
   (refine Ja ?_;unhygienic intros)
   rw [e3]
   by_cases h2:(vF X (f-1)).1.refs+more.getD (f-1).toNat 0>64
   ·rw [if_pos h2] at he
    refine Yt (by simpa using h2) ?_
    refine P6 [1] 2 rfl rfl ?_
    refine Ys fun o=>?_
    exact bad 123 he (by simp) _ _ o
   ·rw [if_neg h2] at he
    refine Yf (by simpa using h2) ?_
    refine P6 [2,1] 1 rfl rfl ?_
    refine Yr (ih (i+1) (by omega) he) ?_
    intro v h q
    exact q
  ·rw [if_pos h1] at he
   refine Yt (by simpa using h1) ?_
   refine P6 [1] 2 rfl rfl ?_
   refine Ys fun o=>?_
   exact bad 105 he (by simp) _ _ o
abbrev Br7 (f:FileS) (n:Int):FileS:=⟨f.kind,f.pipe,f.refs+n,f.flags⟩
def Ba1 (more:List Int):Nat→Int→CX→CX
 | 0,_,X=>X
 | m+1,j,X=>Ba1 more m (j+1) (if more.getD j.toNat 0=0 then X else Au1 X j (Br7 (vF X j).1 (more.getD j.toNat 0)))
def Gh0 (more:List Int) (X:CX) (j:Int):Prop:=∀ i:Int,j≤i→i<12→more.getD i.toNat 0≠0→(vF X i).2=1∧(vF X i).1.refs+more.getD i.toNat 0≤64
theorem E48 {f:FileS} (h:okF f=true) {n:Int} (hn:1≤f.refs+n∧f.refs+n≤64):okF (Br7 f n)=true:=by
 simp only [okF,Bool.and_eq_true,Bool.or_eq_true,decide_eq_true_eq,beq_iff_eq,bne_iff_ne] at h ⊢
 omega
theorem Gh0.step {nc:Nat} {X:CX} (c:Clean nc X) {more:List Int} (hm:Ab5 8 more) {j:Int} (h0:0≤j∧j<12) (s:Gh0 more X j) (hz:more.getD j.toNat 0≠0) :
  okF (Br7 (vF X j).1 (more.getD j.toNat 0))=true∧Gh0 more (Au1 X j (Br7 (vF X j).1 (more.getD j.toNat 0))) (j+1):=by
 obtain ⟨s1,s2⟩:=s j (by omega) (by omega) hz
 have hg:=hm.get (j:=j.toNat) (by omega)
 have hk:okF (vF X j).1=true:=by
  rcases Gr9 c h0 with ⟨h1,_⟩|⟨_,h1⟩
  ·omega
  ·exact h1
 have hr:=Es9 hk
 have k:=E48 hk (n:=more.getD j.toNat 0) (by omega)
 refine ⟨k,fun i h1 h2 hi=>?_⟩
 rw [(Ah6 c h0 k).2.2.2.1 i (by omega),if_neg (by omega)]
 exact s i (by omega) h2 hi
theorem G73 (b k:Nat) (F:Fr) (ok:FrOk F) {nc:Nat} (more:List Int) (hm:Ab5 8 more):∀ (m:Nat) (j:Int) (X:CX),Clean nc X→Gh0 more X j→0≤j→j+m=12 →
  CtJ G6 E9 Aj9 [(0,P0 b),(57,.agg ⟨more.map int⟩),(58,int j)] [cmC b k F X] fun v own=>v=int 0∧own [cmC b k F (Ba1 more m j X)]:=by
 intro m
 induction m with
 | zero =>
  intro j X c s h0 hj
  refine CtJ.of Ar9 fun h r=>Tr.eq (Ds9 ..) ?_;refine Je ?_
  refine Yf (by simp;omega) ?_
  refine Ys fun o=>?_
  rw [show Ba1 more 0 j X=X from rfl]
  exact ⟨rfl,o.sub⟩
 | succ m ih =>
  intro j X c s h0 hj
  have e1:IntKind.wrap .i64 (j+1)=j+1:=by rw [A9];omega
  have hg:=Ep4 (l:=more) (i:=j.toNat) (by rw [hm.1];omega)
  have hm2:=hm.get (j:=j.toNat) (by omega)
  rw [show Ba1 more (m+1) j X=Ba1 more m (j+1) (if more.getD j.toNat 0=0 then X else Au1 X j (Br7 (vF X j).1 (more.getD j.toNat 0))) from rfl]
  refine CtJ.of Ar9 fun h r=>Tr.eq (Ds9 ..) ?_;refine Je ?_
  refine Yt (by simp;omega) ?_
  rw [e1]
  (refine Ja ?_;unhygienic intros)
  by_cases hz:more.getD j.toNat 0=0
  ·rw [if_pos hz]
   refine Yt (by simpa using hz) ?_
   refine Yr (ih (j+1) X c (fun i h1 h2 h3=>s i (by omega) h2 h3) (by omega) (by omega)) ?_
   intro v h q
   exact q
  ·rw [if_neg hz]
   refine Yf (by simpa using hz) ?_
   have hrf:=Ge7 c (i:=j) (by omega)
   have e3:IntKind.wrap .i64 ((vF X j).1.refs+more.getD j.toNat 0)=(vF X j).1.refs+more.getD j.toNat 0:=by rw [A9];omega
   obtain ⟨k1,s2⟩:=s.step c hm (by omega) hz
   obtain ⟨w1,w2,_⟩:=Ah6 c (i:=j) (by omega) k1
   refine Yc (B53 b k F X ok j) ?_;rintro _ h ⟨rfl,o⟩<;>refine Jh o ?_
   rw [Bb3 c (by omega)]
   dsimp only
   (refine Jc ?_;unhygienic intros)
   refine Yn fun b2 h=>?_
   (refine Ja ?_;unhygienic intros)
   simp only [e3,List.set_cons_succ,List.set_cons_zero,List.drop_zero,List.take]
   refine Yc (B66 b k F X ok j (Br7 (vF X j).1 (more.getD j.toNat 0))) ?_;rintro _ h ⟨rfl,o⟩<;>refine Jh o ?_
   rw [w1]
   dsimp only
   (refine Ja ?_;unhygienic intros)
   refine P6 [0] 1 rfl rfl ?_
   refine Yr (ih (j+1) _ w2 s2 (by omega) (by omega)) ?_
   intro v h q
   exact q
theorem Em1:∀ (l m:List Int) (i:Nat),By9 l→m.length=12→(Bj1 l m).getD i 0≠0→m.getD i 0≠0∨((i:Int)+1) ∈ l
 | [],m,i,_,_,h=>.inl h
 | f::l,m,i,hf,hm,h=>by
  have hr:=hf f (by simp)
  have hl:By9 l:=fun x hx=>hf x (by simp [hx])
  rw [show Bj1 (f::l) m=Bj1 l (if f>0 then m.set (f-1).toNat (m.getD (f-1).toNat 0+1) else m) from rfl] at h
  by_cases hz:f>0
  ·rw [if_pos hz] at h
   rcases Em1 l _ i hl (by simpa using hm) h with h2|h2
   ·by_cases hi:(f-1).toNat=i
    ·right
     rw [show (i:Int)+1=f by omega];simp
    ·left
     rw [List.getD_eq_getElem?_getD,List.getElem?_set_ne hi,← List.getD_eq_getElem?_getD] at h2
     exact h2
   ·exact .inr (by simp [h2])
  ·rw [if_neg hz] at h
   rcases Em1 l m i hl hm h with h2|h2
   ·exact .inl h2
   ·exact .inr (by simp [h2])
theorem Dy4:∀ (l m:List Int) (n:Int),By9 l→Ab5 n m→Ab5 (n+l.length) (Bj1 l m)
 | [],m,n,_,h=>by simpa [Bj1] using h
 | f::l,m,n,hf,h=>by
  have hr:=hf f (by simp)
  have hl:By9 l:=fun x hx=>hf x (by simp [hx])
  rw [show Bj1 (f::l) m=Bj1 l (if f>0 then m.set (f-1).toNat (m.getD (f-1).toNat 0+1) else m) from rfl]
  have e:n+((f::l).length:Int)=(n+1)+l.length:=by simp;omega
  rw [e]
  by_cases hz:f>0
  ·rw [if_pos hz];exact Dy4 l _ (n+1) hl (h.set (by omega))
  ·rw [if_neg hz];exact Dy4 l m (n+1) hl h.up
theorem D55 {X:CX} {more:List Int}:∀ (l:List Int),Ab4 X more l=0→∀ f ∈ l,f≠0→(vF X (f-1)).2=1∧(vF X (f-1)).1.refs+more.getD (f-1).toNat 0≤64
 | [],_,f,h,_=>by simp at h
 | g::l,h,f,hm,hf=>by
  rw [show Ab4 X more (g::l)=if g=0 then Ab4 X more l else if (vF X (g-1)).2≠1 then 105 else if (vF X (g-1)).1.refs+more.getD (g-1).toNat 0>64 then 123 else Ab4 X more l from rfl] at h
  by_cases hg:g=0
  ·rw [if_pos hg] at h
   rcases List.mem_cons.1 hm with rfl|h2
   ·exact absurd hg hf
   ·exact D55 l h f h2 hf
  ·rw [if_neg hg] at h
   by_cases h1:(vF X (g-1)).2=1
   ·rw [if_neg (by simpa using h1)] at h
    by_cases h2:(vF X (g-1)).1.refs+more.getD (g-1).toNat 0>64
    ·rw [if_pos h2] at h;cases h
    ·rw [if_neg h2] at h
     rcases List.mem_cons.1 hm with rfl|h3
     ·exact ⟨h1,by omega⟩
     ·exact D55 l h f h3 hf
   ·rw [if_pos h1] at h;cases h
abbrev En0:List Int:=[0,0,0,0,0,0,0,0,0,0,0,0]
theorem Hu6:Ab5 0 En0:=⟨rfl,fun x hx=>by simp at hx;omega⟩
abbrev Ak1 (p:ProcS):List Int:=Bj1 p.fds En0
theorem Ew5 {p:ProcS} (h:By9 p.fds):Ab5 8 (Ak1 p):=by
 have:=Dy4 p.fds En0 0 h Hu6
 rw [p.len] at this
 exact this
theorem Gx8 {X:CX} {p:ProcS} (h:By9 p.fds) (e:Ab4 X (Ak1 p) p.fds=0):Gh0 (Ak1 p) X 0:=fun i h0 h1 hi=>by
 rcases Em1 p.fds En0 i.toNat h rfl hi with h2|h2
 ·exfalso;apply h2
  have:i.toNat=0∨i.toNat=1∨i.toNat=2∨i.toNat=3∨i.toNat=4∨i.toNat=5∨i.toNat=6∨i.toNat=7∨i.toNat=8∨i.toNat=9∨i.toNat=10∨i.toNat=11:=by omega
  rcases this with h|h|h|h|h|h|h|h|h|h|h|h<;>rw [h]<;>rfl
 ·have:=D55 p.fds e _ h2 (by omega)
  rw [show ((i.toNat:Nat):Int)+1-1=i by omega] at this
  exact this
def S5 (X:CX) (p:ProcS):Int × CX:=if Ab4 X (Ak1 p) p.fds=0 then (0,Ba1 (Ak1 p) 12 0 X) else (Ab4 X (Ak1 p) p.fds,X)
theorem Ho8 (b k:Nat) (F:Fr) (X:CX) (ok:FrOk F) {nc:Nat} (c:Clean nc X) (p:ProcS) (hf:By9 p.fds):Ct B0 E9 [P0 b,.agg ⟨D4 p⟩] [cmC b k F X] fun v own=>v=int (S5 X p).1∧own [cmC b k F (S5 X p).2]:=by
 refine Ct.of Ar9 rfl fun h r=>Tr.eq (Gu1 ..) ?_;refine Je ?_
 refine Yn fun b0 h=>?_
 refine Yn fun b1 h=>?_
 (refine Ja ?_;unhygienic intros)
 have hm:=Ew5 hf
 have L2:=Ha7 b k F X ok c b1 p.fds (Ak1 p) p.len hf hm (fun v own=>v=int (S5 X p).1∧own [cmC b k F (S5 X p).2])
  (fun e he hz h r o=>by
   unfold S5
   rw [if_neg (by rw [he];exact hz),he]
   exact ⟨rfl,o⟩)
  (fun he=>by
   have J:=G73 b k F ok (Ak1 p) hm 12 0 X c (Gx8 hf he) (by omega) (by omega)
   unfold S5
   rw [if_pos he]
   exact J) 8 0 rfl rfl
 refine Di5 (Hb5 b k F X b0 b1 p hf _ (Ak1 p) L2 8 0 En0 rfl (by simpa using Hu6) rfl) [0,0,0] rfl ?_
 intro v h q
 exact q
theorem Dk6 {nc:Nat} {more:List Int} (hm:Ab5 8 more):∀ (m:Nat) (j:Int) (X:CX),Clean nc X→Gh0 more X j→0≤j→j+m=12 →
  Clean nc (Ba1 more m j X)∧(∀ i:Int,0≤i∧i<8→vS (Ba1 more m j X) i=vS X i) ∧
  (∀ i:Int,0≤i∧i<12→vF (Ba1 more m j X) i=if j≤i∧more.getD i.toNat 0≠0 then (Br7 (vF X i).1 (more.getD i.toNat 0),1) else vF X i)∧(∀ i:Int,0≤i∧i<3+nc→vP (Ba1 more m j X) i=vP X i)
 | 0,j,X,c,_,h0,hj=>⟨c,fun _ _=>rfl,fun i hi=>by rw [if_neg (by omega)];rfl,fun _ _=>rfl⟩
 | m+1,j,X,c,s,h0,hj=>by
  rw [show Ba1 more (m+1) j X=Ba1 more m (j+1) (if more.getD j.toNat 0=0 then X else Au1 X j (Br7 (vF X j).1 (more.getD j.toNat 0))) from rfl]
  by_cases hz:more.getD j.toNat 0=0
  ·rw [if_pos hz]
   obtain ⟨a1,a2,a3,a4⟩:=Dk6 hm m (j+1) X c (fun i h1 h2 h3=>s i (by omega) h2 h3) (by omega) (by omega)
   refine ⟨a1,a2,fun i hi=>?_,a4⟩
   rw [a3 i hi]
   by_cases hij:i=j
   ·subst hij
    rw [if_neg (by omega),if_neg (by simp only [hz];simp)]
   ·by_cases h2:j≤i∧more.getD i.toNat 0≠0
    ·rw [if_pos h2,if_pos ⟨by omega,h2.2⟩]
    ·rw [if_neg h2,if_neg (fun h3=>h2 ⟨by omega,h3.2⟩)]
  ·rw [if_neg hz]
   obtain ⟨k1,s2⟩:=s.step c hm (by omega) hz
   obtain ⟨w1,w2,w3,w4,w5⟩:=Ah6 c (i:=j) (by omega) k1
   obtain ⟨a1,a2,a3,a4⟩:=Dk6 hm m (j+1) _ w2 s2 (by omega) (by omega)
   refine ⟨a1,fun i hi=>by rw [a2 i hi,w3 i hi],fun i hi=>?_,fun i hi=>by rw [a4 i hi,w5 i hi]⟩
   rw [a3 i hi,w4 i hi]
   by_cases hij:i=j
   ·subst hij
    rw [if_neg (by omega),if_pos rfl,if_pos ⟨by omega,hz⟩]
   ·rw [if_neg hij]
    by_cases h2:j≤i∧more.getD i.toNat 0≠0
    ·rw [if_pos h2,if_pos ⟨by omega,h2.2⟩]
    ·rw [if_neg h2,if_neg (fun h3=>h2 ⟨by omega,h3.2⟩)]
theorem Hd4 (l:List UInt8) (i:Nat):0≤byI l i∧byI l i<256:=by
 have:=(l.getD i 0).toNat_lt
 unfold byI;omega
theorem Et4 (l:List UInt8) (j:Nat):0≤two l j∧two l j≤65535:=by
 have:=Hd4 l j;have:=Hd4 l (j+1)
 unfold two;omega
theorem D25 (l:List UInt8):InS (Z6 l).1:=by
 unfold Z6
 split
 ·exact ⟨by simp,by simp,by simp,by simp⟩
 ·split
  ·exact ⟨Et4 _ _,Et4 _ _,Et4 _ _,Et4 _ _⟩
  ·exact ⟨by simp,by simp,by simp,by simp⟩
theorem Et2 {p:ProcS} (h:okS p=true):By9 p.fds:=fun f hf=>by
 unfold okS at h
 simp only [Bool.and_eq_true,Bool.not_eq_true',List.any_eq_false] at h
 have:=h.2.2.1 f hf
 simp at this;omega
abbrev Bi2 (p:ProcS) (i:Int):ProcS:=⟨p.state,i+1,p.group,p.code,0,p.mask,p.ignored,p.caught,p.fds,p.len⟩
theorem G12 {p:ProcS} (h:okS p=true) (h1:p.state=1) {i:Int} (hi:0≤i∧i<8):okS (Bi2 p i)=true:=by
 unfold okS at h ⊢
 rw [if_neg (by rw [h1];decide)] at h
 rw [if_neg (show ¬ (Bi2 p i).state=2 by show ¬ p.state=2;rw [h1];decide)]
 simp only [Bool.and_eq_true,Bool.not_eq_true',Bool.or_eq_false_iff,decide_eq_false_iff_not] at h ⊢
 obtain ⟨⟨⟨⟨⟨⟨⟨⟨a1,a2⟩,a3⟩,a4⟩,a5⟩,a6⟩,a7⟩,a8⟩,⟨⟨⟨⟨b1,b2⟩,b3⟩,b4⟩,b5⟩,d1,d2⟩:=h
 exact ⟨⟨⟨⟨⟨⟨⟨⟨a1,a2⟩,by show ¬ i+1<0;omega⟩,by show ¬ i+1>8;omega⟩,a5⟩,a6⟩,a7⟩,a8⟩,⟨⟨⟨⟨by simp [Id6],b2⟩,b3⟩,b4⟩,b5⟩,d1,d2⟩
def Dh8 (X:CX) (i:Int):List Value × CX :=
 if (J7 X i).2≠0 then (O6 0 (J7 X i).2 false,X)
 else if Ai8 X 8 0<0 then (O6 0 111 false,X)
 else if (S5 X (J7 X i).1).1≠0 then (O6 0 (S5 X (J7 X i).1).1 false,X)
 else (O6 (Ai8 X 8 0) 0 false,Ay7 (S5 X (J7 X i).1).2 (Ai8 X 8 0) (Bi2 (J7 X i).1 i))
theorem Ek9 {X:CX}:∀ (m:Nat) (i:Int),0≤i→i+m=8→Ai8 X m i=-1∨(0≤Ai8 X m i∧Ai8 X m i<8∧(vS X (Ai8 X m i)).2=0)
 | 0,i,_,_=>.inl rfl
 | m+1,i,h0,hi=>by
  rw [show Ai8 X (m+1) i=if (vS X i).2=0 then i else Ai8 X m (i+1) from rfl]
  split
  ·rename_i h;exact .inr ⟨h0,by omega,h⟩
  ·exact Ek9 m (i+1) (by omega) (by omega)
theorem A79 {nc:Nat} {X:CX} (c:Clean nc X) {i:Int} (hi:0≤i∧i<8) (h:(J7 X i).2=0):J7 X i=((vS X i).1,0)∧(vS X i).1.state=1∧okS (vS X i).1=true∧(vS X i).2=1:=by
 unfold J7 at h ⊢
 split
 ·rename_i h1
  refine ⟨rfl,h1.2,?_,h1.1⟩
  rcases If8 c hi with ⟨h2,_⟩|⟨_,h2⟩
  ·rw [h1.1] at h2;cases h2
  ·exact h2
 ·rename_i h1;rw [if_neg h1] at h;cases h
theorem Gl4 {X:CX} {p:ProcS} (h:(S5 X p).1≠0):(S5 X p).2=X:=by
 unfold S5 at h ⊢
 split
 ·rename_i h1;rw [if_pos h1] at h;exact absurd rfl h
 ·rfl
theorem El1 {nc:Nat} {X:CX} (c:Clean nc X) {p:ProcS} (hf:By9 p.fds) (h:(S5 X p).1=0):Clean nc (S5 X p).2∧(∀ i:Int,0≤i∧i<8→vS (S5 X p).2 i=vS X i) ∧
  (∀ i:Int,0≤i∧i<12→vF (S5 X p).2 i=if (Ak1 p).getD i.toNat 0≠0 then (Br7 (vF X i).1 ((Ak1 p).getD i.toNat 0),1) else vF X i)∧(∀ i:Int,0≤i∧i<3+nc→vP (S5 X p).2 i=vP X i):=by
 unfold S5 at h ⊢
 split
 ·rename_i he
  obtain ⟨a1,a2,a3,a4⟩:=Dk6 (Ew5 hf) 12 0 X c (Gx8 hf he) (by omega) (by omega)
  refine ⟨a1,a2,fun i hi=>?_,a4⟩
  rw [a3 i hi]
  by_cases h2:(Ak1 p).getD i.toNat 0≠0
  ·rw [if_pos h2,if_pos ⟨hi.1,h2⟩]
  ·rw [if_neg h2,if_neg (fun h3=>h2 h3.2)]
 ·rename_i he;rw [if_neg he] at h;exact absurd h he
theorem H97 (b k:Nat) (F:Fr) (X:CX) (ok:FrOk F) {nc:Nat} (c:Clean nc X) (i:Int) (hi:0≤i∧i<8):Ct B0 B69 [P0 b,int i] [cmC b k F X] fun v own=>v=.agg ⟨(Dh8 X i).1⟩∧own [cmC b k F (Dh8 X i).2]:=by
 have e1:IntKind.wrap .i64 (i+1)=i+1:=by rw [A9];omega
 unfold Dh8
 refine Ct.of G58 rfl fun h r=>Tr.eq (Hb8 ..) ?_;refine Je ?_
 refine Yn fun b0 h=>?_
 refine Yc (Et5 b k F X ok c i hi) ?_;rintro _ h ⟨rfl,o⟩<;>refine Jh o ?_
 (refine Jc ?_;unhygienic intros)
 refine Yn fun b1 h=>?_
 (refine Ja ?_;unhygienic intros)
 by_cases h0:(J7 X i).2=0
 case neg =>
  rw [if_pos h0]
  refine Yt (by simpa using h0) ?_
  refine Yc (Es6 (J7 X i).2) ?_;rintro _ h ⟨rfl,o⟩<;>(refine Jf o ?_;unhygienic intros)
  refine Ys fun o=>?_
  exact ⟨rfl,o.sub⟩
 rw [if_neg (by simpa using h0)]
 refine Yf (by simpa using h0) ?_
 obtain ⟨s1,s2,s3,s4⟩:=A79 c hi h0
 refine Yc (H71 b k F X ok c) ?_;rintro _ h ⟨rfl,o⟩<;>refine Jh o ?_
 (refine Ja ?_;unhygienic intros)
 by_cases h1:Ai8 X 8 0<0
 ·rw [if_pos h1]
  refine Yt (by simpa using h1) ?_
  refine Yc (Es6 111) ?_;rintro _ h ⟨rfl,o⟩<;>(refine Jf o ?_;unhygienic intros)
  refine Ys fun o=>?_
  exact ⟨rfl,o.sub⟩
 rw [if_neg h1]
 refine Yf (by simpa using h1) ?_
 have hf:By9 (J7 X i).1.fds:=by rw [s1];exact Et2 s3
 have hok:okS (Bi2 (J7 X i).1 i)=true:=by rw [s1];exact G12 s3 s2 hi
 have hin:InS (Bi2 (J7 X i).1 i):=by
  have:=D25 (rd X ⟨1,i⟩)
  rw [s1]
  exact ⟨by simp,this.b,this.c,this.d⟩
 generalize (J7 X i).1=p at hf hok hin
 (refine Ja ?_;unhygienic intros)
 refine Yc (Ho8 b k F X ok c p hf) ?_;rintro _ h ⟨rfl,o⟩<;>refine Jh o ?_
 (refine Ja ?_;unhygienic intros)
 by_cases h2:(S5 X p).1=0
 case neg =>
  rw [if_pos h2]
  rw [Gl4 h2] at o ⊢
  refine Yt (by simpa using h2) ?_
  refine Yc (Es6 (S5 X p).1) ?_;rintro _ h ⟨rfl,o⟩<;>(refine Jf o ?_;unhygienic intros)
  refine Ys fun o=>?_
  exact ⟨rfl,o.sub⟩
 rw [if_neg (by simpa using h2)]
 refine Yf (by simpa using h2) ?_
 have cs:=(El1 c hf h2).1
 have hfr:0≤Ai8 X 8 0∧Ai8 X 8 0<8:=by
  rcases Ek9 (X:=X) 8 0 (by omega) (by omega) with h|h<;>omega
 obtain ⟨w1,_⟩:=Bi1 cs hfr hok hin
 (refine Ja ?_;unhygienic intros)
 rw [e1,show ((D4 p).set 1 (int (i+1))).set 4 (int 0)=D4 (Bi2 p i) from rfl]
 generalize Bi2 p i=q at hok hin w1
 (refine Ja ?_;unhygienic intros)
 refine Yc (Dy9 b k F (S5 X p).2 ok (Ai8 X 8 0) q) ?_;rintro _ h ⟨rfl,o⟩<;>refine Jh o ?_
 rw [w1]
 dsimp only
 (refine Ja ?_;unhygienic intros)
 refine Yc (Eq8 true (Ai8 X 8 0)) ?_;rintro _ h ⟨rfl,o⟩<;>refine Jh o ?_
 rw [if_pos trivial]
 (refine Ja ?_;unhygienic intros)
 refine Ys fun o=>?_
 exact ⟨rfl,o.sub⟩
theorem Ep5 (j:Int) (p:ProcS):(int j::D4 p).length=17:=by simp [Bt8 p,p.len]
instance {j:Int} {p:ProcS}:LenC (int j::D4 p) 17:=⟨Ep5 j p⟩
instance {j:Int} {p:ProcS}:PartC (int j::D4 p) 0 17 (int j::D4 p):=⟨Da2 (Ep5 j p)⟩
instance {j:Int} {p:ProcS} {cs:List Value} [k:LenC cs 17]:SetsC cs 0 (int j::D4 p) (int j::D4 p):=⟨Bu6 k.ok (Ep5 j p) (by simp [Value.oneCell])⟩
def p0:ProcS:=⟨1,0,0,0,0,0,0,0,[1,0,0,0,0,0,0,0],rfl⟩
def f0:FileS:=⟨3,0,1,0⟩
def Ax3:List UInt8:=J4 (J4 Ab3 0 (Ej6 p0)) 192 (Ah7 f0)
theorem Bv9:Ax3.length=492:=by kernel_rfl
theorem Ek5:(Ej6 p0).length=24:=by kernel_rfl
theorem Gm8 (l b:List UInt8) (a:Nat):(A0 l).take a++A0 b++(A0 l).drop (a+(A0 b).length)=A0 (J4 l a b):=by
 rw [S4]
 simp [J4,A0,List.map_take,List.map_drop]
theorem H49 {b:List UInt8} (h:0<b.length):A0 b≠[]:=by
 intro e
 have e2:=congrArg List.length e
 rw [S4] at e2
 have e3:b.length=0:=e2
 omega
theorem G47:Ct B0 Ba5 [] [] fun v own=>∃ a,v=.slice a 492 492∧own [slC false A6 1 a 492 492 (A0 Ax3)]:=by
 refine Ct.of Gr2 rfl fun h r=>Tr.eq (Gq9 ..) ?_;refine Je ?_
 refine Yc (Gk3) ?_;rintro _ h ⟨rfl,o⟩<;>refine Jh o ?_
 (refine Jc ?_;unhygienic intros)
 rw [A17,Aa3]
 refine Tr.ck (by simp [B1]) ?_
 refine Yn fun b0 h=>?_
 refine Dp0 (n:=492) 0 rfl (by rw [S4];exact Aa3) ?_
 refine Je ?_
 refine Yn fun b1 h=>?_
 (refine Ja ?_;unhygienic intros)
 rw [show ([int 1,int 0,int 0,int 0,int 0,int 0,int 0,int 0,int 0,int 0,int 0,int 0,int 0,int 0,int 0,int 0]:List Value).set 8 (int 1)=D4 p0 from rfl]
 (refine Ja ?_;unhygienic intros)
 refine Yc (Hu8 p0) ?_;rintro _ h ⟨rfl,o⟩<;>refine Jh o ?_
 (refine Ja ?_;unhygienic intros)
 rw [show List.take (min (bs (Ej6 p0)).size 492) (bs (Ej6 p0)).data.toList=Ej6 p0 by kernel_rfl]
 rw [show B3 (J5 b0)=(B3 (J5 b0)).add 0 from rfl]
 refine Tr.xPAggS (cs':=A0 (J4 Ab3 0 (Ej6 p0))) ⟨H49 (by rw [Ek5];omega),by rw [S4,S4,Ek5,Aa3];omega,Af0 _,Gm8 _ _ 0⟩ fun h=>?_
 (refine Ja ?_;unhygienic intros)
 refine Yc (Hp0 f0) ?_;rintro _ h ⟨rfl,o⟩<;>refine Jh o ?_
 (refine Ja ?_;unhygienic intros)
 rw [show List.take (min (bs (Ah7 f0)).size (492-192)) (bs (Ah7 f0)).data.toList=Ah7 f0 by kernel_rfl]
 rw [Ge9 (by omega),Eh8]
 refine Tr.xPAggS (cs':=A0 Ax3) ⟨H49 (by rw [Dn9];omega),by rw [S4,S4,Ad3 (by rw [Ek5,Aa3];omega),Dn9,Aa3];omega,Af0 _,Gm8 _ _ 192⟩ fun h=>?_
 refine Ys fun o=>?_
 exact ⟨_,rfl,o.sub⟩
theorem Hi7 {S:KS} (kS:Like S) {s:Nat} {env:Int} (e:EnvP s env) {j:Nat} {cap:Int} {lo n:Nat} (hc:H59[j]?=some cap) (hr:(rgP s)[j]?=some (lo,n)) {b:List UInt8} (hb:b.length≤n) :
  W9 S env ⟨2,cap,0,0,0,0,b⟩=((0,0,[]),Bm9 S (J4 S.mem lo b)):=by
 have F:=Ga9 kS e
 have hroom:lo+n≤S.mem.length:=Eb4 kS e.hs env j lo n hr
 have hp:=F.pl j cap lo n hc hr 0 b.length 2 (.inr rfl) (by omega)
 have hs:Ba4 S.mem ((lo+0:Nat):Int) b=some (J4 S.mem lo b):=by
  unfold Ba4
  rw [if_pos (by omega),Int.toNat_natCast,Nat.add_zero];rfl
 have ew:Ai9 S.tabs S.regs S.mem env cap 0 b=(0,J4 S.mem lo b):=by
  unfold Ai9
  rw [show O4 S.tabs S.regs env cap 2 0 (b.length:Int)=(((lo+0:Nat):Int),0) from hp]
  rw [if_neg (by simp),hs]
 unfold W9
 rw [if_neg (show ¬ (env<0∨env≥(S.envs.length:Int)) from F.env)]
 unfold kDo
 rw [if_neg (show ¬ ((2:Int)=1) by decide),if_pos rfl,ew]
def q1:PipeS:=⟨0,0,1,1,List.replicate 32 0,rfl⟩
def S1:KS:=Bm9 S0 (J4 S0.mem 0 Ax3)
def S2:KS:=Bm9 S1 (J4 S1.mem 512 (I6 q1))
def S3:KS:=Bm9 S2 (J4 S2.mem 1856 (I6 q1))
theorem Ax7:(I6 q1).length=40:=Bt1 q1.len
theorem Gd2:Like S1:=Ea9 Dq2 (by rw [Ad3 (by rw [Bv9,Dq2.mem];omega)];exact Dq2.mem)
theorem E95:Like S2:=Ea9 Gd2 (by rw [Ad3 (by rw [Ax7,Gd2.mem];omega)];exact Gd2.mem)
theorem E91:Like S3:=Ea9 E95 (by rw [Ad3 (by rw [Ax7,E95.mem];omega)];exact E95.mem)
theorem Ih7:W9 S0 0 ⟨2,256,0,0,0,0,Ax3⟩=((0,0,[]),S1):=Hi7 Dq2 Gi2 (j:=0) rfl rfl (by rw [Bv9];omega)
theorem Ig6:W9 S1 0 ⟨2,257,0,0,0,0,I6 q1⟩=((0,0,[]),S2):=Hi7 Gd2 Gi2 (j:=1) rfl rfl (by rw [Ax7];omega)
theorem Ih4:W9 S2 0 ⟨2,258,0,0,0,0,I6 q1⟩=((0,0,[]),S3):=Hi7 E95 Gi2 (j:=2) rfl rfl (by rw [Ax7];omega)
abbrev F1:Fr:=frP S3 0 0
def X1:CX:=⟨Bz7 S3.mem (rgP 0),[]⟩
theorem Dg8:FrOk F1:=Ga9 E91 Gi2
theorem G28:Clean 3 X1:=by
 refine ⟨by kernel_rfl,by omega,rfl,by kernel_rfl,fun j h0 h1=>?_,fun r h1 h2 h3 h4=>?_⟩
 ·have:j=1∨j=2:=by omega
  rcases this with rfl|rfl
  ·clear h0 h1;show (_:Nat)=_;kernel_rfl
  ·clear h0 h1;show (_:Nat)=_;kernel_rfl
 ·have all:((List.range 8).all (fun i=>decide (stR 1 (rd X1 ⟨1,(i:Int)⟩)≠2)) && ((List.range 12).all (fun i=>decide (stR 2 (rd X1 ⟨2,(i:Int)⟩)≠2)) && ((List.range 6).all (fun i=>decide (stR 3 (rd X1 ⟨3,(i:Int)⟩)≠2)) && (decide (stR 4 (rd X1 ⟨4,0⟩)≠2) && decide (stR 5 (rd X1 ⟨5,0⟩)≠2)))))=true:=by kernel_rfl
  simp only [Bool.and_eq_true,List.all_eq_true,List.mem_range,decide_eq_true_eq] at all
  obtain ⟨a1,a2,a3,a4,a5⟩:=all
  obtain ⟨k,i⟩:=r
  simp only at h1 h2 h3 h4 ⊢
  obtain ⟨n,rfl⟩:∃ n:Nat,i=n:=⟨i.toNat,by omega⟩
  have hk:k=1∨k=2∨k=3∨k=4∨k=5:=by omega
  rcases hk with rfl|rfl|rfl|rfl|rfl<;>simp [W0] at h4
  ·exact a1 n (by omega)
  ·exact a2 n (by omega)
  ·exact a3 n (by omega)
  ·obtain rfl:n=0:=by omega
   exact a4
  ·obtain rfl:n=0:=by omega
   exact a5
theorem Hj1 (k w m c:Nat) (b1:Nat) (cs:List Value) (hcs:cs.length=7) (K:RKS) (hK:RKOk K) (hB:0<K.B.envs.length) :
  CtJ G6 Ae6 Bc5 [(6,P0 k),(7,P0 c),(8,P0 w),(9,P0 m),(10,P0 b1),(11,.string (bs (I6 q1))),(12,int 1)] [pt b1 (.cells Aw4 false cs),D3 k S1,rkC w K] fun v own =>
   v=.tuple ⟨[P0 k,P0 c,P0 w,P0 m]⟩∧∃ K',own [D3 k S3,rkC w K']:=by
 have hset:∀ xs:List Value,xs.length=7→∀ vs:List Value,vs.length=7→vs.all Value.oneCell=true→D84 xs 0 vs=some vs:=fun xs h vs h1 h2=>Bu6 h h1 h2
 refine CtJ.of Bw1 fun h r=>Tr.eq (Bw3 ..) ?_;refine Je ?_
 refine Yt rfl ?_
 rw [A17,Ax7]
 refine Tr.ck (by simp [B1]) ?_
 refine Yn fun b2 h=>?_
 refine Dp0 (n:=40) 0 rfl (by rw [S4];exact Ax7) ?_
 refine Je ?_
 rw [show IntKind.wrap .i64 (256+1)=257 by decide]
 refine Gs (fun h=>?_) (by exact hset cs hcs _ rfl rfl)
 (refine Ja ?_;unhygienic intros)
 have J1:=D15 k S1 0 Gd2.ok (by omega) 0 ⟨2,257,0,0,0,0,I6 q1⟩ (some (J5 b2)) 40 false (show ((2:Int)≠5) by decide)
 rw [Ig6] at J1
 simp only [Bk0,Ax7] at J1
 refine Bs3 J1 [2,0] rfl ?_
 rintro _ h ⟨y,z,rfl,o⟩
 refine (?_:Tr _ _ _ _) o
 refine Je ?_
 (refine Ja ?_;unhygienic intros)
 have R1:=Es8 w K hK 0 hB ⟨2,257,0,0,0,0,I6 q1⟩ rfl (by rw [Ax7];simp [B1]) (slC false A6 1 (some (J5 b2)) (I6 q1).length 40 (A0 (I6 q1))) (some (J5 b2)) 40 false
 simp only [Bk0,Ax7] at R1
 refine Bs3 R1 [4,2] rfl ?_
 rintro _ h ⟨rfl,o⟩
 rw [show ({ K with R:=(Ag6 K.R ((0:Nat):Int) 257 0 (I6 q1)).2 }:RKS)=wrR K 257 (I6 q1) from rfl] at o
 have hK1:=E72 hK 257 (I6 q1)
 refine (?_:Tr _ _ _ _) o
 refine Je ?_
 (refine Ja ?_;unhygienic intros)
 refine Tr.jmp Bw1 (Tr.eq (Bw3 ..) ?_);(try simp only[Nr,Nl,wl,Nat.reduceAdd,Nat.reduceMul,Int.reduceToNat])
 refine Yt rfl ?_
 rw [A17,Ax7]
 refine Tr.ck (by simp [B1]) ?_
 refine Yn fun b3 h=>?_
 refine Dp0 (n:=40) 0 rfl (by rw [S4];exact Ax7) ?_
 refine Je ?_
 rw [show IntKind.wrap .i64 (256+2)=258 by decide]
 refine Gs (fun h=>?_) (by exact hset _ rfl _ rfl rfl)
 (refine Ja ?_;unhygienic intros)
 have J2:=D15 k S2 0 E95.ok (by omega) 0 ⟨2,258,0,0,0,0,I6 q1⟩ (some (J5 b3)) 40 false (show ((2:Int)≠5) by decide)
 rw [Ih4] at J2
 simp only [Bk0,Ax7] at J2
 refine Bs3 J2 [4,0] rfl ?_
 rintro _ h ⟨y2,z2,rfl,o⟩
 refine (?_:Tr _ _ _ _) o
 refine Je ?_
 (refine Ja ?_;unhygienic intros)
 have R2:=Es8 w (wrR K 257 (I6 q1)) hK1 0 hB ⟨2,258,0,0,0,0,I6 q1⟩ rfl (by rw [Ax7];simp [B1]) (slC false A6 1 (some (J5 b3)) (I6 q1).length 40 (A0 (I6 q1))) (some (J5 b3)) 40 false
 simp only [Bk0,Ax7] at R2
 refine Bs3 R2 [3,2] rfl ?_
 rintro _ h ⟨rfl,o⟩
 rw [show ({ wrR K 257 (I6 q1) with R:=(Ag6 (wrR K 257 (I6 q1)).R ((0:Nat):Int) 258 0 (I6 q1)).2 }:RKS)=wrR (wrR K 257 (I6 q1)) 258 (I6 q1) from rfl] at o
 refine (?_:Tr _ _ _ _) o
 refine Je ?_
 (refine Ja ?_;unhygienic intros)
 refine Tr.jmp Bw1 (Tr.eq (Bw3 ..) ?_);(try simp only[Nr,Nl,wl,Nat.reduceAdd,Nat.reduceMul,Int.reduceToNat])
 refine Yf rfl ?_
 refine Ys fun o=>?_
 exact ⟨rfl,_,o.fin [3,0] 5 rfl rfl⟩
theorem H53:RKOk K0:=E72 D08.1 256 Ab3
theorem Hd8:0<K0.B.envs.length:=by show (0:Nat)<(Db3 Ag1).B.envs.length;rw [D08.2,Br1];simp
theorem He1 (a:Option Addr):Ct B0 Ae6 [.slice a 492 492] [slC false A6 1 a 492 492 (A0 Ax3)] fun v own=>∃ k c w m K',v=.tuple ⟨[P0 k,P0 c,P0 w,P0 m]⟩∧own [cmC c k F1 X1,rkC w K',rcC m w 0 (By8 K0 0) []]:=by
 refine Ct.of Bw1 rfl fun h r=>Tr.eq (Gy3 ..) ?_;refine Je ?_
 refine Yc (H04) ?_;rintro _ h ⟨A,rfl,o⟩<;>refine Jh o ?_
 (refine Ja ?_;unhygienic intros)
 refine Yc (H31 A) ?_
 rintro _ h ⟨k,c,w,m,rfl,o⟩
 refine (?_:Tr _ _ _ _) o
 refine Je ?_
 (refine Jb ?_;unhygienic intros)
 refine Yb (Yf rfl ?_)
 refine Ys fun o=>(?_:Tr _ _ _ _) o;refine Je ?_
 refine Yf rfl ?_
 refine Ib4 c k F0 X0 fun f=>?_
 rw [show F0.at X0.m=S0 from Fr.at_cut H56 (Eb4 Dq2 (by omega) 0)]
 refine (?_:Tr (D3 k S0::U9 c k 0 H59 []::_) _ _ _)
 refine Yn fun b1 h=>?_
 (refine Ja ?_;unhygienic intros)
 refine Yc (Gn7 q1) ?_;rintro _ h ⟨rfl,o⟩<;>refine Jh o ?_
 (refine Ja ?_;unhygienic intros)
 have J1:=D15 k S0 0 Dq2.ok (by omega) 0 ⟨2,256,0,0,0,0,Ax3⟩ a 492 false (show ((2:Int)≠5) by decide)
 rw [Ih7] at J1
 simp only [Bk0,Bv9] at J1
 refine Bs3 J1 [1,4] rfl ?_
 rintro _ h ⟨y,z,rfl,o⟩
 refine (?_:Tr _ _ _ _) o
 refine Je ?_
 (refine Ja ?_;unhygienic intros)
 have R1:=Es8 w K0 H53 0 Hd8 ⟨2,256,0,0,0,0,Ax3⟩ rfl (by rw [Bv9];simp [B1]) (slC false A6 1 a Ax3.length 492 (A0 Ax3)) a 492 false
 simp only [Bk0,Bv9] at R1
 refine Bs3 R1 [5,2] rfl ?_
 rintro _ h ⟨rfl,o⟩
 rw [show ({ K0 with R:=(Ag6 K0.R ((0:Nat):Int) 256 0 Ax3).2 }:RKS)=wrR K0 256 Ax3 from rfl] at o
 refine (?_:Tr _ _ _ _) o
 refine Je ?_
 (refine Ja ?_;unhygienic intros)
 refine Di5 (Hj1 k w m c b1 _ rfl (wrR K0 256 Ax3) (E72 H53 256 Ax3) Hd8) [4,3,0] rfl ?_
 rintro _ h ⟨rfl,K',o⟩
 refine ⟨k,c,w,m,K',rfl,?_⟩
 exact Own.cmTake c k F1 [] Dg8 (Eb4 E91 (by omega) 0) (o.fin [0,3,0,2] 2 rfl rfl)
def X2:CX:=(Dh8 X1 0).2
abbrev Et1:List (Int × Int):=[(0,492),(1280,492),(512,40),(1856,40)]
theorem Ie4 (rg m s:Nat) (bs:List UInt8) (hl:bs.length=2560):Ct B0 V7 [P0 rg,int 0] [W1 rg m s Et1,Ac5 m bs] fun v own =>
  ∃ x d,v=.tuple ⟨[.slice x 492 d,int 0]⟩∧own [slC false A6 1 x 492 d (A0 (slice bs 0 492)),W1 rg m s Et1,Ac5 m bs]:=by
 have hb:B62 bs 0 492=some (slice bs 0 492):=by unfold B62;rw [if_pos (by omega)];rfl
 have hsl:(slice bs 0 492).length=492:=Eg8 (by omega)
 refine Ct.of D95 rfl fun h r=>Tr.eq (D54 ..) ?_;refine Je ?_
 refine B4 (W1 rg m s Et1) fun ⟨ra,rc⟩=>?_;refine Je ?_
 (refine Jb ?_;unhygienic intros)
 refine Yb (Yf rfl ?_)
 (refine Jb ?_;unhygienic intros)
 refine Ys fun o=>(?_:Tr _ _ _ _) o;refine Je ?_
 refine Yf rfl ?_
 (refine Ja ?_;unhygienic intros)
 refine Hu9 1 rfl (show 0<Et1.length by decide) fun px e=>?_
 subst e
 (refine Ja ?_;unhygienic intros)
 refine Tr.ck ⟨by omega,by decide⟩ ?_
 (refine Ja ?_;unhygienic intros)
 refine Tr.ck ⟨by omega,by decide⟩ ?_
 (refine Ja ?_;unhygienic intros)
 refine Yc (He6 m bs 0 492 (by omega)) ?_
 rintro v h (⟨l,x,d,e,rfl,o⟩|⟨e,_⟩)
 ·rw [hb] at e;cases e
  refine (?_:Tr _ _ _ _) o
  refine Je ?_
  rw [hsl]
  (refine Ja ?_;unhygienic intros)
  refine B2 (W1 rg m s Et1) (some px,rc) ?_;refine Je ?_
  refine Ys fun o=>?_
  exact ⟨x,d,rfl,o.sub⟩
 ·rw [hb] at e;cases e
theorem Gs8 (k:Nat) (S:KS) (A:KA):CtP B0 O1 [P0 k] [pt k (.cells B71 false (D43 S A))] (P0 A.r):=by
 refine CtP.of Ee5 rfl fun h r=>Tr.eq (Ee6 ..) ?_;refine Je ?_
 exact Jz
theorem Ig5 {S:KS} (kS:Like S) {env:Int} (e:EnvP 0 env) {m:List (List UInt8)} (f:Fit S.mem.length (rgP 0) m):slice (As4 S.mem (rgP 0) m) 0 492=m.getD 0 []:=by
 obtain ⟨_,x,hx,hl⟩:=f.each 0 0 492 rfl
 have e0:m.getD 0 []=x:=by rw [List.getD_eq_getElem?_getD,hx];rfl
 have hs:=E69 f (Ga9 kS e).dj (j:=0) (lo:=0) (n:=492) rfl hx (a:=0) (c:=492) (by omega)
 rw [e0]
 rw [show (0+0:Nat)=0 from rfl] at hs
 rw [hs]
 unfold slice
 rw [List.drop_zero,List.take_of_length_le (by omega)]
theorem H79 (F:Fr) (m:List (List UInt8)):(F.at m).regs=F.S.regs:=rfl
theorem Ih1 (S:KS) (s:Nat) (env:Int):(frP S s env).S=S:=rfl
theorem Hq4 {r:List HP} {h:H} {α:Type} {Q:α→H→Prop} {kk:Value→H→Option (α × H)} (c k:Nat) (X:CX)
  (t:∀ y d h',Tr (slC false A6 1 y 492 d (A0 (X.m.getD 0 []))::cmC c k F1 X::r) h' (kk (.tuple ⟨[.slice y 492 d,int 0]⟩) h') Q) :
  Tr (cmC c k F1 X::r) h (bnd (B0 O1 [P0 k] h) fun v hv=>aPtr v fun x=>bnd (B0 V7 [.pointer x,int 0] hv) kk) Q:=by
 have hr:(F1.at X.m).regs=Et1:=by rw [H79,Ih1,E91.regs,E86]
 have h2:(F1.at X.m).mem=As4 F1.S.mem F1.rg X.m:=F1.mem_at X.m
 refine B4 (cmC c k F1 X) fun u=>?_;refine Je ?_
 refine L1 2 rfl fun f=>?_
 have hv:=Ig5 E91 Gi2 f
 have hl:(F1.at X.m).mem.length=2560:=by rw [h2,B35 f];exact E91.mem
 have hv2:slice (F1.at X.m).mem 0 492=X.m.getD 0 []:=by rw [h2];exact hv
 refine B4 (D3 k (F1.at X.m)) fun ⟨m,s,q,rg,ea,ec,ma,mc,ms,sa,sc,ss⟩=>?_;refine Je ?_
 refine Tr.pcall (Gs8 k (F1.at X.m) ⟨m,s,q,rg,ea,ec,ma,mc,ms,sa,sc,ss⟩) ?_;refine Je ?_;(refine Ja ?_;unhygienic intros)
 try dsimp only
 rw [hr]
 refine Yc (Ie4 rg m s (F1.at X.m).mem hl) ?_;rintro _ h ⟨y,d,rfl,o⟩<;>refine Jh o ?_
 rw [hv2,← hr]
 refine B2 (D3 k (F1.at X.m)) ⟨m,s,q,rg,ea,ec,ma,mc,ms,sa,sc,ss⟩ ?_;refine Je ?_
 refine B2 (cmC c k F1 X) () ?_;refine Je ?_
 refine P6 [1,0] 0 rfl rfl ?_
 exact t y d _
structure Inv (n:Int) (X:CX):Prop where
 c:Clean 3 X
 h:1≤n∧n≤8
 on:∀ j:Int,0≤j→j<n→(vS X j).2=1∧(vS X j).1.state=1∧(vS X j).1.fds=p0.fds
 off:∀ j:Int,n≤j→j<8→(vS X j).2=0
 fl:(vF X 0).2=1∧(vF X 0).1.refs=n
theorem H69 {r:List HP} {h:H} {α:Type} {Q:α→H→Prop} {kk:Option Addr→H→Option (α × H)} (c k:Nat) (X:CX)
  (t:∀ rg:Nat,Tr (cmC c k F1 X::r) h (kk (some ⟨rg,0,none⟩) h) Q) :
  Tr (cmC c k F1 X::r) h (bnd (B0 O1 [P0 k] h) fun v hv=>aPtr v fun x=>kk x hv) Q:=by
 refine B4 (cmC c k F1 X) fun u=>?_;refine Je ?_
 refine L1 2 rfl fun f=>?_
 refine B4 (D3 k (F1.at X.m)) fun ⟨m,s,q,rg,ea,ec,ma,mc,ms,sa,sc,ss⟩=>?_;refine Je ?_
 refine Tr.pcall (Gs8 k (F1.at X.m) ⟨m,s,q,rg,ea,ec,ma,mc,ms,sa,sc,ss⟩) ?_;refine Je ?_;(refine Ja ?_;unhygienic intros)
 try dsimp only
 refine B2 (D3 k (F1.at X.m)) ⟨m,s,q,rg,ea,ec,ma,mc,ms,sa,sc,ss⟩ ?_;refine Je ?_
 refine B2 (cmC c k F1 X) () ?_;refine Je ?_
 exact t rg
section
variable {nc:Nat} {X:CX} (c:Clean nc X)
include c
abbrev Be6 (X:CX) (i:Int) (p:PipeS):CX:=Bw2 X ⟨3,i⟩ (I6 p)
abbrev Dw1 (X:CX) (i:Int):CX:=Bw2 X ⟨2,i⟩ (List.replicate 8 0)
abbrev E45 (X:CX) (i:Int):CX:=Bw2 X ⟨3,i⟩ (List.replicate 40 0)
theorem B50 {i:Int} (h:0≤i∧i<3+nc) {p:PipeS} (ok:okP p=true) :
  Bq1 X i p=(true,Be6 X i p)∧Clean nc (Be6 X i p)∧(∀ j:Int,0≤j∧j<8→vS (Be6 X i p) j=vS X j)∧(∀ j:Int,0≤j∧j<12→vF (Be6 X i p) j=vF X j)∧(∀ j:Int,0≤j∧j<3+nc→vP (Be6 X i p) j=if j=i then (p,1) else vP X j):=by
 have hl:(I6 p).length=P8 (3:Int):=by rw [Bt1 p.len];rfl
 refine ⟨by unfold Bq1;rw [ok];exact B92 c (Bl5 h) _,B75 c (Bl5 h) hl (by show (U5 (I6 p)).2≠2;rw [Gy2 ok];simp),fun j hj=>?_,fun j hj=>?_,fun j hj=>?_⟩
 ·show Z6 (rd _ _)=_
  rw [Al9 c (Bl5 h) (Dm8 hj) hl,if_neg (by simp)]
 ·show Z3 (rd _ _)=_
  rw [Al9 c (Bl5 h) (Bk9 hj) hl,if_neg (by simp)]
 ·show U5 (rd _ _)=_
  rw [Al9 c (Bl5 h) (Bl5 hj) hl]
  by_cases e:j=i
  ·rw [if_pos (by rw [e]),if_pos e];exact Gy2 ok
  ·rw [if_neg (by simp [e]),if_neg e]
theorem D17 {i:Int} (h:0≤i∧i<12) :
  B61 X ⟨2,i⟩=(true,Dw1 X i)∧Clean nc (Dw1 X i)∧(∀ j:Int,0≤j∧j<8→vS (Dw1 X i) j=vS X j)∧(∀ j:Int,0≤j∧j<12→vF (Dw1 X i) j=if j=i then (.zero,0) else vF X j)∧(∀ j:Int,0≤j∧j<3+nc→vP (Dw1 X i) j=vP X j):=by
 have hl:(List.replicate 8 (0:UInt8)).length=P8 (2:Int):=rfl
 refine ⟨B92 c (Bk9 h) _,B75 c (Bk9 h) hl (by show (Z3 (List.replicate 8 0)).2≠2;rw [show (Z3 (List.replicate 8 0))=(.zero,0) from rfl];simp),fun j hj=>?_,fun j hj=>?_,fun j hj=>?_⟩
 ·show Z6 (rd _ _)=_
  rw [Al9 c (Bk9 h) (Dm8 hj) hl,if_neg (by simp)]
 ·show Z3 (rd _ _)=_
  rw [Al9 c (Bk9 h) (Bk9 hj) hl]
  by_cases e:j=i
  ·rw [if_pos (by rw [e]),if_pos e];rfl
  ·rw [if_neg (by simp [e]),if_neg e]
 ·show U5 (rd _ _)=_
  rw [Al9 c (Bk9 h) (Bl5 hj) hl,if_neg (by simp)]
theorem D22 {i:Int} (h:0≤i∧i<3+nc) :
  B61 X ⟨3,i⟩=(true,E45 X i)∧Clean nc (E45 X i)∧(∀ j:Int,0≤j∧j<8→vS (E45 X i) j=vS X j)∧(∀ j:Int,0≤j∧j<12→vF (E45 X i) j=vF X j)∧(∀ j:Int,0≤j∧j<3+nc→vP (E45 X i) j=if j=i then (.zero,0) else vP X j):=by
 have hl:(List.replicate 40 (0:UInt8)).length=P8 (3:Int):=rfl
 refine ⟨B92 c (Bl5 h) _,B75 c (Bl5 h) hl (by show (U5 (List.replicate 40 0)).2≠2;rw [show (U5 (List.replicate 40 0))=(.zero,0) from rfl];simp),fun j hj=>?_,fun j hj=>?_,fun j hj=>?_⟩
 ·show Z6 (rd _ _)=_
  rw [Al9 c (Bl5 h) (Dm8 hj) hl,if_neg (by simp)]
 ·show Z3 (rd _ _)=_
  rw [Al9 c (Bl5 h) (Bk9 hj) hl,if_neg (by simp)]
 ·show U5 (rd _ _)=_
  rw [Al9 c (Bl5 h) (Bl5 hj) hl]
  by_cases e:j=i
  ·rw [if_pos (by rw [e]),if_pos e];rfl
  ·rw [if_neg (by simp [e]),if_neg e]
theorem H50 {i:Int} (h:0≤i∧i<3+nc):((vP X i).2=0∧(vP X i).1=.zero)∨((vP X i).2=1∧okP (vP X i).1=true):=by
 have:=c.ok ⟨3,i⟩ (by simp) (by simp) h.1 h.2
 have hk:(vP X i).2≠2:=this
 unfold vP U5 at hk ⊢
 split
 ·exact .inl ⟨rfl,rfl⟩
 ·split
  ·rename_i h2
   unfold isP at h2
   simp only [Bool.and_eq_true] at h2
   exact .inr ⟨rfl,h2.1⟩
  ·rename_i h1 h2;simp [h1,h2] at hk
end
abbrev Hg9 (q:PipeS):PipeS:=⟨q.head,q.count,max (q.readers-1) 0,q.writers,q.data,q.len⟩
abbrev Hl9 (q:PipeS):PipeS:=⟨q.head,q.count,q.readers,max (q.writers-1) 0,q.data,q.len⟩
def Em3 (kind:Int) (q:PipeS):PipeS:=if kind=1 then Hg9 q else Hl9 q
theorem Hd6 {q:PipeS} (h:okP q=true) (kind:Int):okP (Em3 kind q)=true:=by
 unfold Em3
 split<;>(simp only [okP,Bool.and_eq_true,decide_eq_true_eq] at h ⊢;omega)
def Gd6 (X:CX) (i:Int) (q:PipeS):CX:=if q.readers+q.writers=0∧i<4 then E45 X i else Be6 X i q
def Bv5 (nc:Nat) (X:CX) (f:Int):Int × CX :=
 if (vF X f).2≠1 then (105,X)
 else if (vF X f).1.refs-1>0 then (0,Au1 X f (Br7 (vF X f).1 (-1)))
 else if (vF X f).1.kind=3 then (0,Dw1 X f)
 else if ¬ ((vF X f).1.pipe<3+nc∧(vP X (vF X f).1.pipe).2=1) then (105,Dw1 X f)
 else (0,Gd6 (Dw1 X f) (vF X f).1.pipe (Em3 (vF X f).1.kind (vP X (vF X f).1.pipe).1))
theorem Hr8 {nc:Nat} {X:CX} (c:Clean nc X) {i:Int} (h:¬ i<3+nc):Dg0 X i=((.zero,2),X):=by
 have hp:G4 X.m.length ⟨3,i⟩=none:=by
  unfold G4
  rw [c.len,if_pos (by simp [W0];omega)]
 unfold Dg0 S6 rdX
 rw [hp]
theorem Gv4 {f:FileS} (h:okF f=true):0≤f.pipe:=by
 simp only [okF,Bool.and_eq_true,Bool.or_eq_true,decide_eq_true_eq,beq_iff_eq,bne_iff_ne] at h
 omega
theorem Ez0 (b k:Nat) (F:Fr) (ok:FrOk F) {nc:Nat} {X:CX} (c:Clean nc X) (b1 b2:Nat) (g:FileS) (q:PipeS) (hi:0≤g.pipe∧g.pipe<3+nc) (hq:okP q=true) :
  CtJ G6 U7 At0 [(0,P0 b),(5,P0 b1),(7,P0 b2)] [pt b1 (.cells E1 false (Bj4 g)),pt b2 (.cells H1 false (L8 q)),cmC b k F X] fun v own=>v=int 0∧own [cmC b k F (Gd6 X g.pipe q)]:=by
 have hr:0≤q.readers∧q.readers≤8∧0≤q.writers∧q.writers≤8:=by
  simp only [okP,Bool.and_eq_true,decide_eq_true_eq] at hq;omega
 have e1:IntKind.wrap .i64 (q.readers+q.writers)=q.readers+q.writers:=by rw [A9];omega
 obtain ⟨f1,_⟩:=D22 c hi
 obtain ⟨w1,_⟩:=B50 c hi hq
 unfold Gd6
 refine CtJ.of Dj5 fun h r=>Tr.eq (Ee3 ..) ?_;refine Je ?_
 (refine Jb ?_;unhygienic intros)
 rw [e1]
 refine Tr.andG (c:=decide (g.pipe<4)) (fun hb=>?_) ?_
 ·exact Jz
 by_cases h:q.readers+q.writers=0∧g.pipe<4
 ·rw [if_pos h]
  refine Yt (by simp [h.1,h.2]) ?_
  (refine Ja ?_;unhygienic intros)
  refine Yc (Gz9 b k F X ok g.pipe) ?_;rintro _ h ⟨rfl,o⟩<;>refine Jh o ?_
  rw [f1]
  dsimp only
  (refine Ja ?_;unhygienic intros)
  refine Yc (Eq8 true 0) ?_;rintro _ h ⟨rfl,o⟩<;>refine Jh o ?_
  rw [if_pos trivial]
  (refine Ja ?_;unhygienic intros)
  refine Ys fun o=>?_
  exact ⟨rfl,o.sub⟩
 ·rw [if_neg h]
  refine Yf (by simp;omega) ?_
  (refine Ja ?_;unhygienic intros)
  refine Yc (Ew4 b k F X ok g.pipe q) ?_;rintro _ h ⟨rfl,o⟩<;>refine Jh o ?_
  rw [w1]
  dsimp only
  (refine Ja ?_;unhygienic intros)
  refine Yc (Eq8 true 0) ?_;rintro _ h ⟨rfl,o⟩<;>refine Jh o ?_
  rw [if_pos trivial]
  (refine Ja ?_;unhygienic intros)
  refine Ys fun o=>?_
  exact ⟨rfl,o.sub⟩
theorem Gu7 (b k:Nat) (F:Fr) (X:CX) (ok:FrOk F) {nc:Nat} (c:Clean nc X) (f:Int) (hf:0≤f∧f<12):Ct B0 U7 [P0 b,int f] [cmC b k F X] fun v own=>v=int (Bv5 nc X f).1∧own [cmC b k F (Bv5 nc X f).2]:=by
 have hrf:=Ge7 c hf
 have e1:IntKind.wrap .i64 ((vF X f).1.refs-1)=(vF X f).1.refs+-1:=by rw [A9];omega
 obtain ⟨z1,z2,z3,z4,z5⟩:=D17 c hf
 unfold Bv5
 refine Ct.of Dj5 rfl fun h r=>Tr.eq (E00 ..) ?_;refine Je ?_
 refine Yc (He5 b k F X ok) ?_;rintro _ h ⟨rfl,o⟩<;>refine Jh o ?_
 rw [E80 c]
 (refine Ja ?_;unhygienic intros)
 refine Yc (B53 b k F X ok f) ?_;rintro _ h ⟨rfl,o⟩<;>refine Jh o ?_
 rw [Bb3 c hf]
 dsimp only
 (refine Jc ?_;unhygienic intros)
 refine Yn fun b1 h=>?_
 (refine Ja ?_;unhygienic intros)
 by_cases h1:(vF X f).2=1
 case neg =>
  rw [if_pos h1]
  refine Yt (by simpa using h1) ?_
  refine Ys fun o=>?_
  exact ⟨rfl,o.sub⟩
 rw [if_neg (by simpa using h1)]
 refine Yf (by simpa using h1) ?_
 have hk:okF (vF X f).1=true:=by
  rcases Gr9 c hf with ⟨h2,_⟩|⟨_,h2⟩
  ·rw [h1] at h2;cases h2
  ·exact h2
 have hr:=Es9 hk
 have hpp:=Gv4 hk
 generalize hg:(vF X f).1=g at hrf e1 hk hr hpp
 (refine Ja ?_;unhygienic intros)
 simp only [e1,List.set_cons_succ,List.set_cons_zero]
 (refine Ja ?_;unhygienic intros)
 by_cases h2:g.refs-1>0
 ·rw [if_pos h2]
  refine Yt (by simp;omega) ?_
  have hk2:=E48 hk (n:=-1) (by omega)
  obtain ⟨w1,_⟩:=Ah6 c hf hk2
  (refine Ja ?_;unhygienic intros)
  simp only [List.drop_zero,List.take]
  refine Yc (B66 b k F X ok f (Br7 g (-1))) ?_;rintro _ h ⟨rfl,o⟩<;>refine Jh o ?_
  rw [w1]
  dsimp only
  (refine Ja ?_;unhygienic intros)
  refine Yc (Eq8 true 0) ?_;rintro _ h ⟨rfl,o⟩<;>refine Jh o ?_
  rw [if_pos trivial]
  (refine Ja ?_;unhygienic intros)
  refine Ys fun o=>?_
  exact ⟨rfl,o.sub⟩
 rw [if_neg h2]
 refine Yf (by simp;omega) ?_
 refine Yc (G40 b k F X ok f) ?_;rintro _ h ⟨rfl,o⟩<;>refine Jh o ?_
 rw [z1]
 dsimp only
 (refine Ja ?_;unhygienic intros)
 by_cases h3:g.kind=3
 ·rw [if_pos h3]
  refine Yt (by simpa using h3) ?_
  refine Ys fun o=>?_
  exact ⟨rfl,o.sub⟩
 rw [if_neg h3]
 refine Yf (by simpa using h3) ?_
 (refine Ja ?_;unhygienic intros)
 refine Yc (E58 b k F (Dw1 X f) ok g.pipe) ?_;rintro _ h ⟨rfl,o⟩<;>refine Jh o ?_
 by_cases h4:g.pipe<3+(nc:Int)
 case neg =>
  rw [if_pos (fun h=>h4 h.1),Hr8 z2 h4]
  dsimp only
  (refine Jc ?_;unhygienic intros)
  refine Yn fun b2 h=>?_
  (refine Ja ?_;unhygienic intros)
  refine Ys fun o=>?_
  exact ⟨rfl,o.sub⟩
 rw [Dx2 z2 ⟨hpp,h4⟩,z5 _ ⟨hpp,h4⟩]
 dsimp only
 (refine Jc ?_;unhygienic intros)
 refine Yn fun b2 h=>?_
 (refine Ja ?_;unhygienic intros)
 by_cases h5:(vP X g.pipe).2=1
 case neg =>
  rw [if_pos (fun h=>h5 h.2)]
  refine Yt (by simpa using h5) ?_
  refine Ys fun o=>?_
  exact ⟨rfl,o.sub⟩
 rw [if_neg (fun h=>h ⟨h4,h5⟩)]
 refine Yf (by simpa using h5) ?_
 have hq:okP (vP X g.pipe).1=true:=by
  rcases H50 c ⟨hpp,h4⟩ with ⟨h6,_⟩|⟨_,h6⟩
  ·rw [h5] at h6;cases h6
  ·exact h6
 have hq2:=Hd6 hq g.kind
 generalize (vP X g.pipe).1=q at hq hq2
 have hqr:0≤q.readers∧q.readers≤8∧0≤q.writers∧q.writers≤8:=by
  simp only [okP,Bool.and_eq_true,decide_eq_true_eq] at hq;omega
 have e2:IntKind.wrap .i64 (q.readers-1)=q.readers-1:=by rw [A9];omega
 have e3:IntKind.wrap .i64 (q.writers-1)=q.writers-1:=by rw [A9];omega
 (refine Ja ?_;unhygienic intros)
 by_cases h6:g.kind=1
 ·refine Yt (by simpa using h6) ?_
  have ee:Em3 g.kind q=Hg9 q:=by unfold Em3;rw [if_pos h6]
  rw [ee] at hq2 ⊢
  (refine Ja ?_;unhygienic intros)
  rw [e2,V6,show (L8 q).set 2 (int (max (q.readers-1) 0))=L8 (Hg9 q) from rfl]
  refine Di5 (Ez0 b k F ok z2 b1 b2 (Br7 g (-1)) (Hg9 q) ⟨hpp,h4⟩ hq2) [2,0,0] rfl ?_
  intro v h q
  exact q
 ·refine Yf (by simpa using h6) ?_
  have ee:Em3 g.kind q=Hl9 q:=by unfold Em3;rw [if_neg h6]
  rw [ee] at hq2 ⊢
  (refine Ja ?_;unhygienic intros)
  rw [e3,V6,show (L8 q).set 3 (int (max (q.writers-1) 0))=L8 (Hl9 q) from rfl]
  refine Di5 (Ez0 b k F ok z2 b1 b2 (Br7 g (-1)) (Hl9 q) ⟨hpp,h4⟩ hq2) [2,0,0] rfl ?_
  intro v h q
  exact q
def SlOk (L:List (Int × ProcS)):Prop:=∀ s ∈ L,(0≤s.1∧s.1<8)∧okS s.2=true∧InS s.2
theorem Bf3 (e:Int):Ct B0 Ad2 [int e] [] fun v own=>v=.agg ⟨O6 0 e false⟩∧own []:=by
 refine Ct.of Hk8 rfl fun h r=>Tr.eq (Hm9 ..) ?_;refine Je ?_
 (refine Ja ?_;unhygienic intros)
 refine Ys fun o=>?_
 exact ⟨rfl,o.tail⟩
theorem H41 (ok:Bool) (n:Int):Ct B0 Dh9 [.bool ok,int n] [] fun v own=>v=.agg ⟨if ok then O6 n 0 false else O6 0 105 false⟩∧own []:=by
 refine Ct.of Hm1 rfl fun h r=>Tr.eq (Hj0 ..) ?_;refine Je ?_
 refine Yn fun b1 h=>?_
 cases ok
 ·refine Yt rfl ?_
  refine Yc (Bf3 105) ?_;rintro _ h ⟨rfl,o⟩<;>(refine Jf o ?_;unhygienic intros)
  refine Ys fun o=>?_
  exact ⟨rfl,o.tail⟩
 ·refine Yf rfl ?_
  (refine Ja ?_;unhygienic intros)
  refine Ys fun o=>?_
  exact ⟨rfl,o.tail⟩
theorem Dt6 (p:ProcS) {j:Nat} (h:j<8):(D4 p)[8+j]?=some (int (p.fds.getD j 0)):=by
 have:=Ep4 (l:=p.fds) (i:=j) (by rw [p.len];exact h)
 rw [show 8+j=j+8 by omega]
 exact this
abbrev setFd (p:ProcS) (j:Nat) (f:Int):ProcS:=⟨p.state,p.parent,p.group,p.code,p.pending,p.mask,p.ignored,p.caught,p.fds.set j f,by rw [List.length_set];exact p.len⟩
theorem Eg1 (p:ProcS) {j:Nat} (h:j<8) (f:Int):Dj2 (D4 p) (8+j) (int f)=some (D4 (setFd p j f)):=by
 have e:Nat.blt (8+j) (D4 p).length=true:=by rw [Bt8 p];exact Nat.ble_eq_true_of_le (by have:=p.len;omega)
 unfold Dj2
 rw [e,show 8+j=j+8 by omega]
 show some ((D4 p).set (j+8) (int f))=_
 simp only [D4,List.set_cons_succ,List.map_set]
def Aa8 (p:ProcS) (fd:Int):Bool:=decide (0≤fd∧fd<8) && decide (p.fds.getD fd.toNat 0>0)
theorem Gt0 (p:ProcS) (fd:Int):Ct B0 Bn3 [.agg ⟨D4 p⟩,int fd] [] fun v own=>v=.bool (Aa8 p fd)∧own []:=by
 refine Ct.of G83 rfl fun h r=>Tr.eq (Hc4 ..) ?_;refine Je ?_
 refine Yn fun b1 h=>?_
 by_cases h0:0≤fd
 case neg =>
  refine Yb (Yf (by simpa using h0) ?_)
  refine Ys fun o=>(?_:Tr _ _ _ _) o;refine Je ?_
  refine Yb (Yf rfl ?_)
  refine Ys fun o=>(?_:Tr _ _ _ _) o;refine Je ?_
  refine Ys fun o=>?_
  refine ⟨?_,o.tail⟩
  rw [show Aa8 p fd=false by simp [Aa8];omega]
 refine Yb (Yt (by simpa using h0) ?_)
 refine Ys fun o=>(?_:Tr _ _ _ _) o;refine Je ?_
 by_cases h1:fd<8
 case neg =>
  refine Yb (Yf (by simpa using h1) ?_)
  refine Ys fun o=>(?_:Tr _ _ _ _) o;refine Je ?_
  refine Ys fun o=>?_
  refine ⟨?_,o.tail⟩
  rw [show Aa8 p fd=false by simp [Aa8];omega]
 have hg:=Dt6 p (j:=fd.toNat) (by omega)
 refine Yb (Yt (by simpa using h1) ?_)
 (refine Ja ?_;unhygienic intros)
 refine Ys fun o=>(?_:Tr _ _ _ _) o;refine Je ?_
 refine Ys fun o=>?_
 refine ⟨?_,o.tail⟩
 rw [show Aa8 p fd=decide (p.fds.getD fd.toNat 0>0) by simp [Aa8,h0,h1]]
theorem D38 {p:ProcS} (h:okS p=true) (h1:p.state=1) (j:Nat) {f:Int} (hf:0≤f∧f≤12):okS (setFd p j f)=true:=by
 have hd:=Et2 h
 have hd2:By9 (setFd p j f).fds:=fun x hx=>by
  rcases List.mem_or_eq_of_mem_set hx with h2|rfl
  ·exact hd x h2
  ·exact hf
 unfold okS at h ⊢
 rw [if_neg (by rw [h1];decide)] at h
 rw [if_neg (show ¬ (setFd p j f).state=2 by show ¬ p.state=2;rw [h1];decide)]
 simp only [Bool.and_eq_true] at h ⊢
 refine ⟨h.1,h.2.1,?_,h.2.2.2⟩
 rw [Bool.not_eq_true',List.any_eq_false]
 intro x hx
 have:=hd2 x hx
 simp;omega
def Hi5 (X:CX) (i fd f:Int):List Value × CX :=
 if (J7 X i).2≠0 then (O6 0 (J7 X i).2 false,X) else (O6 fd 0 false,Ay7 X i (setFd (vS X i).1 fd.toNat (f+1)))
def M7 (q:Int→Bool):Nat→Int→Nat→List Int
 | 0,_,_=>[]
 | _+1,_,0=>[]
 | m+1,i,w+1=>if q i=true then i::M7 q m (i+1) w else M7 q m (i+1) (w+1)
theorem B94 (q:Int→Bool):∀ (m:Nat) (i:Int) (w:Nat),(M7 q m i w).length≤w
 | 0,_,_=>by simp [M7]
 | _+1,_,0=>by simp [M7]
 | m+1,i,w+1=>by
  have h1:=B94 q m (i+1) w
  have h2:=B94 q m (i+1) (w+1)
  unfold M7;split<;>simp<;>omega
theorem Aw7 (q:Int→Bool):∀ (m:Nat) (i:Int) (w:Nat),∀ x ∈ M7 q m i w,i≤x∧x<i+m∧q x=true
 | 0,_,_,x,hx=>by simp [M7] at hx
 | _+1,_,0,x,hx=>by simp [M7] at hx
 | m+1,i,w+1,x,hx=>by
  unfold M7 at hx
  split at hx
  ·rename_i hq
   rcases List.mem_cons.1 hx with rfl|h
   ·exact ⟨by omega,by omega,hq⟩
   ·have:=Aw7 q m (i+1) w x h
    exact ⟨by omega,by omega,this.2.2⟩
  ·have:=Aw7 q m (i+1) (w+1) x hx
   exact ⟨by omega,by omega,this.2.2⟩
theorem Du5 (pr:HP) (g:FuncId) (cp:List Value) (n:Int) (hn:n≤100) (q:Int→Bool) (hq:∀ j:Int,0≤j∧j<n→Ct B0 g (int j::cp) [pr] fun v own=>v=.bool (q j)∧own [pr]):∀ (m:Nat) (i:Int) (acc:List Int) (w:Nat) (a:Option Addr) (ac:Nat),0≤i→i+m=n→acc.length≤i →
  CtJ G6 W2 A93 [(0,int n),(1,int ((acc.length+w:Nat):Int)),(2,.func (.func g) ⟨[]⟩ ⟨cp⟩),(7,.slice a acc.length ac),(8,int i)] [slC false B5 1 a acc.length ac (acc.map int),pr] fun v own =>
   ∃ a' c',v=.slice a' (acc++M7 q m i w).length c'∧own [slC false B5 1 a' (acc++M7 q m i w).length c' ((acc++M7 q m i w).map int),pr]
 | 0,i,acc,w,a,ac,h0,hi,ha=>by
  refine CtJ.of Dg7 fun h r=>Tr.eq (Db5 ..) ?_;refine Je ?_
  refine Yb (Yf (by simp;omega) ?_)
  refine Ys fun o=>(?_:Tr _ _ _ _) o;refine Je ?_
  refine Yf rfl ?_
  refine Ys fun o=>?_
  rw [show M7 q 0 i w=[] by unfold M7;rfl,List.append_nil]
  exact ⟨a,ac,rfl,o.sub⟩
 | m+1,i,acc,0,a,ac,h0,hi,ha=>by
  refine CtJ.of Dg7 fun h r=>Tr.eq (Db5 ..) ?_;refine Je ?_
  refine Yb (Yt (by simp;omega) ?_)
  refine Ys fun o=>(?_:Tr _ _ _ _) o;refine Je ?_
  refine Yf (by simp) ?_
  refine Ys fun o=>?_
  rw [show M7 q (m+1) i 0=[] by unfold M7;rfl,List.append_nil]
  exact ⟨a,ac,rfl,o.sub⟩
 | m+1,i,acc,w+1,a,ac,h0,hi,ha=>by
  have e1:IntKind.wrap .i64 (i+1)=i+1:=by rw [A9];omega
  rw [show M7 q (m+1) i (w+1)=if q i=true then i::M7 q m (i+1) w else M7 q m (i+1) (w+1) by rw [M7]]
  refine CtJ.of Dg7 fun h r=>Tr.eq (Db5 ..) ?_;refine Je ?_
  refine Yb (Yt (by simp;omega) ?_)
  refine Ys fun o=>(?_:Tr _ _ _ _) o;refine Je ?_
  refine Yt (by simp;omega) ?_
  rw [e1]
  refine Aa7 0 rfl fun hl hc _=>?_
  (refine Ja ?_;unhygienic intros)
  simp only [List.nil_append,List.singleton_append]
  refine Yc (hq i (by omega)) ?_;rintro _ h ⟨rfl,o⟩<;>refine Jh o ?_
  (refine Ja ?_;unhygienic intros)
  by_cases h2:q i=true
  ·rw [if_pos h2]
   refine Yt h2 ?_
   (refine Ja ?_;unhygienic intros)
   refine Tr.xApd (new:=[int i]) ⟨rfl,rfl,by simp only [B1];omega⟩ fun a' c' h=>?_
   have H:=Du5 pr g cp n hn q hq m (i+1) (acc++[i]) w a' c' (by omega) (by omega) (by simp;omega)
   rw [show acc++i::M7 q m (i+1) w=acc++[i]++M7 q m (i+1) w by simp,show acc.length+(w+1)=(acc++[i]).length+w by simp;omega]
   refine (?_:Tr (_::pr::slC false B5 1 a' (acc.length+1) c' (acc.map int++[int i])::_) _ _ _)
   rw [show acc.map int++[int i]=(acc++[i]).map int by simp,show acc.length+1=(acc++[i]).length by simp]
   refine P6 [2,1] 1 rfl rfl ?_
   exact Yr H fun v h q=>q
  ·rw [if_neg h2]
   refine Yf (by simpa using h2) ?_
   refine P6 [1,0] 0 rfl rfl ?_
   exact Yr (Du5 pr g cp n hn q hq m (i+1) acc (w+1) a ac (by omega) (by omega) (by omega)) fun v h q=>q
theorem E52 (pr:HP) (g:FuncId) (cp:List Value) (n:Nat) (hn:n≤100) (w:Nat) (q:Int→Bool) (hq:∀ j:Int,0≤j∧j<n→Ct B0 g (int j::cp) [pr] fun v own=>v=.bool (q j)∧own [pr]) :
  Ct B0 W2 [int n,int w,.func (.func g) ⟨[]⟩ ⟨cp⟩] [pr] fun v own=>∃ a' c',v=.slice a' (M7 q n 0 w).length c'∧own [slC false B5 1 a' (M7 q n 0 w).length c' ((M7 q n 0 w).map int),pr]:=by
 refine Ct.of Dg7 rfl fun h r=>Tr.eq (Hk6 ..) ?_;refine Je ?_
 refine G9 false B5 1 (by omega) ?_
 have J:=Du5 pr g cp n (by omega) q hq n 0 [] w none 0 (by omega) (by omega) (by simp)
 simp only [List.nil_append,List.length_nil,List.map_nil,Nat.zero_add] at J
 exact Yr J fun v h q=>q
theorem Ht3 (b:Nat) (p:ProcS) (j:Int) (hj:0≤j∧j<8):Ct B0 Ba7 [int j,P0 b] [pt b (.cells D1 false (D4 p))] fun v own=>v=.bool (p.fds.getD j.toNat 0==0)∧own [pt b (.cells D1 false (D4 p))]:=by
 have hg:=Dt6 p (j:=j.toNat) (by omega)
 refine Ct.of Gp1 rfl fun h r=>Tr.eq (Gq6 ..) ?_;refine Je ?_
 (refine Ja ?_;unhygienic intros)
 refine Ys fun o=>?_
 exact ⟨rfl,o.sub⟩
abbrev Q8 (p:ProcS) (w:Nat):List Int:=M7 (fun j=>p.fds.getD j.toNat 0==0) 8 0 w
theorem H01 (p:ProcS) (w:Nat):Ct B0 B67 [.agg ⟨D4 p⟩,int w] [] fun v own=>∃ a' c',v=.slice a' (Q8 p w).length c'∧own [slC false B5 1 a' (Q8 p w).length c' ((Q8 p w).map int)]:=by
 refine Ct.of Hc1 rfl fun h r=>Tr.eq (Hb0 ..) ?_;refine Je ?_
 refine Yn fun b1 h=>?_
 refine Yc (E52 _ Ba7 [P0 b1] 8 (by omega) w _ fun j hj=>Ht3 b1 p j (by omega)) ?_
 rintro _ h ⟨a',c',rfl,o⟩
 refine Jh o ?_
 (refine Ja ?_;unhygienic intros)
 refine Ys fun o=>?_
 exact ⟨a',c',rfl,o.sub⟩
def hcC (bh b k:Nat) (F:Fr) (X:CX):HP:=hex fun _:Unit=>sl [pt bh (.cells Bc3 false [P0 b]),cmC b k F X]
instance {bh b k:Nat} {F:Fr} {X:CX}:Chk (hcC bh b k F X) (fun _:Unit=>[pt bh (.cells Bc3 false [P0 b]),cmC b k F X]):=⟨rfl⟩
theorem H27 (bh b k:Nat) (F:Fr) (X:CX) (ok:FrOk F) {nc:Nat} (c:Clean nc X) (j:Int) (hj:0≤j∧j<12):Ct B0 A28 [int j,P0 bh] [hcC bh b k F X] fun v own=>v=.bool ((vF X j).2==0)∧own [hcC bh b k F X]:=by
 refine Ct.of Gu8 rfl fun h r=>Tr.eq (G07 ..) ?_;refine Je ?_
 refine B4 (hcC bh b k F X) fun u=>?_;refine Je ?_
 (refine Ja ?_;unhygienic intros)
 refine Yc (B53 b k F X ok j) ?_;rintro _ h ⟨rfl,o⟩<;>refine Jh o ?_
 rw [Bb3 c hj]
 dsimp only
 (refine Jc ?_;unhygienic intros)
 refine Yn fun b1 h=>?_
 (refine Ja ?_;unhygienic intros)
 refine B2 (hcC bh b k F X) () ?_;refine Je ?_
 refine Ys fun o=>?_
 exact ⟨rfl,o.sub⟩
theorem H44 (bh b k:Nat) (F:Fr) (X:CX) (ok:FrOk F) {nc:Nat} (c:Clean nc X) (j:Int) (hj:0≤j∧j<3+nc):Ct B0 A19 [int j,P0 bh] [hcC bh b k F X] fun v own=>v=.bool ((vP X j).2==0)∧own [hcC bh b k F X]:=by
 refine Ct.of G16 rfl fun h r=>Tr.eq (G05 ..) ?_;refine Je ?_
 refine B4 (hcC bh b k F X) fun u=>?_;refine Je ?_
 (refine Ja ?_;unhygienic intros)
 refine Yc (E58 b k F X ok j) ?_;rintro _ h ⟨rfl,o⟩<;>refine Jh o ?_
 rw [Dx2 c hj]
 dsimp only
 (refine Jc ?_;unhygienic intros)
 refine Yn fun b1 h=>?_
 (refine Ja ?_;unhygienic intros)
 refine B2 (hcC bh b k F X) () ?_;refine Je ?_
 refine Ys fun o=>?_
 exact ⟨rfl,o.sub⟩
def ofV (X:CX) (i fd:Int):(Int × FileS) × Int :=
 if (J7 X i).2≠0 then ((0,.zero),(J7 X i).2)
 else if Aa8 (vS X i).1 fd=false then ((0,.zero),109)
 else if (vF X ((vS X i).1.fds.getD fd.toNat 0-1)).2≠1 then ((0,.zero),105)
 else (((vS X i).1.fds.getD fd.toNat 0-1,(vF X ((vS X i).1.fds.getD fd.toNat 0-1)).1),0)
theorem E98 {nc:Nat} {X:CX} (c:Clean nc X) {i:Int} (hi:0≤i∧i<8) (h:(J7 X i).2=0) (j:Nat):0≤(vS X i).1.fds.getD j 0∧(vS X i).1.fds.getD j 0≤12:=by
 obtain ⟨s1,s2,s3,s4⟩:=A79 c hi h
 by_cases hj:j<(vS X i).1.fds.length
 ·rw [List.getD_eq_getElem?_getD,List.getElem?_eq_getElem hj];exact Et2 s3 _ (List.getElem_mem _)
 ·rw [List.getD_eq_getElem?_getD,List.getElem?_eq_none (by omega)];simp
theorem Ig8 (b k:Nat) (F:Fr) (X:CX) (ok:FrOk F) {nc:Nat} (c:Clean nc X) (i fd:Int) (hi:0≤i∧i<8) :
  Ct B0 D51 [P0 b,int i,int fd] [cmC b k F X] fun v own=>v=.tuple ⟨[int (ofV X i fd).1.1,.agg ⟨Bj4 (ofV X i fd).1.2⟩,int (ofV X i fd).2]⟩∧own [cmC b k F X]:=by
 unfold ofV
 refine Ct.of H26 rfl fun h r=>Tr.eq (H09 ..) ?_;refine Je ?_
 refine Yn fun b0 h=>?_
 refine Yc (Et5 b k F X ok c i hi) ?_;rintro _ h ⟨rfl,o⟩<;>refine Jh o ?_
 (refine Jc ?_;unhygienic intros)
 refine Yn fun b1 h=>?_
 (refine Jb ?_;unhygienic intros)
 by_cases h1:(J7 X i).2=0
 case neg =>
  rw [if_pos h1]
  refine Yt (by simpa using h1) ?_
  (refine Ja ?_;unhygienic intros)
  refine Ys fun o=>?_
  exact ⟨rfl,o.sub⟩
 rw [if_neg (by simpa using h1)]
 refine Yf (by simpa using h1) ?_
 obtain ⟨s1,s2,s3,s4⟩:=A79 c hi h1
 have hr:=fun j=>E98 c hi h1 j
 rw [s1]
 generalize hp:(vS X i).1=p at s2 s3 hr
 (refine Ja ?_;unhygienic intros)
 refine Yc (Gt0 p fd) ?_;rintro _ h ⟨rfl,o⟩<;>(refine Jf o ?_;unhygienic intros)
 by_cases h2:Aa8 p fd=true
 case neg =>
  rw [if_pos (by simpa using h2)]
  refine Yt (by simpa using h2) ?_
  (refine Ja ?_;unhygienic intros)
  refine Ys fun o=>?_
  exact ⟨rfl,o.sub⟩
 rw [if_neg (by simpa using h2)]
 refine Yf (by simpa using h2) ?_
 simp only [Aa8,Bool.and_eq_true,decide_eq_true_eq] at h2
 have hg:=Dt6 p (j:=fd.toNat) (by omega)
 have hf:=hr fd.toNat
 generalize p.fds.getD fd.toNat 0=f at hg hf h2
 have e1:IntKind.wrap .i64 (f-1)=f-1:=by rw [A9];omega
 (refine Ja ?_;unhygienic intros)
 rw [e1]
 refine Yc (B53 b k F X ok (f-1)) ?_;rintro _ h ⟨rfl,o⟩<;>refine Jh o ?_
 rw [Bb3 c (by omega)]
 dsimp only
 (refine Ja ?_;unhygienic intros)
 by_cases h3:(vF X (f-1)).2=1
 case neg =>
  rw [if_pos h3]
  refine Yt (by simpa using h3) ?_
  (refine Ja ?_;unhygienic intros)
  refine Ys fun o=>?_
  exact ⟨rfl,o.sub⟩
 rw [if_neg (by simpa using h3)]
 refine Yf (by simpa using h3) ?_
 (refine Ja ?_;unhygienic intros)
 rw [e1]
 refine Ys fun o=>?_
 exact ⟨rfl,o.sub⟩
def Ad7 (nc:Nat) (X:CX) (i fd:Int):List Value × CX :=
 if (J7 X i).2≠0 then (O6 0 (J7 X i).2 false,X)
 else if Aa8 (vS X i).1 fd=false then (O6 0 109 false,X)
 else (O6 0 (Bv5 nc (Ay7 X i (setFd (vS X i).1 fd.toNat 0)) ((vS X i).1.fds.getD fd.toNat 0-1)).1 false,(Bv5 nc (Ay7 X i (setFd (vS X i).1 fd.toNat 0)) ((vS X i).1.fds.getD fd.toNat 0-1)).2)
theorem Eg6 {p:ProcS} {fd:Int} (h:Aa8 p fd=true):(0≤fd∧fd<8)∧p.fds.getD fd.toNat 0>0:=by
 simp only [Aa8,Bool.and_eq_true,decide_eq_true_eq] at h;exact h
theorem G65 {nc:Nat} {X:CX} (c:Clean nc X) {i:Int} (hi:0≤i∧i<8) (h:(J7 X i).2=0) (j:Nat) {f:Int} (hf:0≤f∧f≤12) :
  Bf5 X i (setFd (vS X i).1 j f)=(true,Ay7 X i (setFd (vS X i).1 j f))∧Clean nc (Ay7 X i (setFd (vS X i).1 j f))∧(∀ n:Int,0≤n∧n<8→vS (Ay7 X i (setFd (vS X i).1 j f)) n=if n=i then (setFd (vS X i).1 j f,1) else vS X n)∧(∀ n:Int,0≤n∧n<12→vF (Ay7 X i (setFd (vS X i).1 j f)) n=vF X n)∧(∀ n:Int,0≤n∧n<3+nc→vP (Ay7 X i (setFd (vS X i).1 j f)) n=vP X n):=by
 obtain ⟨s1,s2,s3,s4⟩:=A79 c hi h
 have hin:=D25 (rd X ⟨1,i⟩)
 exact Bi1 c hi (D38 s3 s2 j hf) ⟨hin.a,hin.b,hin.c,hin.d⟩
theorem Em5 (b k:Nat) (F:Fr) (X:CX) (ok:FrOk F) {nc:Nat} (c:Clean nc X) (i fd:Int) (hi:0≤i∧i<8) :
  Ct B0 Bb4 [P0 b,int i,int fd] [cmC b k F X] fun v own=>v=.agg ⟨(Ad7 nc X i fd).1⟩∧own [cmC b k F (Ad7 nc X i fd).2]:=by
 unfold Ad7
 refine Ct.of G79 rfl fun h r=>Tr.eq (Hc8 ..) ?_;refine Je ?_
 refine Yn fun b0 h=>?_
 refine Yc (Et5 b k F X ok c i hi) ?_;rintro _ h ⟨rfl,o⟩<;>refine Jh o ?_
 (refine Jc ?_;unhygienic intros)
 refine Yn fun b1 h=>?_
 (refine Jb ?_;unhygienic intros)
 by_cases h1:(J7 X i).2=0
 case neg =>
  rw [if_pos h1]
  refine Yt (by simpa using h1) ?_
  refine Yc (Bf3 (J7 X i).2) ?_;rintro _ h ⟨rfl,o⟩<;>(refine Jf o ?_;unhygienic intros)
  refine Ys fun o=>?_
  exact ⟨rfl,o.sub⟩
 rw [if_neg (by simpa using h1)]
 refine Yf (by simpa using h1) ?_
 obtain ⟨s1,s2,s3,s4⟩:=A79 c hi h1
 have hr:=E98 c hi h1 fd.toNat
 have hW:=fun hf=>G65 c hi h1 fd.toNat (f:=0) hf
 rw [s1]
 generalize (vS X i).1=p at s2 s3 hr hW
 (refine Ja ?_;unhygienic intros)
 refine Yc (Gt0 p fd) ?_;rintro _ h ⟨rfl,o⟩<;>(refine Jf o ?_;unhygienic intros)
 by_cases h2:Aa8 p fd=true
 case neg =>
  rw [if_pos (by simpa using h2)]
  refine Yt (by simpa using h2) ?_
  refine Yc (Bf3 109) ?_;rintro _ h ⟨rfl,o⟩<;>(refine Jf o ?_;unhygienic intros)
  refine Ys fun o=>?_
  exact ⟨rfl,o.sub⟩
 rw [if_neg (by simpa using h2)]
 refine Yf (by simpa using h2) ?_
 have hn:=Eg6 h2
 have hg:=Dt6 p (j:=fd.toNat) (by omega)
 have hs:=Eg1 p (j:=fd.toNat) (by omega) 0
 obtain ⟨w1,w2,_⟩:=hW (by omega)
 generalize p.fds.getD fd.toNat 0=f at hg hr hn
 have e1:IntKind.wrap .i64 (f-1)=f-1:=by rw [A9];omega
 generalize setFd p fd.toNat 0=q at hs w1 w2
 (refine Ja ?_;unhygienic intros)
 refine Yc (Dy9 b k F X ok i q) ?_;rintro _ h ⟨rfl,o⟩<;>refine Jh o ?_
 rw [w1]
 (refine Ja ?_;unhygienic intros)
 rw [e1]
 refine Yc (Gu7 b k F _ ok w2 (f-1) (by omega)) ?_;rintro _ h ⟨rfl,o⟩<;>(refine Jf o ?_;unhygienic intros)
 refine Yc (Bf3 (Bv5 nc (Ay7 X i q) (f-1)).1) ?_;rintro _ h ⟨rfl,o⟩<;>(refine Jf o ?_;unhygienic intros)
 refine Ys fun o=>?_
 exact ⟨rfl,o.sub⟩
def Bq5:PipeS:=⟨0,0,1,1,[0,0,0,0,0,0,0,0,0,0,0,0,0,0,0,0,0,0,0,0,0,0,0,0,0,0,0,0,0,0,0,0],rfl⟩
abbrev A23 (X:CX):List Int:=M7 (fun j=>(vF X j).2==0) 12 0 2
abbrev Bb2 (X:CX):List Int:=M7 (fun j=>(vP X j).2==0) 4 0 1
def Bo1 (X:CX) (i d0 d1 f0 f1 r0:Int):CX :=
 Ay7 (Au1 (Au1 (Be6 X r0 Bq5) f0 ⟨1,r0,1,0⟩) f1 ⟨2,r0,1,0⟩) i (setFd (setFd (vS X i).1 d0.toNat (f0+1)) d1.toNat (f1+1))
def Ab2 (X:CX) (i:Int):List Value × CX :=
 if (J7 X i).2≠0 then (O6 0 (J7 X i).2 false,X)
 else if (Q8 (vS X i).1 2).length<2 then (O6 0 124 false,X)
 else if (A23 X).length<2∨(Bb2 X).length=0 then (O6 0 123 false,X)
 else (O6 ((Q8 (vS X i).1 2).getD 0 0+16*(Q8 (vS X i).1 2).getD 1 0) 0 false,Bo1 X i ((Q8 (vS X i).1 2).getD 0 0) ((Q8 (vS X i).1 2).getD 1 0) ((A23 X).getD 0 0) ((A23 X).getD 1 0) ((Bb2 X).getD 0 0))
theorem Hp4 {l:List Int} (h:l.length≤2) (h2:¬ l.length<2):∃ a b,l=[a,b]:=by
 match l,h,h2 with
 | [a,b],_,_=>exact ⟨a,b,rfl⟩
 | [],_,h2=>simp at h2
 | [_],_,h2=>simp at h2
 | _::_::_::_,h,_=>simp at h
theorem Gj5 {nc:Nat} {X:CX} (c:Clean nc X) {i:Int} (hi:0≤i∧i<8) (hs:(J7 X i).2=0) {d0 d1 f0 f1 r0:Int} (hd0:0≤d0∧d0<8) (hd1:0≤d1∧d1<8) (hf0:0≤f0∧f0<12) (hf1:0≤f1∧f1<12) (hr:0≤r0∧r0<4) (hn:r0<3+(nc:Int)) :
  Bq1 X r0 Bq5=(true,Be6 X r0 Bq5)∧Bh6 (Be6 X r0 Bq5) f0 ⟨1,r0,1,0⟩=(true,Au1 (Be6 X r0 Bq5) f0 ⟨1,r0,1,0⟩) ∧
  Bh6 (Au1 (Be6 X r0 Bq5) f0 ⟨1,r0,1,0⟩) f1 ⟨2,r0,1,0⟩=(true,Au1 (Au1 (Be6 X r0 Bq5) f0 ⟨1,r0,1,0⟩) f1 ⟨2,r0,1,0⟩) ∧
  Bf5 (Au1 (Au1 (Be6 X r0 Bq5) f0 ⟨1,r0,1,0⟩) f1 ⟨2,r0,1,0⟩) i (setFd (setFd (vS X i).1 d0.toNat (f0+1)) d1.toNat (f1+1))=(true,Bo1 X i d0 d1 f0 f1 r0) ∧
  Clean nc (Bo1 X i d0 d1 f0 f1 r0)∧(∀ j:Int,0≤j∧j<8→vS (Bo1 X i d0 d1 f0 f1 r0) j=if j=i then (setFd (setFd (vS X i).1 d0.toNat (f0+1)) d1.toNat (f1+1),1) else vS X j) ∧
  (∀ j:Int,0≤j∧j<12→vF (Bo1 X i d0 d1 f0 f1 r0) j=if j=f1 then (⟨2,r0,1,0⟩,1) else if j=f0 then (⟨1,r0,1,0⟩,1) else vF X j) ∧
  (∀ j:Int,0≤j∧j<3+nc→vP (Bo1 X i d0 d1 f0 f1 r0) j=if j=r0 then (Bq5,1) else vP X j):=by
 obtain ⟨s1,s2,s3,s4⟩:=A79 c hi hs
 have hin:=D25 (rd X ⟨1,i⟩)
 obtain ⟨a1,a2,a3,a4,a5⟩:=B50 c (i:=r0) (by omega) (p:=Bq5) rfl
 obtain ⟨b1,b2,b3,b4,b5⟩:=Ah6 a2 hf0 (f:=⟨1,r0,1,0⟩) (by simp [okF];omega)
 obtain ⟨c1,c2,c3,c4,c5⟩:=Ah6 b2 hf1 (f:=⟨2,r0,1,0⟩) (by simp [okF];omega)
 have hq:=D38 (D38 s3 s2 d0.toNat (f:=f0+1) (by omega)) s2 d1.toNat (f:=f1+1) (by omega)
 obtain ⟨e1,e2,e3,e4,e5⟩:=Bi1 c2 hi hq ⟨hin.a,hin.b,hin.c,hin.d⟩
 refine ⟨a1,b1,c1,e1,e2,fun j hj=>?_,fun j hj=>?_,fun j hj=>?_⟩
 ·rw [show Bo1 X i d0 d1 f0 f1 r0=Ay7 _ _ _ from rfl,e3 j hj,c3 j hj,b3 j hj,a3 j hj]
 ·rw [show Bo1 X i d0 d1 f0 f1 r0=Ay7 _ _ _ from rfl,e4 j hj,c4 j hj,b4 j hj,a4 j hj]
 ·rw [show Bo1 X i d0 d1 f0 f1 r0=Ay7 _ _ _ from rfl,e5 j hj,c5 j hj,b5 j hj,a5 j hj]
theorem H36 (bh b k:Nat) (F:Fr) (X:CX) (ok:FrOk F) {nc:Nat} (c:Clean nc X):Ct B0 W2 [int 12,int 2,.func (.func A28) ⟨[]⟩ ⟨[P0 bh]⟩] [hcC bh b k F X] fun v own =>
  ∃ a' c',v=.slice a' (A23 X).length c'∧own [slC false B5 1 a' (A23 X).length c' ((A23 X).map int),hcC bh b k F X] :=
 E52 _ A28 [P0 bh] 12 (by omega) 2 _ fun j hj=>H27 bh b k F X ok c j (by omega)
theorem Hz2 (bh b k:Nat) (F:Fr) (X:CX) (ok:FrOk F) {nc:Nat} (c:Clean nc X):Ct B0 W2 [int 4,int 1,.func (.func A19) ⟨[]⟩ ⟨[P0 bh]⟩] [hcC bh b k F X] fun v own =>
  ∃ a' c',v=.slice a' (Bb2 X).length c'∧own [slC false B5 1 a' (Bb2 X).length c' ((Bb2 X).map int),hcC bh b k F X] :=
 E52 _ A19 [P0 bh] 4 (by omega) 1 _ fun j hj=>H44 bh b k F X ok c j (by have:=c.pos;omega)
theorem If1 {l:List Int} (h:l.length≤1) (h2:¬ l.length=0):∃ a,l=[a]:=by
 match l,h,h2 with
 | [a],_,_=>exact ⟨a,rfl⟩
 | [],_,h2=>simp at h2
 | _::_::_,h,_=>simp at h
theorem E01 (b k:Nat) (F:Fr) (X:CX) (ok:FrOk F) {nc:Nat} (c:Clean nc X) (i:Int) (hi:0≤i∧i<8) :
  Ct B0 Bh9 [P0 b,int i] [cmC b k F X] fun v own=>v=.agg ⟨(Ab2 X i).1⟩∧own [cmC b k F (Ab2 X i).2]:=by
 unfold Ab2
 refine Ct.of Hk0 rfl fun h r=>Tr.eq (Hn8 ..) ?_;refine Je ?_
 refine Yn fun bh h=>?_
 refine Yn fun b0 h=>?_
 (refine Ja ?_;unhygienic intros)
 refine Yc (Et5 b k F X ok c i hi) ?_;rintro _ h ⟨rfl,o⟩<;>refine Jh o ?_
 (refine Jc ?_;unhygienic intros)
 refine Yn fun b1 h=>?_
 (refine Jb ?_;unhygienic intros)
 by_cases h1:(J7 X i).2=0
 case neg =>
  rw [if_pos h1]
  refine Yt (by simpa using h1) ?_
  refine Yc (Bf3 (J7 X i).2) ?_;rintro _ h ⟨rfl,o⟩<;>(refine Jf o ?_;unhygienic intros)
  refine Ys fun o=>?_
  exact ⟨rfl,o.sub⟩
 rw [if_neg (by simpa using h1)]
 refine Yf (by simpa using h1) ?_
 have hM:=fun d0 d1 f0 f1 r0=>Gj5 c hi h1 (d0:=d0) (d1:=d1) (f0:=f0) (f1:=f1) (r0:=r0)
 obtain ⟨s1,s2,s3,s4⟩:=A79 c hi h1
 rw [s1]
 unfold Bo1 at hM ⊢
 generalize (vS X i).1=p at hM
 (refine Ja ?_;unhygienic intros)
 refine Yc (H01 p 2) ?_
 rintro _ h ⟨a,ac,rfl,o⟩
 refine Jh o ?_
 have hm:=Aw7 (fun j=>p.fds.getD j.toNat 0==0) 8 0 2
 have hl:=B94 (fun j=>p.fds.getD j.toNat 0==0) 8 0 2
 change ∀ x ∈ Q8 p 2,_ at hm
 change (Q8 p 2).length≤2 at hl
 refine (?_:Tr (slC false B5 1 a (Q8 p 2).length ac ((Q8 p 2).map int)::_) _ _ _)
 generalize Q8 p 2=L at hm hl
 by_cases h2:L.length<2
 ·(refine Ja ?_;unhygienic intros)
  refine Yt (by simp;omega) ?_
  refine Yc (Bf3 124) ?_;rintro _ h ⟨rfl,o⟩<;>(refine Jf o ?_;unhygienic intros)
  refine Ys fun o=>?_
  rw [if_pos h2]
  exact ⟨rfl,o.sub⟩
 rw [if_neg h2]
 obtain ⟨d0,d1,rfl⟩:=Hp4 hl h2
 have hd0:=hm d0 (by simp)
 have hd1:=hm d1 (by simp)
 (refine Ja ?_;unhygienic intros)
 refine Yf (by simp) ?_
 refine B2 (hcC bh b k F X) () ?_;refine Je ?_
 refine Yc (H36 bh b k F X ok c) ?_
 rintro _ h ⟨a2,ac2,rfl,o⟩
 refine Jh o ?_
 have hmF:=Aw7 (fun j=>(vF X j).2==0) 12 0 2
 have hlF:=B94 (fun j=>(vF X j).2==0) 12 0 2
 change ∀ x ∈ A23 X,_ at hmF
 change (A23 X).length≤2 at hlF
 generalize A23 X=Fl at hmF hlF
 (refine Ja ?_;unhygienic intros)
 refine Yc (Hz2 bh b k F X ok c) ?_
 rintro _ h ⟨a3,ac3,rfl,o⟩
 refine Jh o ?_
 have hmR:=Aw7 (fun j=>(vP X j).2==0) 4 0 1
 have hlR:=B94 (fun j=>(vP X j).2==0) 4 0 1
 change ∀ x ∈ Bb2 X,_ at hmR
 change (Bb2 X).length≤1 at hlR
 generalize Bb2 X=Rl at hmR hlR
 refine B4 (hcC bh b k F X) fun u=>?_;refine Je ?_
 by_cases h3:Fl.length<2
 ·rw [if_pos (.inl h3)]
  (refine Jb ?_;unhygienic intros)
  refine Yb (Yt (by simp;omega) ?_)
  refine Ys fun o=>(?_:Tr _ _ _ _) o;refine Je ?_
  refine Yt rfl ?_
  refine Yc (Bf3 123) ?_;rintro _ h ⟨rfl,o⟩<;>(refine Jf o ?_;unhygienic intros)
  refine Ys fun o=>?_
  exact ⟨rfl,o.sub⟩
 obtain ⟨f0,f1,rfl⟩:=Hp4 hlF h3
 by_cases h4:Rl.length=0
 ·rw [if_pos (.inr h4)]
  (refine Jb ?_;unhygienic intros)
  refine Yb (Yf rfl ?_)
  refine Ys fun o=>(?_:Tr _ _ _ _) o;refine Je ?_
  refine Yt (by simpa using h4) ?_
  refine Yc (Bf3 123) ?_;rintro _ h ⟨rfl,o⟩<;>(refine Jf o ?_;unhygienic intros)
  refine Ys fun o=>?_
  exact ⟨rfl,o.sub⟩
 rw [if_neg (fun h=>h.elim h3 h4)]
 obtain ⟨r0,rfl⟩:=If1 hlR h4
 have hf0:=hmF f0 (by simp)
 have hf1:=hmF f1 (by simp)
 have hr0:=hmR r0 (by simp)
 obtain ⟨w1,w2,w3,w4,_⟩:=hM d0 d1 f0 f1 r0 (by omega) (by omega) (by omega) (by omega) (by omega) (by have:=c.pos;omega)
 (refine Jb ?_;unhygienic intros)
 refine Yb (Yf rfl ?_)
 refine Ys fun o=>(?_:Tr _ _ _ _) o;refine Je ?_
 refine Yf rfl ?_
 (refine Ja ?_;unhygienic intros;repeat(refine Gw ?_;rintro px rfl;refine Ja ?_;unhygienic intros))
 refine Yc (Ew4 b k F X ok r0 Bq5) ?_;rintro _ h ⟨rfl,o⟩<;>refine Jh o ?_
 rw [w1]
 dsimp only
 (refine Jb ?_;unhygienic intros)
 refine Yb (Yt rfl ?_)
 (refine Jb ?_;unhygienic intros;repeat(refine Gw ?_;rintro px rfl;refine Jb ?_;unhygienic intros))
 refine Yc (B66 b k F (Be6 X r0 Bq5) ok f0 ⟨1,r0,1,0⟩) ?_;rintro _ h ⟨rfl,o⟩<;>refine Jh o ?_
 rw [w2]
 dsimp only
 (refine Jb ?_;unhygienic intros)
 refine Ys fun o=>(?_:Tr _ _ _ _) o;refine Je ?_
 refine Yb (Yt rfl ?_)
 (refine Jb ?_;unhygienic intros;repeat(refine Gw ?_;rintro px rfl;refine Jb ?_;unhygienic intros))
 refine Yc (B66 b k F (Au1 (Be6 X r0 Bq5) f0 ⟨1,r0,1,0⟩) ok f1 ⟨2,r0,1,0⟩) ?_;rintro _ h ⟨rfl,o⟩<;>refine Jh o ?_
 rw [w3]
 dsimp only
 (refine Jb ?_;unhygienic intros)
 refine Ys fun o=>(?_:Tr _ _ _ _) o;refine Je ?_
 have hs:Dj2 (D4 p) (8+d0.toNat) (int (IntKind.wrap .i64 (f0+1)))=some (D4 (setFd p d0.toNat (f0+1))):=by
  rw [show IntKind.wrap .i64 (f0+1)=f0+1 by rw [A9];omega];exact Eg1 p (by omega) _
 have hs2:Dj2 (D4 (setFd p d0.toNat (f0+1))) (8+d1.toNat) (int (IntKind.wrap .i64 (f1+1)))=some (D4 (setFd (setFd p d0.toNat (f0+1)) d1.toNat (f1+1))):=by
  rw [show IntKind.wrap .i64 (f1+1)=f1+1 by rw [A9];omega];exact Eg1 _ (by omega) _
 have hx:IntKind.wrap .i64 (d0+IntKind.wrap .i64 (16*d1))=d0+16*d1:=by simp only [A9];omega
 simp only [List.getD_cons_zero,List.getD_cons_succ]
 generalize setFd (setFd p d0.toNat (f0+1)) d1.toNat (f1+1)=q at hs2 w4
 (refine Jb ?_;unhygienic intros;repeat(refine Gw ?_;rintro px rfl;refine Jb ?_;unhygienic intros))
 rw [hx]
 refine Yb (Yt rfl ?_)
 (refine Jb ?_;unhygienic intros)
 refine Yc (Dy9 b k F (Au1 (Au1 (Be6 X r0 Bq5) f0 ⟨1,r0,1,0⟩) f1 ⟨2,r0,1,0⟩) ok i q) ?_;rintro _ h ⟨rfl,o⟩<;>refine Jh o ?_
 rw [w4]
 dsimp only
 (refine Jb ?_;unhygienic intros)
 refine Ys fun o=>(?_:Tr _ _ _ _) o;refine Je ?_
 refine Yc (H41 true (d0+16*d1)) ?_;rintro _ h ⟨rfl,o⟩<;>refine Jh o ?_
 rw [if_pos trivial]
 (refine Ja ?_;unhygienic intros)
 refine Ys fun o=>?_
 exact ⟨rfl,o.sub⟩
structure VW where
 S:Int→ProcS × Int
 F:Int→FileS × Int
 P:Int→PipeS × Int
structure See (X:CX) (V:VW):Prop where
 c:Clean 3 X
 s:∀ j:Int,0≤j∧j<8→vS X j=V.S j
 f:∀ j:Int,0≤j∧j<12→vF X j=V.F j
 p:∀ j:Int,0≤j∧j<6→vP X j=V.P j
theorem See.to {X:CX} {V V':VW} (A:See X V) (hs:∀ j:Int,0≤j∧j<8→V.S j=V'.S j) (hf:∀ j:Int,0≤j∧j<12→V.F j=V'.F j) (hp:∀ j:Int,0≤j∧j<6→V.P j=V'.P j):See X V' :=
 ⟨A.c,fun j h=>(A.s j h).trans (hs j h),fun j h=>(A.f j h).trans (hf j h),fun j h=>(A.p j h).trans (hp j h)⟩
def wS (V:VW) (i:Int) (p:ProcS):VW:=⟨fun j=>if j=i then (p,1) else V.S j,V.F,V.P⟩
def wF (V:VW) (i:Int) (x:FileS):VW:=⟨V.S,fun j=>if j=i then (x,1) else V.F j,V.P⟩
def wP (V:VW) (i:Int) (x:PipeS):VW:=⟨V.S,V.F,fun j=>if j=i then (x,1) else V.P j⟩
def oF (V:VW) (i:Int):VW:=⟨V.S,fun j=>if j=i then (.zero,0) else V.F j,V.P⟩
def oP (V:VW) (i:Int):VW:=⟨V.S,V.F,fun j=>if j=i then (.zero,0) else V.P j⟩
section
variable {X:CX} {V:VW} (A:See X V)
include A
theorem See.ws {i:Int} (hi:0≤i∧i<8) {p:ProcS} (ok:okS p=true) (r:InS p):See (Ay7 X i p) (wS V i p):=by
 obtain ⟨_,w2,w3,w4,w5⟩:=Bi1 A.c hi ok r
 exact ⟨w2,fun j h=>by rw [w3 j h,A.s j h];rfl,fun j h=>by rw [w4 j h];exact A.f j h,fun j h=>by rw [w5 j (by omega)];exact A.p j h⟩
theorem See.wf {i:Int} (hi:0≤i∧i<12) {x:FileS} (ok:okF x=true):See (Au1 X i x) (wF V i x):=by
 obtain ⟨_,w2,w3,w4,w5⟩:=Ah6 A.c hi ok
 exact ⟨w2,fun j h=>by rw [w3 j h];exact A.s j h,fun j h=>by rw [w4 j h,A.f j h];rfl,fun j h=>by rw [w5 j (by omega)];exact A.p j h⟩
theorem See.wp {i:Int} (hi:0≤i∧i<6) {x:PipeS} (ok:okP x=true):See (Be6 X i x) (wP V i x):=by
 obtain ⟨_,w2,w3,w4,w5⟩:=B50 A.c (i:=i) (by omega) ok
 exact ⟨w2,fun j h=>by rw [w3 j h];exact A.s j h,fun j h=>by rw [w4 j h];exact A.f j h,fun j h=>by rw [w5 j (by omega),A.p j h];rfl⟩
theorem See.of {i:Int} (hi:0≤i∧i<12):See (Dw1 X i) (oF V i):=by
 obtain ⟨_,w2,w3,w4,w5⟩:=D17 A.c hi
 exact ⟨w2,fun j h=>by rw [w3 j h];exact A.s j h,fun j h=>by rw [w4 j h,A.f j h];rfl,fun j h=>by rw [w5 j (by omega)];exact A.p j h⟩
theorem See.op {i:Int} (hi:0≤i∧i<6):See (E45 X i) (oP V i):=by
 obtain ⟨_,w2,w3,w4,w5⟩:=D22 A.c (i:=i) (by omega)
 exact ⟨w2,fun j h=>by rw [w3 j h];exact A.s j h,fun j h=>by rw [w4 j h];exact A.f j h,fun j h=>by rw [w5 j (by omega),A.p j h];rfl⟩
end
def Ag3 (V:VW) (i:Int):ProcS × Int:=if (V.S i).2=1∧(V.S i).1.state=1 then ((V.S i).1,0) else (.zero,105)
theorem See.self {X:CX} {V:VW} (A:See X V) {i:Int} (hi:0≤i∧i<8):J7 X i=Ag3 V i:=by unfold J7 Ag3;rw [A.s i hi]
def clP (V:VW) (i:Int) (q:PipeS):VW:=if q.readers+q.writers=0∧i<4 then oP V i else wP V i q
def En8 (V:VW) (f:Int):Int × VW :=
 if (V.F f).2≠1 then (105,V)
 else if (V.F f).1.refs-1>0 then (0,wF V f (Br7 (V.F f).1 (-1)))
 else if (V.F f).1.kind=3 then (0,oF V f)
 else if ¬ ((V.F f).1.pipe<6∧(V.P (V.F f).1.pipe).2=1) then (105,oF V f)
 else (0,clP (oF V f) (V.F f).1.pipe (Em3 (V.F f).1.kind (V.P (V.F f).1.pipe).1))
theorem See.close {X:CX} {V:VW} (A:See X V) {f:Int} (hf:0≤f∧f<12):(Bv5 3 X f).1=(En8 V f).1∧See (Bv5 3 X f).2 (En8 V f).2:=by
 have e:=A.f f hf
 have hk:(V.F f).2=1→okF (V.F f).1=true:=fun h=>by
  rcases Gr9 A.c hf with ⟨h2,_⟩|⟨_,h2⟩
  ·rw [e,h] at h2;cases h2
  ·rw [e] at h2;exact h2
 unfold Bv5 En8
 rw [e]
 by_cases h1:(V.F f).2=1
 case neg=>rw [if_pos h1,if_pos h1];exact ⟨rfl,A⟩
 have n1:¬ (V.F f).2≠1:=by simpa using h1
 rw [if_neg n1,if_neg n1]
 replace hk:=hk h1
 have hr:=Es9 hk
 have hp:=Gv4 hk
 by_cases h2:(V.F f).1.refs-1>0
 ·rw [if_pos h2,if_pos h2]
  exact ⟨rfl,A.wf hf (E48 hk (n:=-1) (by omega))⟩
 rw [if_neg h2,if_neg h2]
 by_cases h3:(V.F f).1.kind=3
 ·rw [if_pos h3,if_pos h3];exact ⟨rfl,A.of hf⟩
 rw [if_neg h3,if_neg h3]
 by_cases h4:(V.F f).1.pipe<6
 case neg =>
  have n4:¬ ((V.F f).1.pipe<3+((3:Nat):Int)∧(vP X (V.F f).1.pipe).2=1):=fun h=>h4 (by have:=h.1;omega)
  have n5:¬ ((V.F f).1.pipe<6∧(V.P (V.F f).1.pipe).2=1):=fun h=>h4 h.1
  rw [if_pos n4,if_pos n5];exact ⟨rfl,A.of hf⟩
 have ep:=A.p (V.F f).1.pipe ⟨hp,h4⟩
 rw [ep]
 by_cases h5:(V.P (V.F f).1.pipe).2=1
 case neg =>
  have n4:¬ ((V.F f).1.pipe<3+((3:Nat):Int)∧(V.P (V.F f).1.pipe).2=1):=fun h=>h5 h.2
  have n5:¬ ((V.F f).1.pipe<6∧(V.P (V.F f).1.pipe).2=1):=fun h=>h5 h.2
  rw [if_pos n4,if_pos n5];exact ⟨rfl,A.of hf⟩
 have n4:¬ ¬ ((V.F f).1.pipe<3+((3:Nat):Int)∧(V.P (V.F f).1.pipe).2=1):=fun h=>h ⟨by omega,h5⟩
 have n5:¬ ¬ ((V.F f).1.pipe<6∧(V.P (V.F f).1.pipe).2=1):=fun h=>h ⟨h4,h5⟩
 rw [if_neg n4,if_neg n5]
 have hq:okP (V.P (V.F f).1.pipe).1=true:=by
  rcases H50 A.c (i:=(V.F f).1.pipe) (by omega) with ⟨h6,_⟩|⟨_,h6⟩
  ·rw [ep,h5] at h6;cases h6
  ·rw [ep] at h6;exact h6
 refine ⟨rfl,?_⟩
 unfold Gd6 clP
 split
 ·exact (A.of hf).op ⟨hp,h4⟩
 ·exact (A.of hf).wp ⟨hp,h4⟩ (Hd6 hq _)
def ofW (V:VW) (i fd:Int):(Int × FileS) × Int :=
 if (Ag3 V i).2≠0 then ((0,.zero),(Ag3 V i).2)
 else if Aa8 (V.S i).1 fd=false then ((0,.zero),109)
 else if (V.F ((V.S i).1.fds.getD fd.toNat 0-1)).2≠1 then ((0,.zero),105)
 else (((V.S i).1.fds.getD fd.toNat 0-1,(V.F ((V.S i).1.fds.getD fd.toNat 0-1)).1),0)
theorem See.ofv {X:CX} {V:VW} (A:See X V) {i:Int} (hi:0≤i∧i<8) (fd:Int):ofV X i fd=ofW V i fd:=by
 have es:=A.self hi
 have hr:=fun h=>E98 A.c (i:=i) hi h fd.toNat
 unfold ofV ofW
 rw [es] at hr ⊢
 rw [A.s i hi] at hr ⊢
 by_cases h1:(Ag3 V i).2≠0
 ·rw [if_pos h1,if_pos h1]
 rw [if_neg h1,if_neg h1]
 by_cases h2:Aa8 (V.S i).1 fd=false
 ·rw [if_pos h2,if_pos h2]
 have hn:=Eg6 (show Aa8 (V.S i).1 fd=true by simpa using h2)
 have hr:=hr (by simpa using h1)
 rw [if_neg h2,if_neg h2,A.f _ (by omega)]
def Ho1 (V:VW) (i fd f:Int):List Value × VW :=
 if (Ag3 V i).2≠0 then (O6 0 (Ag3 V i).2 false,V) else (O6 fd 0 false,wS V i (setFd (V.S i).1 fd.toNat (f+1)))
theorem See.setFd {X:CX} {V:VW} (A:See X V) {i:Int} (hi:0≤i∧i<8) (h:(Ag3 V i).2=0) (j:Nat) {f:Int} (hf:0≤f∧f≤12):See (Ay7 X i (EQ.setFd (vS X i).1 j f)) (wS V i (EQ.setFd (V.S i).1 j f)):=by
 have es:=A.self hi
 obtain ⟨s1,s2,s3,s4⟩:=A79 A.c hi (by rw [es];exact h)
 have hin:=D25 (rd X ⟨1,i⟩)
 have:=A.ws hi (D38 s3 s2 j hf) ⟨hin.a,hin.b,hin.c,hin.d⟩
 have e:EQ.setFd (V.S i).1 j f=EQ.setFd (vS X i).1 j f:=by rw [A.s i hi]
 rw [e];exact this
theorem See.name {X:CX} {V:VW} (A:See X V) {i:Int} (hi:0≤i∧i<8) (fd:Int) {f:Int} (hf:0≤f∧f<12):(Hi5 X i fd f).1=(Ho1 V i fd f).1∧See (Hi5 X i fd f).2 (Ho1 V i fd f).2:=by
 have es:=A.self hi
 unfold Hi5 Ho1
 rw [es]
 by_cases h1:(Ag3 V i).2=0
 case neg=>rw [if_pos h1,if_pos h1];exact ⟨rfl,A⟩
 have n1:¬ (Ag3 V i).2≠0:=by simpa using h1
 rw [if_neg n1,if_neg n1]
 exact ⟨rfl,A.setFd hi h1 fd.toNat (by omega)⟩
def Az4 (V:VW) (i fd:Int):List Value × VW :=
 if (Ag3 V i).2≠0 then (O6 0 (Ag3 V i).2 false,V)
 else if Aa8 (V.S i).1 fd=false then (O6 0 109 false,V)
 else (O6 0 (En8 (wS V i (setFd (V.S i).1 fd.toNat 0)) ((V.S i).1.fds.getD fd.toNat 0-1)).1 false,(En8 (wS V i (setFd (V.S i).1 fd.toNat 0)) ((V.S i).1.fds.getD fd.toNat 0-1)).2)
theorem See.closeFd {X:CX} {V:VW} (A:See X V) {i:Int} (hi:0≤i∧i<8) (fd:Int):(Ad7 3 X i fd).1=(Az4 V i fd).1∧See (Ad7 3 X i fd).2 (Az4 V i fd).2:=by
 have es:=A.self hi
 unfold Ad7 Az4
 have hr0:=fun h=>E98 A.c (i:=i) hi h fd.toNat
 rw [es] at hr0 ⊢
 by_cases h1:(Ag3 V i).2=0
 case neg=>rw [if_pos h1,if_pos h1];exact ⟨rfl,A⟩
 have n1:¬ (Ag3 V i).2≠0:=by simpa using h1
 have hr:=hr0 h1
 have B:=A.setFd hi h1 fd.toNat (f:=0) (by omega)
 rw [if_neg n1,if_neg n1]
 rw [A.s i hi] at hr B ⊢
 by_cases h2:Aa8 (V.S i).1 fd=false
 ·rw [if_pos h2,if_pos h2];exact ⟨rfl,A⟩
 have hn:=Eg6 (show Aa8 (V.S i).1 fd=true by simpa using h2)
 rw [if_neg h2,if_neg h2]
 have C:=B.close (f:=(V.S i).1.fds.getD fd.toNat 0-1) (by omega)
 exact ⟨by rw [C.1],C.2⟩
theorem B68 {q q':Int→Bool}:∀ (m:Nat) (i:Int) (w:Nat),(∀ j:Int,i≤j→j<i+m→q j=q' j)→M7 q m i w=M7 q' m i w
 | 0,_,_,_=>rfl
 | _+1,_,0,_=>rfl
 | m+1,i,w+1,h=>by
  rw [M7,M7,h i (by omega) (by omega),B68 m (i+1) w fun j h1 h2=>h j (by omega) (by omega),B68 m (i+1) (w+1) fun j h1 h2=>h j (by omega) (by omega)]
abbrev D69 (V:VW):List Int:=M7 (fun j=>(V.F j).2==0) 12 0 2
abbrev Gj0 (V:VW):List Int:=M7 (fun j=>(V.P j).2==0) 4 0 1
def mkW (V:VW) (i d0 d1 f0 f1 r0:Int):VW:=wS (wF (wF (wP V r0 Bq5) f0 ⟨1,r0,1,0⟩) f1 ⟨2,r0,1,0⟩) i (setFd (setFd (V.S i).1 d0.toNat (f0+1)) d1.toNat (f1+1))
def Dt4 (V:VW) (i:Int):List Value × VW :=
 if (Ag3 V i).2≠0 then (O6 0 (Ag3 V i).2 false,V)
 else if (Q8 (V.S i).1 2).length<2 then (O6 0 124 false,V)
 else if (D69 V).length<2∨(Gj0 V).length=0 then (O6 0 123 false,V)
 else (O6 ((Q8 (V.S i).1 2).getD 0 0+16*(Q8 (V.S i).1 2).getD 1 0) 0 false,mkW V i ((Q8 (V.S i).1 2).getD 0 0) ((Q8 (V.S i).1 2).getD 1 0) ((D69 V).getD 0 0) ((D69 V).getD 1 0) ((Gj0 V).getD 0 0))
theorem Do4 {l:List Int} {j:Nat} (h:j<l.length):l.getD j 0 ∈ l:=by
 rw [List.getD_eq_getElem?_getD,List.getElem?_eq_getElem h];exact List.getElem_mem _
theorem See.pipe {X:CX} {V:VW} (A:See X V) {i:Int} (hi:0≤i∧i<8):(Ab2 X i).1=(Dt4 V i).1∧See (Ab2 X i).2 (Dt4 V i).2:=by
 have es:=A.self hi
 have e1:A23 X=D69 V:=B68 12 0 2 fun j h1 h2=>by rw [A.f j (by omega)]
 have e2:Bb2 X=Gj0 V:=B68 4 0 1 fun j h1 h2=>by rw [A.p j (by omega)]
 unfold Ab2 Dt4
 rw [e1,e2,es]
 by_cases h1:(Ag3 V i).2=0
 case neg=>rw [if_pos h1,if_pos h1];exact ⟨rfl,A⟩
 have n1:¬ (Ag3 V i).2≠0:=by simpa using h1
 rw [if_neg n1,if_neg n1,A.s i hi]
 by_cases h2:(Q8 (V.S i).1 2).length<2
 ·rw [if_pos h2,if_pos h2];exact ⟨rfl,A⟩
 rw [if_neg h2,if_neg h2]
 by_cases h3:(D69 V).length<2∨(Gj0 V).length=0
 ·rw [if_pos h3,if_pos h3];exact ⟨rfl,A⟩
 rw [if_neg h3,if_neg h3]
 have hm:=Aw7 (fun j=>(V.S i).1.fds.getD j.toNat 0==0) 8 0 2
 have hd0:=hm _ (Do4 (l:=Q8 (V.S i).1 2) (j:=0) (by omega))
 have hd1:=hm _ (Do4 (l:=Q8 (V.S i).1 2) (j:=1) (by omega))
 have hf0:=Aw7 (fun j=>(V.F j).2==0) 12 0 2 _ (Do4 (l:=D69 V) (j:=0) (by omega))
 have hf1:=Aw7 (fun j=>(V.F j).2==0) 12 0 2 _ (Do4 (l:=D69 V) (j:=1) (by omega))
 have hr:=Aw7 (fun j=>(V.P j).2==0) 4 0 1 _ (Do4 (l:=Gj0 V) (j:=0) (by omega))
 generalize (Q8 (V.S i).1 2).getD 0 0=d0 at hd0 ⊢
 generalize (Q8 (V.S i).1 2).getD 1 0=d1 at hd1 ⊢
 generalize (D69 V).getD 0 0=f0 at hf0 ⊢
 generalize (D69 V).getD 1 0=f1 at hf1 ⊢
 generalize (Gj0 V).getD 0 0=r0 at hr ⊢
 obtain ⟨_,_,_,_,m1,m2,m3,m4⟩:=Gj5 A.c hi (by rw [es];exact h1) (d0:=d0) (d1:=d1) (f0:=f0) (f1:=f1) (r0:=r0) (by omega) (by omega) (by omega) (by omega) (by omega) (by omega)
 refine ⟨rfl,m1,fun j hj=>?_,fun j hj=>?_,fun j hj=>?_⟩
 ·rw [m2 j hj,A.s i hi,A.s j hj];rfl
 ·rw [m3 j hj,A.f j hj];rfl
 ·rw [m4 j (by omega),A.p j hj];rfl
def Ds7 (V:VW):Nat→Int→Int
 | 0,_=>-1
 | m+1,i=>if (V.S i).2=0 then i else Ds7 V m (i+1)
theorem See.free {X:CX} {V:VW} (A:See X V):∀ (m:Nat) (i:Int),0≤i→i+m=8→Ai8 X m i=Ds7 V m i
 | 0,_,_,_=>rfl
 | m+1,i,h0,hi=>by rw [Ai8,Ds7,A.s i (by omega),A.free m (i+1) (by omega) (by omega)]
def B98 (V:VW) (more:List Int):List Int→Int
 | []=>0
 | f::l=>if f=0 then B98 V more l else if (V.F (f-1)).2≠1 then 105 else if (V.F (f-1)).1.refs+more.getD (f-1).toNat 0>64 then 123 else B98 V more l
theorem See.share {X:CX} {V:VW} (A:See X V) (more:List Int):∀ l:List Int,By9 l→Ab4 X more l=B98 V more l
 | [],_=>rfl
 | f::l,h=>by
  have hf:=h f (by simp)
  rw [Ab4,B98,A.share more l fun x hx=>h x (by simp [hx])]
  by_cases h0:f=0
  ·rw [if_pos h0,if_pos h0]
  ·rw [if_neg h0,if_neg h0,A.f (f-1) (by omega)]
def Ib3 (V:VW) (more:List Int):VW:=⟨V.S,fun j=>if more.getD j.toNat 0≠0 then (Br7 (V.F j).1 (more.getD j.toNat 0),1) else V.F j,V.P⟩
def E82 (V:VW) (i:Int):List Value × VW :=
 if (Ag3 V i).2≠0 then (O6 0 (Ag3 V i).2 false,V)
 else if Ds7 V 8 0<0 then (O6 0 111 false,V)
 else if B98 V (Ak1 (V.S i).1) (V.S i).1.fds≠0 then (O6 0 (B98 V (Ak1 (V.S i).1) (V.S i).1.fds) false,V)
 else (O6 (Ds7 V 8 0) 0 false,wS (Ib3 V (Ak1 (V.S i).1)) (Ds7 V 8 0) (Bi2 (V.S i).1 i))
theorem See.fork {X:CX} {V:VW} (A:See X V) {i:Int} (hi:0≤i∧i<8):(Dh8 X i).1=(E82 V i).1∧See (Dh8 X i).2 (E82 V i).2:=by
 have es:=A.self hi
 have ef:=A.free 8 0 (by omega) (by omega)
 unfold Dh8 E82
 rw [ef]
 by_cases h1:(Ag3 V i).2=0
 case neg=>rw [es,if_pos h1,if_pos h1];exact ⟨rfl,A⟩
 have n1:¬ (Ag3 V i).2≠0:=by simpa using h1
 have n2:¬ (J7 X i).2≠0:=by rw [es];exact n1
 rw [if_neg n2,if_neg n1]
 by_cases h2:Ds7 V 8 0<0
 ·rw [if_pos h2,if_pos h2];exact ⟨rfl,A⟩
 rw [if_neg h2,if_neg h2]
 obtain ⟨s1,s2,s3,s4⟩:=A79 A.c hi (by rw [es];exact h1)
 rw [s1]
 have hfd:=Et2 s3
 have hin:=D25 (rd X ⟨1,i⟩)
 have esh:=A.share (Ak1 (vS X i).1) _ hfd
 have hcl:=El1 A.c hfd
 have hno:=fun h=>Gl4 (X:=X) (p:=(vS X i).1) h
 have hm8:Ds7 V 8 0<8:=by
  rcases Ek9 (X:=X) 8 0 (by omega) (by omega) with h|h<;>omega
 have e1:(S5 X (vS X i).1).1=Ab4 X (Ak1 (vS X i).1) (vS X i).1.fds:=by
  unfold S5;split
  ·rename_i h;exact h.symm
  ·rfl
 rw [esh] at e1
 have hck:=G12 s3 s2 hi
 have hin2:InS (Bi2 (vS X i).1 i):=⟨by simp,hin.b,hin.c,hin.d⟩
 simp only
 rw [e1] at hcl hno ⊢
 rw [A.s i hi] at *
 by_cases h3:B98 V (Ak1 (V.S i).1) (V.S i).1.fds=0
 case neg=>rw [if_pos h3,if_pos h3];exact ⟨rfl,A⟩
 have n3:¬ B98 V (Ak1 (V.S i).1) (V.S i).1.fds≠0:=by simpa using h3
 rw [if_neg n3,if_neg n3]
 obtain ⟨a1,a2,a3,a4⟩:=hcl h3
 refine ⟨rfl,?_⟩
 have B:See (S5 X (V.S i).1).2 (Ib3 V (Ak1 (V.S i).1)):=⟨a1,fun j hj=>by rw [a2 j hj];exact A.s j hj,fun j hj=>by rw [a3 j hj,A.f j hj];rfl,fun j hj=>by rw [a4 j (by omega)];exact A.p j hj⟩
 exact B.ws (by omega) hck hin2
def V1:VW:=⟨fun j=>if j=0 then (p0,1) else (.zero,0),fun j=>if j=0 then (f0,1) else (.zero,0),fun j=>if j<4 then (.zero,0) else vP X1 j⟩
theorem H28:See X1 V1:=by
 refine ⟨G28,fun j hj=>?_,fun j hj=>?_,fun j hj=>?_⟩
 ·have:j=0∨j=1∨j=2∨j=3∨j=4∨j=5∨j=6∨j=7:=by omega
  rcases this with rfl|rfl|rfl|rfl|rfl|rfl|rfl|rfl<;>(clear hj;show (_:ProcS × Int)=_;kernel_rfl)
 ·have:j=0∨j=1∨j=2∨j=3∨j=4∨j=5∨j=6∨j=7∨j=8∨j=9∨j=10∨j=11:=by omega
  rcases this with rfl|rfl|rfl|rfl|rfl|rfl|rfl|rfl|rfl|rfl|rfl|rfl<;>(clear hj;show (_:FileS × Int)=_;kernel_rfl)
 ·by_cases h4:j<4
  ·have:j=0∨j=1∨j=2∨j=3:=by omega
   rcases this with rfl|rfl|rfl|rfl<;>(clear hj h4;show (_:PipeS × Int)=_;kernel_rfl)
  ·show _=if j<4 then _ else vP X1 j
   rw [if_neg h4]
abbrev If6 (ow:List Int) (h:ow.length=8):ProcS:=⟨1,0,0,0,0,0,0,0,ow,h⟩
def kd (j:Int):Int:=if j=0 then 3 else j
def Ii3 (j n:Int):FileS × Int:=if n>0 then (⟨kd j,0,n,0⟩,1) else (.zero,0)
def pO (a b:Int):PipeS:=⟨0,0,min a 1,min b 1,[0,0,0,0,0,0,0,0,0,0,0,0,0,0,0,0,0,0,0,0,0,0,0,0,0,0,0,0,0,0,0,0],rfl⟩
def Ii2 (a b:Int):PipeS × Int:=if a>0∨b>0 then (pO a b,1) else (.zero,0)
def Ih3 (ow:List Int) (h:ow.length=8) (r:Int→Int):VW :=
 ⟨fun j=>if j=0 then (If6 ow h,1) else (.zero,0),fun j=>if 0≤j∧j<3 then Ii3 j (r (j+1)) else (.zero,0),fun j=>if j=0 then Ii2 (r 2) (r 3) else if j<4 then (.zero,0) else vP X1 j⟩
abbrev rr (r:Int→Int) (v d:Int):Int→Int:=fun k=>if k=v then r k+d else r k
theorem VW.ext' {V V':VW} (h1:∀ j,V.S j=V'.S j) (h2:∀ j,V.F j=V'.F j) (h3:∀ j,V.P j=V'.P j):V=V':=by
 obtain ⟨a,b,c⟩:=V
 obtain ⟨a',b',c'⟩:=V'
 have e1:a=a':=funext h1
 have e2:b=b':=funext h2
 have e3:c=c':=funext h3
 rw [e1,e2,e3]
section
variable {ow:List Int} {h:ow.length=8} {r:Int→Int}
end
def cnt (v:Int):List Int→Int
 | []=>0
 | x::l=>(if x=v then 1 else 0)+cnt v l
theorem Gi0 (v:Int):∀ l:List Int,0≤cnt v l∧cnt v l≤l.length
 | []=>by simp [cnt]
 | x::l=>by
  have:=Gi0 v l
  unfold cnt;rw [List.length_cons];split<;>omega
theorem Hf4 (v:Int):∀ (l:List Int) (j:Nat),j<l.length→l.getD j 0=v→1≤cnt v l
 | [],j,h,_=>by simp at h
 | x::l,0,_,e=>by
  have:=Gi0 v l
  rw [List.getD_cons_zero] at e
  unfold cnt;rw [if_pos e];omega
 | x::l,j+1,h,e=>by
  rw [List.getD_cons_succ] at e
  have:=Hf4 v l j (by simpa using h) e
  unfold cnt;split<;>omega
theorem He9 (v w:Int):∀ (l:List Int) (j:Nat),j<l.length→cnt v (l.set j w)=cnt v l-(if l.getD j 0=v then 1 else 0)+(if w=v then 1 else 0)
 | [],j,h=>by simp at h
 | x::l,0,_=>by
  rw [List.set_cons_zero,List.getD_cons_zero,cnt,cnt];omega
 | x::l,j+1,h=>by
  have:=He9 v w l j (by simpa using h)
  rw [List.set_cons_succ,List.getD_cons_succ,cnt,cnt,this];omega
theorem Gn4 (l:List Int) (j n:Nat) (w:Int) (h:j<l.length):(l.set j w).getD n 0=if n=j then w else l.getD n 0:=by
 rw [List.getD_eq_getElem?_getD,List.getD_eq_getElem?_getD,List.getElem?_set]
 by_cases hj:j=n
 ·subst hj;simp [h]
 ·rw [if_neg hj,if_neg (fun e=>hj e.symm)]
structure Own8 (ow:List Int) (r:Int→Int):Prop where
 len:ow.length=8
 rng:∀ j:Nat,0≤ow.getD j 0∧ow.getD j 0≤3
 ct:∀ v:Int,1≤v→v≤3→r v=cnt v ow
theorem Own8.pos {ow:List Int} {r:Int→Int} (I:Own8 ow r) {j:Nat} (hj:j<8) (h:ow.getD j 0>0):1≤r (ow.getD j 0):=by
 rw [I.ct _ (by omega) (I.rng j).2];exact Hf4 _ _ j (by rw [I.len];exact hj) rfl
theorem Own8.nn {ow:List Int} {r:Int→Int} (I:Own8 ow r) {v:Int} (h:1≤v∧v≤3):0≤r v∧r v≤8:=by
 rw [I.ct v h.1 h.2];have:=Gi0 v ow;have:=I.len;omega
theorem Own8.set {ow:List Int} {r:Int→Int} (I:Own8 ow r) {j:Nat} (hj:j<8) {w:Int} (hw:0≤w∧w≤3) {r':Int→Int} (hr:∀ v:Int,1≤v→v≤3→r' v=r v-(if ow.getD j 0=v then 1 else 0)+(if w=v then 1 else 0)):Own8 (ow.set j w) r':=by
 refine ⟨by rw [List.length_set];exact I.len,fun n=>?_,fun v h1 h2=>?_⟩
 ·rw [Gn4 _ _ _ _ (by rw [I.len];exact hj)]
  split
  ·exact hw
  ·exact I.rng n
 ·rw [hr v h1 h2,He9 _ _ _ _ (by rw [I.len];exact hj),I.ct v h1 h2]
section
variable {ow:List Int} {h:ow.length=8} {r:Int→Int} (I:Own8 ow r)
include I
def r2 (r:Int→Int) (w v:Int):Int→Int:=rr (if w>0 then rr r w (-1) else r) v 1
end
def ow0:List Int:=[1,2,3,0,0,0,0,0]
def VD:VW:=Ih3 ow0 rfl (fun _=>1)
theorem Ig0:(Dt4 V1 0).1=O6 33 0 false:=by kernel_rfl
theorem Ih5:See (Ab2 X1 0).2 VD:=by
 refine (H28.pipe (i:=0) (by omega)).2.to (fun j hj=>?_) (fun j hj=>?_) fun j hj=>?_
 ·have:j=0∨j=1∨j=2∨j=3∨j=4∨j=5∨j=6∨j=7:=by omega
  rcases this with rfl|rfl|rfl|rfl|rfl|rfl|rfl|rfl<;>(clear hj;show (_:ProcS × Int)=_;kernel_rfl)
 ·have:j=0∨j=1∨j=2∨j=3∨j=4∨j=5∨j=6∨j=7∨j=8∨j=9∨j=10∨j=11:=by omega
  rcases this with rfl|rfl|rfl|rfl|rfl|rfl|rfl|rfl|rfl|rfl|rfl|rfl<;>(clear hj;show (_:FileS × Int)=_;kernel_rfl)
 ·have:j=0∨j=1∨j=2∨j=3∨j=4∨j=5:=by omega
  rcases this with rfl|rfl|rfl|rfl|rfl|rfl<;>(clear hj;show (_:PipeS × Int)=_;kernel_rfl)
theorem Ie7:(Ab2 X1 0).1=O6 33 0 false:=(H28.pipe (i:=0) (by omega)).1.trans Ig0
def XD:CX:=(Ab2 X1 0).2
theorem H08:See XD VD:=Ih5
theorem H63 {α:Type} (k:Bool→Option α):Bj6 PR E1 [int 1,int 0,int 1,int 0] [int 1,int 0,int 1,int 0] k=k true:=by kernel_rfl
theorem E78:Ct B0 A90 [] [] fun v own=>v=.bool true∧own []:=by
 have q1:(Ad7 3 XD 0 5).1=O6 0 109 false:=(H08.closeFd (i:=0) (by omega) 5).1.trans (by kernel_rfl)
 have s1:=(H08.closeFd (i:=0) (by omega) 5).2
 have q2:ofV (Ad7 3 XD 0 5).2 0 1=((1,⟨1,0,1,0⟩),0):=(s1.ofv (i:=0) (by omega) 1).trans (by kernel_rfl)
 generalize hY:(Ad7 3 XD 0 5).2=Y at q2 s1
 refine Ct.of Go9 rfl fun h r=>Tr.eq (Gp7 ..) ?_;refine Je ?_
 refine Yc (G47) ?_;rintro _ h ⟨a,rfl,o⟩<;>refine Jh o ?_
 (refine Ja ?_;unhygienic intros)
 refine Yc (He1 a) ?_
 rintro _ h ⟨k,c,w,m,K',rfl,o⟩
 refine Jh o ?_
 (refine Ja ?_;unhygienic intros)
 refine Yc (E01 c k F1 X1 Dg8 G28 0 (by omega)) ?_;rintro _ h ⟨rfl,o⟩<;>refine Jh o ?_
 rw [Ie7,show (Ab2 X1 0).2=XD from rfl]
 (refine Jc ?_;unhygienic intros)
 refine Yn fun b1 h=>?_
 (refine Ja ?_;unhygienic intros)
 refine Yc (Em5 c k F1 XD Dg8 H08.c 0 5 (by omega)) ?_;rintro _ h ⟨rfl,o⟩<;>refine Jh o ?_
 rw [q1,hY]
 (refine Jc ?_;unhygienic intros)
 refine Yn fun b2 h=>?_
 (refine Ja ?_;unhygienic intros)
 refine Yc (Ig8 c k F1 Y Dg8 s1.c 0 1 (by omega)) ?_;rintro _ h ⟨rfl,o⟩<;>refine Jh o ?_
 rw [q2]
 dsimp only
 (refine Jc ?_;unhygienic intros)
 refine Yn fun b3 h=>?_
 (refine Jb ?_;unhygienic intros)
 refine Yb (Yt rfl ?_)
 (refine Jb ?_;unhygienic intros)
 refine Ys fun o=>(?_:Tr _ _ _ _) o;refine Je ?_
 refine Yb (Yt rfl ?_)
 (refine Jb ?_;unhygienic intros)
 refine Ys fun o=>(?_:Tr _ _ _ _) o;refine Je ?_
 refine Yb (Yt rfl ?_)
 refine Ys fun o=>(?_:Tr _ _ _ _) o;refine Je ?_
 refine Yb (Yt rfl ?_)
 (refine Jb ?_;unhygienic intros)
 refine (?_:Tr _ _ (Bj6 PR E1 [int 1,int 0,int 1,int 0] [int 1,int 0,int 1,int 0] _) _)
 rw [H63]
 refine Ys fun o=>(?_:Tr _ _ _ _) o;refine Je ?_
 refine Yb (Yt rfl ?_)
 refine Ys fun o=>(?_:Tr _ _ _ _) o;refine Je ?_
 refine Ys fun o=>?_
 exact ⟨rfl,o.sub⟩
def Hg4:List Value→Int
 | [_,.int _ e,_,_]=>e
 | _=>-1
def H46:List Value→Int
 | [.int _ n,_,_,_]=>n
 | _=>-1
theorem Ey5 (X:CX) (i:Int):∃ n e:Int,(Ab2 X i).1=O6 n e false∧(e≠0→(Ab2 X i).2=X):=by
 unfold Ab2
 by_cases h1:(J7 X i).2≠0
 ·rw [if_pos h1];exact ⟨_,_,rfl,fun _=>rfl⟩
 rw [if_neg h1]
 by_cases h2:(Q8 (vS X i).1 2).length<2
 ·rw [if_pos h2];exact ⟨_,_,rfl,fun _=>rfl⟩
 rw [if_neg h2]
 by_cases h3:(A23 X).length<2∨(Bb2 X).length=0
 ·rw [if_pos h3];exact ⟨_,_,rfl,fun _=>rfl⟩
 rw [if_neg h3]
 exact ⟨_,_,rfl,fun h=>absurd rfl h⟩
theorem Ei6 (nc:Nat) (X:CX) (i fd:Int):∃ e:Int,(Ad7 nc X i fd).1=O6 0 e false:=by
 unfold Ad7
 repeat' split
 all_goals exact ⟨_,rfl⟩
abbrev Bz0 (own:List Int) (made who:Int):Int:=if own.getD who.toNat 0≥3 then 124 else if made≥4 then 123 else 0
def Do6 (forks:Int):Nat→Int→Int→List Int→VW→Bool
 | 0,_,made,_,V =>
  if forks=0 then made==3
  else made==4 && (Hg4 (Az4 V 0 1).1==0 && (Hg4 (Az4 (Az4 V 0 1).2 0 2).1==0 && (Hg4 (Dt4 (Az4 (Az4 V 0 1).2 0 2).2 0).1==0 && H46 (Dt4 (Az4 (Az4 V 0 1).2 0 2).2 0).1==33)))
 | m+1,i,made,own,V =>
  (Hg4 (Dt4 V (i%(forks+1))).1==Bz0 own made (i%(forks+1))) &&
  (if Bz0 own made (i%(forks+1))=0 then Do6 forks m (i+1) (made+1) (own.set (i%(forks+1)).toNat (own.getD (i%(forks+1)).toNat 0+1)) (Dt4 V (i%(forks+1))).2
     else Do6 forks m (i+1) made own V)
def D14 (k c bO:Nat) (forks i made:Int) (own:List Int) (X:CX):Prop :=
 CtJ G6 B9 Ac8 [(0,int forks),(3,P0 k),(4,P0 c),(8,int made),(9,P0 bO),(10,int i)] [cmC c k F1 X,pt bO (.cells Dj1 false (own.map int))] fun v o=>v=.bool true∧o []
theorem Hw8 (k c bO b1:Nat) (forks made:Int) (i:Int) (hi:0≤i∧i<8) (hm:0≤made∧made≤8) (own:List Int) (h4:own.length=4) (X X':CX) (a a2:Option Addr) (ac ac2:Nat) (who:Int) (hw:0≤who∧who<4) (ho:0≤own.getD who.toNat 0∧own.getD who.toNat 0≤3) (n want:Int) (hX:want≠0→X'=X)
  (ih:if want=0 then D14 k c bO forks (i+1) (made+1) (own.set who.toNat (own.getD who.toNat 0+1)) X' else D14 k c bO forks (i+1) made own X') :
  CtJ G6 B9 Ad8 [(0,int forks),(3,P0 k),(4,P0 c),(8,int made),(9,P0 bO),(10,int i),(11,.slice a 492 ac),(13,int who),(14,P0 b1),(15,.slice a2 492 ac2),(17,int want)]
   [pt b1 (.cells V0 false (O6 n want false)),slC false A6 1 a 492 ac (A0 (X.m.getD 0 [])),slC false A6 1 a2 492 ac2 (A0 (X'.m.getD 0 [])),cmC c k F1 X',pt bO (.cells Dj1 false (own.map int))] fun v o=>v=.bool true∧o []:=by
 have e1:IntKind.wrap .i64 (i+1)=i+1:=by rw [A9];omega
 have e2:IntKind.wrap .i64 (made+1)=made+1:=by rw [A9];omega
 have e3:IntKind.wrap .i64 (own.getD who.toNat 0+1)=own.getD who.toNat 0+1:=by rw [A9];omega
 have hg:(own.map int)[who.toNat]?=some (int (own.getD who.toNat 0)):=Ep4 (by rw [h4];omega)
 have hs:Dj2 (own.map int) who.toNat (int (IntKind.wrap .i64 (own.getD who.toNat 0+1)))=some ((own.set who.toNat (own.getD who.toNat 0+1)).map int):=by rw [e3];exact Gw3 (by rw [h4];omega) _
 refine CtJ.of Ae7 fun h r=>Tr.eq (D89 ..) ?_;refine Je ?_
 rw [e1,e2]
 (refine Jb ?_;unhygienic intros)
 refine Yb (Yf (by simp) ?_)
 by_cases h0:want=0
 ·rw [if_pos h0] at ih
  refine Yb (Yf (by simpa using h0) ?_)
  refine Ys fun o=>(?_:Tr _ _ _ _) o;refine Je ?_
  refine Ys fun o=>(?_:Tr _ _ _ _) o;refine Je ?_
  refine Yf rfl ?_
  refine Yt (by simpa using h0) ?_
  (refine Jb ?_;unhygienic intros)
  refine P6 [3,3] 3 rfl rfl ?_
  exact Yr ih fun v h q=>q
 ·rw [if_neg h0] at ih
  obtain rfl:=hX h0
  refine Yb (Yt (by simpa using h0) ?_)
  (refine Jb ?_;unhygienic intros)
  refine Ys fun o=>(?_:Tr _ _ _ _) o;refine Je ?_
  refine Ys fun o=>(?_:Tr _ _ _ _) o;refine Je ?_
  refine Yf (by simp) ?_
  refine Yf (by simpa using h0) ?_
  refine P6 [3,3] 3 rfl rfl ?_
  exact Yr ih fun v h q=>q
theorem H70 {own:List Int} (h4:own.length=4) (ho:∀ j:Nat,0≤own.getD j 0∧own.getD j 0≤3) {w:Nat} (hw:w<4) (h3:own.getD w 0<3):∀ j:Nat,0≤(own.set w (own.getD w 0+1)).getD j 0∧(own.set w (own.getD w 0+1)).getD j 0≤3:=fun j=>by
 rw [Gn4 _ _ _ _ (by omega)]
 have:=ho w
 split
 ·omega
 ·exact ho j
theorem El8 (k c bO:Nat) (forks:Int) (hf:0≤forks∧forks≤3):∀ (m:Nat) (i made:Int) (own:List Int) (X:CX) (V:VW),0≤i→i+m=8→0≤made→made≤i→own.length=4→(∀ j:Nat,0≤own.getD j 0∧own.getD j 0≤3)→See X V→Do6 forks m i made own V=true→D14 k c bO forks i made own X
 | 0,i,made,own,X,V,h0,hi,hm0,hm,h4,ho,A,hL=>by
  obtain rfl:i=8:=by omega
  unfold Do6 at hL
  show CtJ _ _ _ _ _ _
  refine CtJ.of Ae7 fun h r=>Tr.eq (By1 ..) ?_;refine Je ?_
  refine Yf rfl ?_
  by_cases hz:forks=0
  ·rw [if_pos hz] at hL
   refine Yt (by simpa using hz) ?_
   refine Yb (Yt hL ?_)
   refine Yc (E78) ?_;rintro _ h ⟨rfl,o⟩<;>refine Jh o ?_
   (refine Jb ?_;unhygienic intros)
   refine Ys fun o=>(?_:Tr _ _ _ _) o;refine Je ?_
   refine Ys fun o=>?_
   exact ⟨rfl,o.sub⟩
  rw [if_neg hz] at hL
  simp only [Bool.and_eq_true,beq_iff_eq] at hL
  obtain ⟨l1,l2,l3,l4,l5⟩:=hL
  obtain ⟨a1,A1⟩:=A.closeFd (i:=0) (by omega) 1
  obtain ⟨a2,A2⟩:=A1.closeFd (i:=0) (by omega) 2
  obtain ⟨a3,A3⟩:=A2.pipe (i:=0) (by omega)
  rw [← a1] at l2
  rw [← a2] at l3
  rw [← a3] at l4 l5
  obtain ⟨y1,z1⟩:=Ei6 3 X 0 1
  obtain ⟨y2,z2⟩:=Ei6 3 (Ad7 3 X 0 1).2 0 2
  obtain ⟨n3,y3,z3,_⟩:=Ey5 (Ad7 3 (Ad7 3 X 0 1).2 0 2).2 0
  rw [z1] at l2;rw [z2] at l3;rw [z3] at l4 l5
  obtain rfl:y1=0:=l2
  obtain rfl:y2=0:=l3
  obtain rfl:y3=0:=l4
  obtain rfl:n3=33:=l5
  refine Yf (by simpa using hz) ?_
  refine Yc (Em5 c k F1 X Dg8 A.c 0 1 (by omega)) ?_;rintro _ h ⟨rfl,o⟩<;>refine Jh o ?_
  rw [z1]
  (refine Ja ?_;unhygienic intros)
  refine Yc (Em5 c k F1 _ Dg8 A1.c 0 2 (by omega)) ?_;rintro _ h ⟨rfl,o⟩<;>refine Jh o ?_
  rw [z2]
  (refine Jc ?_;unhygienic intros)
  refine Yn fun b1 h=>?_
  refine Yn fun b2 h=>?_
  (refine Ja ?_;unhygienic intros)
  refine Yc (E01 c k F1 _ Dg8 A2.c 0 (by omega)) ?_;rintro _ h ⟨rfl,o⟩<;>refine Jh o ?_
  rw [z3]
  (refine Jc ?_;unhygienic intros)
  refine Yn fun b3 h=>?_
  (refine Jb ?_;unhygienic intros)
  refine Yb (Yt (by simpa using l1) ?_)
  (refine Jb ?_;unhygienic intros)
  refine Ys fun o=>(?_:Tr _ _ _ _) o;refine Je ?_
  refine Yb (Yt rfl ?_)
  (refine Jb ?_;unhygienic intros)
  refine Ys fun o=>(?_:Tr _ _ _ _) o;refine Je ?_
  refine Yb (Yt rfl ?_)
  (refine Jb ?_;unhygienic intros)
  refine Ys fun o=>(?_:Tr _ _ _ _) o;refine Je ?_
  refine Yb (Yt rfl ?_)
  (refine Jb ?_;unhygienic intros)
  refine Ys fun o=>(?_:Tr _ _ _ _) o;refine Je ?_
  refine Yb (Yt rfl ?_)
  refine Yc (E78) ?_;rintro _ h ⟨rfl,o⟩<;>refine Jh o ?_
  (refine Jb ?_;unhygienic intros)
  refine Ys fun o=>(?_:Tr _ _ _ _) o;refine Je ?_
  refine Ys fun o=>?_
  exact ⟨rfl,o.sub⟩
 | m+1,i,made,own,X,V,h0,hi,hm0,hm,h4,ho,A,hL=>by
  have e1:IntKind.wrap .i64 (forks+1)=forks+1:=by rw [A9];omega
  unfold Do6 at hL
  rw [Bool.and_eq_true,beq_iff_eq] at hL
  have g0:=Int.emod_nonneg i (show forks+1≠0 by omega)
  have g1:=Int.emod_lt_of_pos i (show 0<forks+1 by omega)
  obtain ⟨p1,A1⟩:=A.pipe (i:=i%(forks+1)) (by omega)
  obtain ⟨n,e,z,zX⟩:=Ey5 X (i%(forks+1))
  rw [← p1,z] at hL
  obtain ⟨hE,hL⟩:=hL
  obtain rfl:e=Bz0 own made (i%(forks+1)):=hE
  have how:=ho (i%(forks+1)).toNat
  have ih:if Bz0 own made (i%(forks+1))=0 then D14 k c bO forks (i+1) (made+1) (own.set (i%(forks+1)).toNat (own.getD (i%(forks+1)).toNat 0+1)) (Ab2 X (i%(forks+1))).2 else D14 k c bO forks (i+1) made own (Ab2 X (i%(forks+1))).2:=by
   by_cases hw:Bz0 own made (i%(forks+1))=0
   ·rw [if_pos hw] at hL ⊢
    have h3:own.getD (i%(forks+1)).toNat 0<3:=by
     unfold Bz0 at hw;split at hw<;>omega
    exact El8 k c bO forks hf m (i+1) (made+1) _ _ _ (by omega) (by omega) (by omega) (by omega) (by rw [List.length_set];exact h4) (H70 h4 ho (by omega) h3) A1 hL
   ·rw [if_neg hw] at hL ⊢
    rw [zX hw]
    exact El8 k c bO forks hf m (i+1) made own X V (by omega) (by omega) (by omega) (by omega) h4 ho A hL
  have hg:(own.map int)[(i%(forks+1)).toNat]?=some (int (own.getD (i%(forks+1)).toNat 0)):=Ep4 (by rw [h4];omega)
  have H:=fun b1 a a2 ac ac2=>Hw8 k c bO b1 forks made i (by omega) (by omega) own h4 X (Ab2 X (i%(forks+1))).2 a a2 ac ac2 (i%(forks+1)) (by omega) how n (Bz0 own made (i%(forks+1))) zX ih
  show CtJ _ _ _ _ _ _
  refine CtJ.of Ae7 fun h r=>Tr.eq (By1 ..) ?_;refine Je ?_
  refine Yt (by simp;omega) ?_
  rw [e1,Ig2 h0]
  generalize hwho:i%(forks+1)=who at *
  refine Hq4 c k X fun y d h=>?_
  (refine Ja ?_;unhygienic intros)
  refine P6 [1] 0 rfl rfl ?_
  refine (?_:Tr (cmC c k F1 X::slC false A6 1 y 492 d (A0 (X.m.getD 0 []))::pt bO (.cells Dj1 false (own.map int))::r) _ _ _)
  refine Yc (E01 c k F1 X Dg8 A.c who (by omega)) ?_;rintro _ h ⟨rfl,o⟩<;>refine Jh o ?_
  rw [z]
  generalize (Ab2 X who).2=X' at *
  (refine Jc ?_;unhygienic intros)
  refine Yn fun b1 h=>?_
  (refine Ja ?_;unhygienic intros)
  refine P6 [1] 0 rfl rfl ?_
  refine (?_:Tr (cmC c k F1 X'::pt b1 (.cells V0 false (O6 n (Bz0 own made who) false))::slC false A6 1 y 492 d (A0 (X.m.getD 0 []))::pt bO (.cells Dj1 false (own.map int))::r) _ _ _)
  refine Hq4 c k X' fun y2 d2 h=>?_
  (refine Ja ?_;unhygienic intros)
  by_cases hw1:own.getD who.toNat 0≥3
  ·rw [show Bz0 own made who=124 from if_pos hw1] at H ⊢
   refine Yt (by simpa using hw1) ?_
   exact Yr (H b1 y y2 d d2) fun v h q=>q
  refine Yf (by simpa using hw1) ?_
  by_cases hw2:made≥4
  ·rw [show Bz0 own made who=123 from (if_neg hw1).trans (if_pos hw2)] at H ⊢
   refine Yt (by simpa using hw2) ?_
   exact Yr (H b1 y y2 d d2) fun v h q=>q
  rw [show Bz0 own made who=0 from (if_neg hw1).trans (if_neg hw2)] at H ⊢
  refine Yf (by simpa using hw2) ?_
  exact Yr (H b1 y y2 d d2) fun v h q=>q
def Bo8:Nat→Int→VW→Bool × VW
 | 0,_,V=>(true,V)
 | m+1,i,V=>if H46 (E82 V 0).1==i+1 then Bo8 m (i+1) (E82 V 0).2 else (false,V)
theorem Hs8 (X:CX) (i:Int):∃ n e:Int,(Dh8 X i).1=O6 n e false:=by
 unfold Dh8
 repeat' split
 all_goals exact ⟨_,_,rfl⟩
theorem Gl8 (k c:Nat) (forks:Nat) (hf:forks≤3):∀ (m:Nat) (i:Int) (X:CX) (V:VW),0≤i→i+m=forks→See X V→(Bo8 m i V).1=true→Do6 forks 8 0 0 [0,0,0,0] (Bo8 m i V).2=true →
  CtJ G6 B9 Ap0 [(0,int forks),(3,P0 k),(4,P0 c),(7,int i)] [cmC c k F1 X] fun v o=>v=.bool true∧o []
 | 0,i,X,V,h0,hi,A,h1,h2=>by
  refine CtJ.of Ae7 fun h r=>Tr.eq (Bz6 ..) ?_;refine Je ?_
  refine Yf (by simp;omega) ?_
  refine Yn fun bO h=>?_
  have H:=El8 k c bO forks (by omega) 8 0 0 [0,0,0,0] X V (by omega) (by omega) (by omega) (by omega) rfl (fun j=>by
   match j with
   | 0|1|2|3=>simp
   | n+4=>simp) A h2
  refine (?_:Tr (pt bO (.cells Dj1 false (([0,0,0,0]:List Int).map int))::cmC c k F1 X::_) _ _ _)
  exact Yr H fun v h q=>q
 | m+1,i,X,V,h0,hi,A,h1,h2=>by
  have e1:IntKind.wrap .i64 (i+1)=i+1:=by rw [A9];omega
  obtain ⟨f1,A1⟩:=A.fork (i:=0) (by omega)
  obtain ⟨n,e,z⟩:=Hs8 X 0
  unfold Bo8 at h1 h2
  rw [← f1,z,show H46 (O6 n e false)=n from rfl] at h1 h2
  by_cases hn:n=i+1
  case neg =>
   rw [if_neg (by simpa using hn)] at h1;cases h1
  rw [if_pos (by simpa using hn)] at h1 h2
  have H:=Gl8 k c forks hf m (i+1) _ _ (by omega) (by omega) A1 h1 h2
  refine CtJ.of Ae7 fun h r=>Tr.eq (Bz6 ..) ?_;refine Je ?_
  refine Yt (by simp;omega) ?_
  refine Yc (H97 c k F1 X Dg8 A.c 0 (by omega)) ?_;rintro _ h ⟨rfl,o⟩<;>refine Jh o ?_
  rw [z,e1]
  (refine Jb ?_;unhygienic intros)
  refine Yf (by simpa using hn) ?_
  exact Yr H fun v h q=>q
theorem Ih9:Do6 0 8 0 0 [0,0,0,0] (Bo8 0 0 V1).2=true:=by kernel_rfl
theorem Ii1:Do6 1 8 0 0 [0,0,0,0] (Bo8 1 0 V1).2=true:=by kernel_rfl
theorem Ih6:Do6 2 8 0 0 [0,0,0,0] (Bo8 2 0 V1).2=true:=by kernel_rfl
theorem Ii0:Do6 3 8 0 0 [0,0,0,0] (Bo8 3 0 V1).2=true:=by kernel_rfl
theorem Gv1 (n:Int):Ct B0 B9 [int n] [] fun v own=>v=.bool true∧own []:=by
 refine Ct.of Ae7 rfl fun h r=>Tr.eq (Ew2 ..) ?_;refine Je ?_
 refine Yc (G47) ?_;rintro _ h ⟨a1,rfl,o⟩<;>refine Jh o ?_
 (refine Ja ?_;unhygienic intros)
 refine Yc (He1 a1) ?_
 rintro _ h ⟨k,c,w,m,K',rfl,o⟩
 refine Jh o ?_
 (refine Jb ?_;unhygienic intros)
 refine Yb (Yf rfl ?_)
 refine H69 c k X1 fun rg=>?_
 (refine Jb ?_;unhygienic intros)
 refine Ys fun o=>(?_:Tr _ _ _ _) o;refine Je ?_
 refine Yf rfl ?_
 rw [Id5]
 have hf:(Bo8 (n%4).toNat 0 V1).1=true∧Do6 ((n%4).toNat:Int) 8 0 0 [0,0,0,0] (Bo8 (n%4).toNat 0 V1).2=true:=by
  have:(n%4).toNat=0∨(n%4).toNat=1∨(n%4).toNat=2∨(n%4).toNat=3:=by omega
  rcases this with h|h|h|h<;>rw [h]
  ·exact ⟨by kernel_rfl,Ih9⟩
  ·exact ⟨by kernel_rfl,Ii1⟩
  ·exact ⟨by kernel_rfl,Ih6⟩
  ·exact ⟨by kernel_rfl,Ii0⟩
 have H:=Gl8 k c (n%4).toNat (by omega) (n%4).toNat 0 X1 V1 (by omega) (by omega) H28 hf.1 hf.2
 rw [show (((n%4).toNat:Nat):Int)=n%4 by omega] at H
 refine P6 [0] 2 rfl rfl ?_
 exact Yr H fun v h q=>q
end Go.EQ

set_option maxRecDepth 100000
namespace Go.EQ
open Go Go.NN Go.Proofs Go.ChangeShapes Go.WideShapes Go.RowKit
theorem H65:∀ f,(cutsOf f).globs=0:=Eg7 H58 (by kernel_rfl)
theorem H84:∀ f,(cutsOf f).globs≤PR.globals.size:=fun f=>by rw [H65 f];exact Nat.zero_le _
theorem H64:PR.follows .mixedOrders=true:=by kernel_rfl
theorem Ie2:laidOutB PR=true:=by kernel_rfl
theorem Ig4:ownKnob PR.godebug=none:=by kernel_rfl
end Go.EQ

set_option maxRecDepth 100000
namespace Go.EQ
open Go Go.NN Go.Proofs Go.Proofs.YthhmplobccgeiaaGreat Go.ChangeShapes Go.WideShapes Go.RowKit
theorem H87 {H:Type} {enc:TypeId × Value→H} {W:World} {v0:Value} {d0:DataW H} {p0:List MemPlace} {b0:Nat} (k0:Value.okWide PR W .any b0 B5 v0)
  (h0:DataW.Trod enc PR W 0 (fun _=>true) true B5 v0 d0 p0) :
  Calls PR B9 #[v0] W fun e W'=>e=.returned (.bool true)∧Below W.heap.size W W':=by
 obtain ⟨x0,_,i0⟩:=An3.argInt Ig3 k0 h0
 refine i0.run H64 H84 fun vs ps J hh r o=>?_
 obtain ⟨e0a,e0b⟩:=J
 subst e0a
 subst e0b
 have O:Own hh ([]++r):=by
  exact o
 obtain ⟨v,h',e,rfl,_⟩:=Gv1 x0 hh r O
 exact ⟨h',e⟩
theorem H40 (os:Os) (started:os.Started) (H:Type) (enc:TypeId × Value→H) :
  ReturnsInHanded {} Tryz.checked os B9 .any (Rows.fdsLimitsSpec.pre6 enc Tryz.prog Tryz.f11 Rows.fdsLimitsRow.domain false) (Rows.fdsLimitsSpec.post enc Tryz.prog Tryz.f11 false true false false):=by
 refine returnsInHanded_of_change (C:=Tryz.checked) Ig4 started (by kernel_rfl) Tryz.func11
  (ChangeSpec.witness6 (enc:=enc) (C:=Tryz.checked) false ⟨#[],#[.int .i64 0],[]⟩ 8 (by kernel_rfl) (by kernel_rfl) (by kernel_rfl) (by kernel_rfl)) ?_
 intro W base args ds gs before hval hW hcnd _
 have hW':=hW
 obtain ⟨p,q,hA,hV,rfl,hfz,hnd⟩:=hW
 rw [Tryz.params11] at hA hval
 obtain ⟨v0,d0,rfl,rfl,h0⟩:=trodAll_one hA
 refine (H87 (hval 0 _ v0 rfl rfl) h0).mono fun e W' ⟨he,hb⟩=>?_
 subst he
 refine ⟨_,rfl,Ho6 Ie2 ?_ rfl Ic8 rfl (fun ds gs hl=>?_) hW' hb⟩
 ·rw [Tryz.params11];intro t ht;simp at ht;subst ht;exact ⟨by kernel_rfl,of_decide_eq_true (by kernel_rfl)⟩
 ·replace hl:ds.length=1:=hl
  cases gs with
  | cons _ _=>exact .inr (by simp)
  | nil=>match ds,hl with|[_],_=>exact .inl rfl
theorem Id0:Tryz.pinned.checked.prog.funcNamed Rows.fdsLimitsRow.func=some B9:=by kernel_rfl
theorem H14:joinedFacts Tryz.pinned.checked.prog B9 Tryz.f11 Rows.fdsLimitsSpec Rows.fdsLimitsRow=true:=by kernel_rfl
theorem Ie0:Tryz.f11.isInstance Tryz.pinned.checked.prog Rows.fdsLimitsRow.origin Rows.fdsLimitsRow.targs:=of_decide_eq_true (by kernel_rfl)
theorem Ib2:Tryz.f11.isWrapper Tryz.pinned.checked.prog Rows.fdsLimitsRow.wrapper Rows.fdsLimitsRow.mainSum:=by unfold Func.isWrapper;first|(rw [if_pos (by decide +kernel)];kernel_rfl)|(rw [if_neg (by decide +kernel)];exact ⟨rfl,rfl⟩)
theorem FdsLimits_holds:Rows.FdsLimitsSaid :=
 OpenClaim.holds_of_wide B9 Tryz.f11 rfl rfl rfl rfl rfl rfl rfl ⟨rfl,rfl,rfl,rfl,rfl⟩ rfl rfl rfl rfl rfl Id0 Tryz.func11 H14 Ie0 Ib2
  (fun os started H enc _=>H40 os started H enc)
end Go.EQ
