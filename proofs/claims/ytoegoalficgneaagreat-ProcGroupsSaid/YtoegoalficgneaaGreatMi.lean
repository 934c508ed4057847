/- A signal to a group reaches all of it, and nobody else; to a slot that one alone; no conditions. -/
import Derived.Test.YtoegoalficgneaaGreatMh
import Derived.KernelRfl
import Derived.Test.YtoegoalficgneaaGreatRows
set_option linter.all false
set_option maxRecDepth 10000
namespace Go.EQ
open Go Go.NN
theorem E92 (k:Nat) (S:KS) (A:KA):CtP A7 Al7 [P0 k] [pt k (.cells Dw2 false (Eq4 S A))] (P0 A.s):=by
 refine CtP.of Ev4 rfl fun h r=>Tr.eq (Ew2 ..) ?_;refine Je ?_
 exact Jz
theorem Id3 (k:Nat) (S:KS) (N:Nat) (ok:KOk N S) (env:Int):Ct A7 Bo5 [P0 k,int env] [D7 k S] fun v own =>
  (A18 S.tabs env≠[]∧∃ c,v=.tuple ⟨[P0 c,int 0]⟩∧own [U4 c k env (A18 S.tabs env) [],D7 k S])∨(A18 S.tabs env=[]∧v=.tuple ⟨[.pointer none,int 1]⟩∧own [D7 k S]):=by
 refine Ct.of Gp7 rfl fun h r=>Tr.eq (Gr1 ..) ?_;refine Je ?_
 refine B4 (D7 k S) fun ⟨m,s,q,rg,ea,ec,ma,mc,ms,sa,sc,ss⟩=>?_;refine Je ?_
 (refine Jb ?_;unhygienic intros)
 refine Yb (Yf rfl ?_)
 refine Tr.pcall (E92 k S ⟨m,s,q,rg,ea,ec,ma,mc,ms,sa,sc,ss⟩) ?_;refine Je ?_;(refine Ja ?_;unhygienic intros)
 try dsimp only
 refine Yc (E58 s S.tabs env ok.space) ?_;rintro _ h ⟨a0,c0,rfl,o⟩<;>refine Jh o ?_
 (refine Ja ?_;unhygienic intros)
 refine Ys fun o=>(?_:Tr _ _ _ _) o;refine Je ?_
 by_cases hz:A18 S.tabs env=[]
 ·refine Yt (by simp [hz]) ?_
  refine B1 (D7 k S) ⟨m,s,q,rg,ea,ec,ma,mc,ms,sa,sc,ss⟩ ?_;refine Je ?_
  refine Ys fun o=>?_
  exact .inr ⟨hz,rfl,o.sub⟩
 ·refine Yf ?_ ?_
  ·rw [beq_eq_false_iff_ne]
   intro h0
   exact hz (List.eq_nil_of_length_eq_zero (by omega))
  refine Tr.pcall (E92 k S ⟨m,s,q,rg,ea,ec,ma,mc,ms,sa,sc,ss⟩) ?_;refine Je ?_;(refine Ja ?_;unhygienic intros)
  try dsimp only
  refine Yc (E58 s S.tabs env ok.space) ?_;rintro _ h ⟨a1,c1,rfl,o⟩<;>refine Jh o ?_
  (refine Jc ?_;unhygienic intros)
  refine Yn fun mb h=>?_
  refine Yn fun c h=>?_
  refine B1 (D7 k S) ⟨m,s,q,rg,ea,ec,ma,mc,ms,sa,sc,ss⟩ ?_;refine Je ?_
  refine D9 (U4 c k env (A18 S.tabs env) []) (a1,c1,mb) [1,2,1] rfl ?_;refine Je ?_
  refine Ys fun o=>?_
  exact .inl ⟨hz,c,rfl,o.sub⟩
def A62:PlanS:=⟨[false,false],[(0,1),(1,0)],5⟩
theorem H17:Ct A7 Bv8 [] [] fun v own=>∃ A,v=.agg ⟨Er0 A62 A⟩∧own (Dh3 A62 A):=by
 refine Ct.of G38 rfl fun h r=>Tr.eq (Gu3 ..) ?_;refine Je ?_
 (refine Jc ?_;unhygienic intros;rename H=>h)
 refine Yn fun b h=>?_
 refine Yn fun b1 h=>?_
 refine Yn fun b2 h=>?_
 (refine Ja ?_;unhygienic intros;rename H=>h)
 refine Ae0 0 rfl 2 2 rfl (by omega) ?_
 refine Ae0 1 rfl 1 2 rfl (by omega) ?_
 refine Je ?_
 refine Ys fun o=>?_
 exact ⟨⟨some ⟨b1,0,none⟩,2,some ⟨b2,0,none⟩,2⟩,rfl,(show Own h (slC false Bw8 2 (some ⟨b2,0,none⟩) A62.brs.length 2 (A62.brs.flatMap brL)::slC false Gb2 1 (some ⟨b1,0,none⟩) A62.bad.length 2 (A62.bad.map Value.bool)::_) from o).sub⟩
def Af8:BootS:=El0 A62
theorem Gt1:Bm5 Af8=true:=by kernel_rfl
theorem Ex6:Small Af8:=by
 have e:Af8=⟨[20,20],[0,0,0,0,0,0,0,0,0,1,1,1,1,1,1,1,1,1],[[0],[1]],5,[⟨0,0,0,492,[0]⟩,⟨1,0,0,492,[1]⟩,⟨0,8,0,40,[0,1]⟩,⟨1,9,0,40,[1,0]⟩]⟩:=by kernel_rfl
 rw [e]
 exact ⟨by simp [A9],by simp [A9],by simp [A9]⟩
theorem Br3:Af8=⟨[20,20],[0,0,0,0,0,0,0,0,0,1,1,1,1,1,1,1,1,1],[[0],[1]],5,[⟨0,0,0,492,[0]⟩,⟨1,0,0,492,[1]⟩,⟨0,8,0,40,[0,1]⟩,⟨1,9,0,40,[1,0]⟩]⟩:=by kernel_rfl
theorem Ib4:RBoot Af8 (Ag9 Af8.frames):=by
 rw [Br3]
 refine ⟨by simp,by simp,by simp,fun x hx=>?_,fun x hx=>?_⟩
 ·simp only [List.mem_cons,List.not_mem_nil,or_false] at hx
  rcases hx with rfl|rfl|rfl|rfl<;>simp [A9]
 ·simp only [List.mem_cons,List.not_mem_nil,or_false] at hx
  rcases hx with rfl|rfl|rfl|rfl<;>simp [Ag9]
def S00:KS:=D01 Af8
theorem G17:KOk 0 S00:=Ib2 Gt1 Ex6
def wrS (S:KS) (cap:Int) (b:List UInt8):KS:=(W1 S 0 ⟨2,cap,0,0,0,0,b⟩).2
def S0:KS:=wrS S00 256 Aa2
theorem Il1:(W1 S00 0 ⟨2,256,0,0,0,0,Aa2⟩).1.1=0:=by kernel_rfl
theorem H81:A18 S00.tabs 0=[256,257,258]:=by kernel_rfl
def wrR (K:RKS) (cap:Int) (b:List UInt8):RKS:={ K with R:=(Ag1 K.R 0 cap 0 b).2 }
def K0:RKS:=wrR (Dc5 Af8) 256 Aa2
theorem D12:RKOk (Dc5 Af8)∧(Dc5 Af8).B=Af8:=Ib1 (by rw [Br3];simp) (by rw [Br3];simp)
theorem Gb4 {K:RKS} (k:RKOk K) (cap:Int) (b:List UInt8):RKOk (wrR K cap b):=H93 k 0 cap 0 b
theorem H10:B08 K0 0≠[]:=by
 have:B08 K0 0=[256,257,258]:=by kernel_rfl
 rw [this];simp
theorem Z2:Aa2.length=492:=by kernel_rfl
theorem Dm7 {l:List HP} {h:H} {α:Type} {Q:α→H→Prop} {x:Option (α × H)} (i:Nat) {b n:Nat} {cs:List Value} (hi:l[i]?=some (pt b (.cells A3 false cs))) (hn:cs.length=n) (t:Tr (l.set i (slC false A3 1 (some (J0 b)) n n cs)) h x Q):Tr l h x Q:=fun o=>by
 refine t (Own.back (h:=h) hi ?_)
 have o1:=o.front hi
 refine Own.slShut (pre:=[]) (post:=[]) (by simpa using o1) ⟨by omega,Nat.le_refl _,by simp,by simp,by simp,by omega,by simp⟩
theorem Ic5 (A:PlA):Ct A7 Bg5 [.agg ⟨Er0 A62 A⟩] (Dh3 A62 A) fun v own =>
  ∃ k c w m,v=.tuple ⟨[P0 k,P0 c,P0 w,P0 m]⟩∧own [D7 k S0,U4 c k 0 [256,257,258] [],rkC w K0,rcC m w 0 (B08 K0 0) []]:=by
 have hB:El0 A62=Af8:=rfl
 obtain ⟨ba,bc,ra,rc⟩:=A
 refine Ct.of G49 rfl fun h r=>Tr.eq (Gv1 ..) ?_;refine Je ?_
 refine Yn fun b0 h=>?_
 (refine Ja ?_;unhygienic intros)
 refine Yc (Ic0 A62 ⟨ba,bc,ra,rc⟩ (by simp [A62]) (by simp [A62])) ?_;rintro _ h ⟨A,kA,rfl,o⟩<;>refine Jh o ?_
 rw [hB] at kA ⊢
 obtain ⟨fa,fc,ea,ec,sa,sc,ss,ha,hc,hs⟩:=A
 (refine Jc ?_;unhygienic intros)
 refine Yn fun b1 h=>?_
 (refine Ja ?_;unhygienic intros)
 have J:=Ie7 false Af8 ⟨fa,fc,ea,ec,sa,sc,ss,ha,hc,hs⟩ kA Ex6
 simp only [Gt1,if_true] at J
 refine Yc (J) ?_;rintro _ h ⟨k,rfl,o⟩<;>refine Jh o ?_
 (refine Jb ?_;unhygienic intros)
 refine Yb (Yf rfl ?_)
 refine Ys fun o=>(?_:Tr _ _ _ _) o;refine Je ?_
 refine Yf rfl ?_
 (refine Ja ?_;unhygienic intros)
 refine Yc (Ha0 Af8 ⟨fa,fc,ea,ec,sa,sc,ss,ha,hc,hs⟩ kA (by rw [Br3];simp) Ib4) ?_;rintro _ h ⟨w,rfl,o⟩<;>refine Jh o ?_
 (refine Ja ?_;unhygienic intros)
 refine Yc (Id3 k (D01 Af8) 0 G17 0) ?_
 rintro v h (⟨hz,c,rfl,o⟩|⟨hz,rfl,o⟩)
 case inr=>exact absurd hz (by rw [show D01 Af8=S00 from rfl,H81];simp)
 rw [show D01 Af8=S00 from rfl,H81] at o
 refine (?_:Tr _ _ _ _) o
 refine Je ?_
 (refine Jb ?_;unhygienic intros)
 refine Yb (Yf rfl ?_)
 refine Ys fun o=>(?_:Tr _ _ _ _) o;refine Je ?_
 refine Yf rfl ?_
 refine Yc (Gn2) ?_;rintro _ h ⟨rfl,o⟩<;>refine Jh o ?_
 (refine Jc ?_;unhygienic intros)
 refine Tr.ck (by rw [A19,Z2];simp [A9]) ?_
 rw [A19,Z2]
 refine Yn fun b2 h=>?_
 refine Dm7 (n:=492) 0 rfl (by rw [S4,show (bs Aa2).data.toList=Aa2 from rfl,Z2]) ?_
 refine Je ?_
 have J2:=D45 k S00 0 G17 (by omega) 0 ⟨2,256,0,0,0,0,Aa2⟩ (some (J0 b2)) 492 false (show ((2:Int)≠5) by decide)
 simp only [Z2] at J2
 refine Bq5 J2 [2,0] rfl ?_
 rintro _ h ⟨y,d,rfl,o⟩
 rw [Il1]
 rw [show (W1 S00 0 ⟨2,256,0,0,0,0,Aa2⟩).2=S0 from rfl] at o
 refine (?_:Tr _ _ _ _) o
 refine Je ?_
 (refine Jc ?_;unhygienic intros)
 refine Yf rfl ?_
 refine Tr.ck (by simp [A9]) ?_
 refine Yn fun b3 h=>?_
 refine Dm7 (n:=492) 0 rfl (by rw [S4,Z2]) ?_
 refine Je ?_
 have J3:=Et2 w (Dc5 Af8) D12.1 0 (by rw [D12.2,Br3];simp) ⟨2,256,0,0,0,0,Aa2⟩ rfl (by rw [Z2];simp [A9]) (slC false A3 1 (some (J0 b3)) Aa2.length 492 (A0 Aa2)) (some (J0 b3)) 492 false
 simp only [Z2] at J3
 refine Yc J3 ?_
 rintro _ h ⟨rfl,o⟩
 rw [show ({ Dc5 Af8 with R:=(Ag1 (Dc5 Af8).R ((0:Nat):Int) 256 0 Aa2).2 }:RKS)=K0 from rfl] at o
 refine (?_:Tr _ _ _ _) o
 refine Je ?_
 (refine Ja ?_;unhygienic intros)
 refine Yc (Gf3 w K0 (Gb4 D12.1 256 Aa2) 0 (by show (0:Nat)<(Dc5 Af8).B.envs.length;rw [D12.2,Br3];simp)) ?_
 rintro v h (⟨_,m,rfl,o⟩|⟨hn,rfl,o⟩)
 case inr=>exact absurd hn H10
 refine (?_:Tr _ _ _ _) o
 refine Je ?_
 (refine Ja ?_;unhygienic intros)
 refine Ys fun o=>?_
 exact ⟨k,c,w,m,rfl,o.sub⟩
def B05 (mem:List UInt8) (rg:Rg):List (List UInt8):=rg.map fun p=>slice mem p.1 p.2
theorem Gz6 {mem:List UInt8} {rg:Rg} {j lo n:Nat} (h:rg[j]?=some (lo,n)):(B05 mem rg)[j]?=some (slice mem lo n):=by unfold B05;rw [List.getElem?_map,h];rfl
theorem G42 {mem:List UInt8} {rg:Rg} (h:∀ (j lo n:Nat),rg[j]?=some (lo,n)→lo+n≤mem.length):Fit mem.length rg (B05 mem rg):=⟨by simp [B05],fun j lo n hj=>⟨h j lo n hj,slice mem lo n,Gz6 hj,Go2 (h j lo n hj)⟩⟩
theorem H65 {mem:List UInt8} {rg:Rg} (k:RgOk rg) (h:∀ (j lo n:Nat),rg[j]?=some (lo,n)→lo+n≤mem.length):Az5 mem rg (B05 mem rg)=mem:=by
 have f:=G42 h
 refine List.ext_getElem? fun i=>?_
 by_cases ho:∃ (j lo n:Nat),rg[j]?=some (lo,n)∧lo≤i∧i<lo+n
 ·obtain ⟨j,lo,n,hj,h1,h2⟩:=ho
  obtain ⟨i',rfl⟩:∃ i',i=lo+i':=⟨i-lo,by omega⟩
  rw [B50 f k j lo n _ hj (Gz6 hj) i' (by omega),Bt5,if_pos (by omega)]
 ·exact Dk2 f i fun j lo n hj=>by
   by_cases hh:lo≤i∧i<lo+n
   ·exact absurd ⟨j,lo,n,hj,hh.1,hh.2⟩ ho
   ·omega
theorem FrOk.room {F:Fr} {j lo n:Nat} (f:Fit F.S.mem.length F.rg (B05 F.S.mem F.rg)) (h:F.rg[j]?=some (lo,n)):lo+n≤F.S.mem.length:=(f.each j lo n h).1
theorem Fr.at_cut {F:Fr} (k:FrOk F) (h:∀ (j lo n:Nat),F.rg[j]?=some (lo,n)→lo+n≤F.S.mem.length):F.at (B05 F.S.mem F.rg)=F.S:=by
 unfold Fr.at;rw [H65 k.dj h];rfl
theorem Own.cmTake {r:List HP} {h:H} (c k:Nat) (F:Fr) (bad:List RecS) (ok:FrOk F) (hr:∀ (j lo n:Nat),F.rg[j]?=some (lo,n)→lo+n≤F.S.mem.length) (o1:Own h (D7 k F.S::U4 c k F.env F.caps bad::r)):Own h (cmC c k F ⟨B05 F.S.mem F.rg,bad⟩::r):=by
 refine Own.inex (f:=fun u:Unit=>sl (cmF c k F ⟨B05 F.S.mem F.rg,bad⟩)) () (Own.group (l:=cmF c k F ⟨B05 F.S.mem F.rg,bad⟩) ?_)
 show Own h (D7 k (F.at (B05 F.S.mem F.rg))::U4 c k F.env F.caps bad::pu _::r)
 rw [Fr.at_cut ok hr]
 have o2:=Own.inpure (show Fit F.S.mem.length F.rg (B05 F.S.mem F.rg) from G42 hr) o1
 exact o2.picks [1,1,0] rfl
theorem Ig9 {l r:List HP} {h:H} {α:Type} {Q:α→H→Prop} {x:Option (α × H)} (c k:Nat) (F:Fr) (X:CX) [tk:Take (cmC c k F X) l r]
  (t:Fit F.S.mem.length F.rg X.m→Tr (D7 k (F.at X.m)::U4 c k F.env F.caps X.bad::r) h x Q):Tr l h x Q:=fun o=>by
 have o1:Own h (cmC c k F X::r):=o.perm tk.pm
 obtain ⟨u,o2⟩:=Own.ex (f:=fun u:Unit=>sl (cmF c k F X)) o1
 have o3:Own h (D7 k (F.at X.m)::U4 c k F.env F.caps X.bad::pu (Fit F.S.mem.length F.rg X.m)::r):=Own.join o2
 have f:=(o3.front (i:=2) rfl).pure
 exact t f (o3.front (i:=2) rfl).tail
theorem Hp0 {S:KS} {env cap obj:Int} {lo n:Nat} {e1 e2:Int} (hg:Bp8 S.tabs env cap=some ⟨obj,3,0,(n:Int),e1,e2⟩) (h0:0≤obj) (hr:S.regs[obj.toNat]?=some ((lo:Int),(n:Int))) (hl:lo+n≤65536) :
  ∀ (a m:Nat) (right:Int),right=1∨right=2→a+m≤n→O5 S.tabs S.regs env cap right a m=(((lo+a:Nat):Int),0):=by
 intro a m right hri ha
 have hlt:=(List.getElem?_eq_some_iff.1 hr).1
 unfold O5
 rw [hg]
 have b1:(D6 .i64 3 1==0)=false:=by kernel_rfl
 have b2:(D6 .i64 3 2==0)=false:=by kernel_rfl
 have hb:¬ ((D6 .i64 3 right==0)=true):=by rcases hri with rfl|rfl<;>simp [b1,b2]
 simp only
 have h2:(decide ((a:Int)<0) || decide ((m:Int)<0) || decide ((a:Int)>(n:Int)) || decide ((m:Int)>IntKind.wrap .i64 ((n:Int)-a)) || decide (obj<0) || decide (obj≥S.regs.length))=false:=by
  simp only [Bool.or_eq_false_iff,decide_eq_false_iff_not,A6];omega
 have h3:(decide (IntKind.wrap .i64 (0+(a:Int))>(n:Int)) || decide ((m:Int)>IntKind.wrap .i64 (IntKind.wrap .i64 ((n:Int)-0)-a)))=false:=by
  simp only [Bool.or_eq_false_iff,decide_eq_false_iff_not,A6];omega
 have h4:IntKind.wrap .i64 (IntKind.wrap .i64 ((lo:Int)+0)+a)=((lo+a:Nat):Int):=by simp only [A6];omega
 rw [if_neg hb]
 simp only [h2,hr,h3,h4,Bool.false_eq_true,if_false]
structure Like (S:KS):Prop where
 ok:KOk 0 S
 tabs:S.tabs=S00.tabs
 regs:S.regs=S00.regs
 envs:S.envs=S00.envs
 mem:S.mem.length=2560
theorem D56 {S:KS} (k:Like S) {m:List UInt8} (h:m.length=2560):Like (Bm6 S m) :=
 ⟨⟨k.ok.envs,k.ok.tabs,k.ok.space,k.ok.quota,by show m.length≤65536;omega,k.ok.regs,k.ok.may,k.ok.mayl,k.ok.nsect,k.ok.sects,k.ok.now⟩,k.tabs,k.regs,k.envs,h⟩
theorem Ig7:Like S00:=⟨G17,rfl,rfl,rfl,by kernel_rfl⟩
theorem Ia6 (S:KS) (k:Like S) (cap:Int) (b:List UInt8):Like (wrS S cap b):=by
 unfold wrS W1
 split
 ·exact k
 ·exact D56 k (by rw [Hl0];exact k.mem)
theorem Du1:Like S0:=Ia6 S00 Ig7 256 Aa2
def rgP (s:Nat):Rg:=[(1280*s,492),(512,40),(1856,40)]
def frP (S:KS) (s:Nat) (env:Int):Fr:=⟨S,0,env,[256,257,258],rgP s⟩
theorem Gu5:S00.regs=[(0,492),(1280,492),(512,40),(1856,40)]:=by kernel_rfl
theorem Ih3:S00.envs.length=18:=by kernel_rfl
structure EnvP (s:Nat) (env:Int):Prop where
 hs:s<2
 he:0≤env∧env<18
 a:Bp8 S00.tabs env 256=some ⟨s,3,0,492,0,0⟩
 b:Bp8 S00.tabs env 257=some ⟨2,3,0,40,0,0⟩
 c:Bp8 S00.tabs env 258=some ⟨3,3,0,40,0,0⟩
theorem Gu7:EnvP 0 0:=⟨by omega,by omega,by kernel_rfl,by kernel_rfl,by kernel_rfl⟩
theorem D26 {s j lo n:Nat} (h:(rgP s)[j]?=some (lo,n)):(j=0∧lo=1280*s∧n=492)∨(j=1∧lo=512∧n=40)∨(j=2∧lo=1856∧n=40):=by
 unfold rgP at h
 match j,h with
 | 0,h=>simp at h;omega
 | 1,h=>simp at h;omega
 | 2,h=>simp at h;omega
 | j+3,h=>simp at h
theorem Ec6 {S:KS} (k:Like S) {s:Nat} (hs:s<2) (env:Int):∀ (j lo n:Nat),(frP S s env).rg[j]?=some (lo,n)→lo+n≤(frP S s env).S.mem.length:=by
 intro j lo n h
 have hm:=k.mem
 have:=D26 h
 show lo+n≤S.mem.length
 omega
theorem Gv4 {S:KS} (k:Like S) {s:Nat} {env:Int} (e:EnvP s env):FrOk (frP S s env):=by
 have hs:=e.hs;have he:=e.he
 refine ⟨k.ok,by simp [frP],by simp [frP],by simp [frP],by simp [frP,rgP],?_,?_,?_,⟨1280*s,rfl⟩,?_⟩
 ·show ¬ (env<0∨env≥(S.envs.length:Int))
  rw [k.envs,Ih3];omega
 ·intro j cap lo n hc hr
  show ∀ (a m:Nat) (right:Int),right=1∨right=2→a+m≤n→O5 S.tabs S.regs env cap right a m=_
  have hg:=D26 hr
  rcases hg with ⟨rfl,rfl,rfl⟩|⟨rfl,rfl,rfl⟩|⟨rfl,rfl,rfl⟩
  ·cases hc
   refine Hp0 (obj:=s) (e1:=0) (e2:=0) (by rw [k.tabs];exact e.a) (by omega) ?_ (by omega)
   rw [k.regs,Gu5,Int.toNat_natCast]
   match s,hs with
   | 0,_=>rfl
   | 1,_=>rfl
  ·cases hc
   exact Hp0 (obj:=2) (e1:=0) (e2:=0) (by rw [k.tabs];exact e.b) (by omega) (by rw [k.regs,Gu5];rfl) (by omega)
  ·cases hc
   exact Hp0 (obj:=3) (e1:=0) (e2:=0) (by rw [k.tabs];exact e.c) (by omega) (by rw [k.regs,Gu5];rfl) (by omega)
 ·intro i j lo n lo' n' hij hi hj
  have h1:=D26 hi;have h2:=D26 hj
  omega
 ·intro j lo n h0 h
  have:=D26 h;omega
abbrev F0:Fr:=frP S0 0 0
def X0:CX:=⟨B05 S0.mem (rgP 0),[]⟩
theorem H75:FrOk F0:=Gv4 Du1 Gu7
theorem H67 (A:PlA):Ct A7 Bg5 [.agg ⟨Er0 A62 A⟩] (Dh3 A62 A) fun v own =>
  ∃ k c w m,v=.tuple ⟨[P0 k,P0 c,P0 w,P0 m]⟩∧own [cmC c k F0 X0,rkC w K0,rcC m w 0 (B08 K0 0) []]:=by
 intro h r o
 obtain ⟨v,h',e,k,c,w,m,hv,o2⟩:=Ic5 A h r o
 refine ⟨v,h',e,k,c,w,m,hv,?_⟩
 exact Own.cmTake c k F0 [] H75 (Ec6 Du1 (by omega) 0) o2
theorem Ij4 {y m:Int} (h:0≤y):Int.tmod y m=y%m:=Int.tmod_eq_emod_of_nonneg h
theorem Z0 {x:Int} (h:0≤x∧x<256):((b8 x).toNat:Int)=x:=by rw [← Be5,Dh2];omega
theorem Gt7 {p:PipeS} (h:okP p=true):Q8 (I5 p)=(p,1):=by
 have hk:=h
 simp only [okP,Bool.and_eq_true,decide_eq_true_eq] at h
 have e:Ba9 (I5 p)=p:=by
  obtain ⟨a,b,c,d,l,hl⟩:=p
  simp only at h
  have h1:=Z0 (x:=a) (by omega);have h2:=Z0 (x:=b) (by omega);have h3:=Z0 (x:=c) (by omega);have h4:=Z0 (x:=d) (by omega)
  simp [Ba9,I5,Af7,D85 hl]
  exact ⟨h1,h2,h3,h4⟩
 have hz:(I5 p).all (·==0)=false:=by simp [I5,Af7]
 unfold Q8 isP
 rw [hz,e,hk]
 simp
theorem E14 {l b:List UInt8} {a c n:Nat} (h:a+b.length≤l.length) (hd:c+n≤a∨a+b.length≤c):slice (J4 l a b) c n=slice l c n:=by
 refine List.ext_getElem? fun i=>?_
 rw [Bt5,Bt5]
 split
 ·rw [Bh8 h,if_neg (by omega)]
 ·rfl
theorem Ga2 {l b:List UInt8} {a:Nat} (h:a+b.length≤l.length):slice (J4 l a b) a b.length=b:=by
 refine List.ext_getElem? fun i=>?_
 rw [Bt5]
 split
 ·rw [Bh8 h,if_pos (by omega)];congr 1;omega
 ·rw [List.getElem?_eq_none (by omega)]
abbrev H86:List Int:=[256,257,258]
theorem Gd2 (n:Int):BitVec.ofInt 64 (IntKind.wrap .i64 n)=BitVec.ofInt 64 n:=by
 apply BitVec.eq_of_toNat_eq
 rw [BitVec.toNat_ofInt,BitVec.toNat_ofInt,A6];omega
theorem Gu6 (x:BitVec 64):BitVec.ofInt 64 (x.toNat:Int)=x:=by
 apply BitVec.eq_of_toNat_eq
 have:=x.isLt
 rw [BitVec.toNat_ofInt];omega
theorem Ii6 (a b:Int):BitVec.ofInt 64 (Ai6 .i64 a b)=BitVec.ofInt 64 a &&& ~~~ BitVec.ofInt 64 b:=by
 unfold Ai6;rw [Gd2];exact Gu6 _
theorem Ie9 {a b:Int} (h:BitVec.ofInt 64 a &&& BitVec.ofInt 64 b=0#64):D6 .i64 a b=0:=by
 unfold D6
 rw [show IntKind.bits .i64=64 from rfl,h];rfl
theorem Ii7 {a b:Int} (h:BitVec.ofInt 64 a &&& ~~~ BitVec.ofInt 64 b=0#64):Ai6 .i64 a b=0:=by
 unfold Ai6
 rw [show IntKind.bits .i64=64 from rfl,h];rfl
structure InS (p:ProcS):Prop where
 a:0≤p.pending∧p.pending≤65535
 b:0≤p.mask∧p.mask≤65535
 c:0≤p.ignored∧p.ignored≤65535
 d:0≤p.caught∧p.caught≤65535
theorem G08 {p:ProcS} (h:okS p=true) (r:InS p):Q9 (At8 p)=(p,1):=by
 have hk:=h
 obtain ⟨ra,rb,rc,rd⟩:=r
 have e:Bb2 (At8 p)=p:=by
  obtain ⟨st,pa,gr,co,pe,ma,ig,ca,fds,hl⟩:=p
  simp only at ra rb rc rd
  unfold okS at h
  simp only [Bool.and_eq_true,Bool.not_eq_true',Bool.or_eq_false_iff,decide_eq_false_iff_not,List.any_eq_false] at h
  match fds,hl with
  | [f0,f1,f2,f3,f4,f5,f6,f7],hl =>
   have hf:=h.2.2.1
   simp at hf
   have two_b:∀ n:Int,0≤n∧n≤65535→((hi2 n).toNat:Int)*256+((lo2 n).toNat:Int)=n:=fun n hn=>by
    unfold hi2 lo2
    rw [if_pos hn,if_pos hn,Z0 (by omega),← Be5,Dh2];omega
   have g0:=h.1
   simp only [Bb2,At8,Eb5,two]
   simp
   refine ⟨Z0 (by omega),Z0 (by omega),Z0 (by omega),Z0 (by omega),two_b _ ra,two_b _ rb,two_b _ rc,two_b _ rd,Z0 (by omega),Z0 (by omega),Z0 (by omega),Z0 (by omega),Z0 (by omega),Z0 (by omega),Z0 (by omega),Z0 (by omega)⟩
 have hz:(At8 p).all (·==0)=false:=by
  simp [At8,Eb5]
 unfold Q9 isS
 rw [hz,e,hk]
 simp
theorem Ie6:Bo9 0 0=true:=by kernel_rfl
def stR (kind:Int) (l:List UInt8):Int:=if kind=1 then (Q9 l).2 else if kind=2 then (U9 l).2 else if kind=5 then (Ak6 l).2 else (Q8 l).2
def rd (X:CX) (r:RecS):List UInt8 :=
 match G9 X.m.length r with
 | some (j,a,n)=>slice (X.m.getD j []) a n
 | none=>[]
structure Clean (nc:Nat) (X:CX):Prop where
 len:X.m.length=nc
 pos:0<nc
 bad:X.bad=[]
 own:(X.m.getD 0 []).length=492
 brs:∀ j,0<j→j<nc→(X.m.getD j []).length=40
 ok:∀ r:RecS,1≤r.kind→r.kind≤5→0≤r.index→r.index<W7 nc r.kind→stR r.kind (rd X r)≠2
structure Rin (nc:Nat) (r:RecS):Prop where
 a:1≤r.kind
 b:r.kind≤5
 c:0≤r.index
 d:r.index<W7 nc r.kind
theorem Rin.place {nc:Nat} {r:RecS} (h:Rin nc r) (hn:0<nc):∃ j a,G9 nc r=some (j,a,P2 r.kind)∧j<nc∧(j=0→a+P2 r.kind≤492)∧(0<j→a=0∧P2 r.kind=40):=by
 obtain ⟨h1,h2,h3,h4⟩:=h
 obtain ⟨k,i⟩:=r
 simp only at h1 h2 h3 h4
 have hk:k=1∨k=2∨k=3∨k=4∨k=5:=by omega
 unfold G9 P2
 simp only
 rw [if_neg (by omega)]
 rcases hk with rfl|rfl|rfl|rfl|rfl
 ·exact ⟨0,_,rfl,hn,fun _=>by simp [W7] at h4 ⊢;omega,fun h=>by omega⟩
 ·exact ⟨0,_,rfl,hn,fun _=>by simp [W7] at h4 ⊢;omega,fun h=>by omega⟩
 ·simp only [W7] at h4
  by_cases h5:i<4
  ·exact ⟨0,_,by simp [h5];rfl,hn,fun _=>by simp;omega,fun h=>by omega⟩
  ·exact ⟨i.toNat-3,0,by simp [h5],by simp at h4;omega,fun h=>by omega,fun _=>⟨rfl,rfl⟩⟩
 ·exact ⟨0,_,rfl,hn,fun _=>by simp,fun h=>by omega⟩
 ·exact ⟨0,_,rfl,hn,fun _=>by simp,fun h=>by omega⟩
theorem H12 {nc:Nat} {r r':RecS} (h:Rin nc r) (h':Rin nc r') (ne:r≠r') {j a n j' a' n':Nat} (e:G9 nc r=some (j,a,n)) (e':G9 nc r'=some (j',a',n')):j≠j'∨a+n≤a'∨a'+n'≤a:=by
 obtain ⟨h1,h2,h3,h4⟩:=h
 obtain ⟨g1,g2,g3,g4⟩:=h'
 obtain ⟨k,i⟩:=r
 obtain ⟨k',i'⟩:=r'
 simp only at h1 h2 h3 h4 g1 g2 g3 g4
 have ne':k≠k'∨i≠i':=by
  by_cases hk:k=k'
  ·right;intro hi;exact ne (by rw [hk,hi])
  ·exact .inl hk
 unfold G9 at e e'
 simp only at e e'
 rw [if_neg (by omega)] at e e'
 unfold W7 at h4 g4
 have hk:k=1∨k=2∨k=3∨k=4∨k=5:=by omega
 have hk':k'=1∨k'=2∨k'=3∨k'=4∨k'=5:=by omega
 have fin:∀ {x y:Nat × Nat × Nat},some x=some y→x=y:=fun h=>by cases h;rfl
 rcases hk with rfl|rfl|rfl|rfl|rfl<;>rcases hk' with rfl|rfl|rfl|rfl|rfl<;>simp at e e' h4 g4 ne'<;>(try split at e)<;>(try split at e')<;>(try simp at e e')<;>omega
def Bq4 (X:CX) (r:RecS) (b:List UInt8):CX :=
 match G9 X.m.length r with
 | some (j,a,_)=>{ X with m:=X.m.set j (J4 (X.m.getD j []) a b) }
 | none=>X
theorem E02 (l:List (List UInt8)) (j j':Nat) (x:List UInt8) (h:j<l.length):(l.set j x).getD j' []=if j'=j then x else l.getD j' []:=by
 rw [List.getD_eq_getElem?_getD,List.getD_eq_getElem?_getD,List.getElem?_set]
 by_cases hj:j=j'
 ·subst hj;simp [h]
 ·rw [if_neg hj,if_neg (fun e=>hj e.symm)]
section
variable {nc:Nat} {X:CX} (c:Clean nc X) {r r':RecS} (h:Rin nc r) (h':Rin nc r')
include c h
theorem Hv8:rdX X r=some (rd X r):=by
 obtain ⟨j,a,e,_⟩:=h.place c.pos
 unfold rdX rd
 rw [c.len,e]
 simp [c.bad]
theorem Bt7 (b:List UInt8):wrX X r b true=(true,Bq4 X r b):=by
 obtain ⟨j,a,e,_⟩:=h.place c.pos
 unfold wrX Bq4
 rw [c.len,e]
 simp [c.bad]
theorem Ei0 {j a n:Nat} (e:G9 nc r=some (j,a,n)):a+n≤(X.m.getD j []).length∧j<X.m.length∧n=P2 r.kind:=by
 obtain ⟨j',a',e',hj,h0,h1⟩:=h.place c.pos
 rw [e] at e';cases e'
 rw [c.len]
 by_cases hz:j=0
 ·subst hz;rw [c.own];exact ⟨h0 rfl,hj,rfl⟩
 ·rw [c.brs j (by omega) hj]
  have:=h1 (by omega)
  exact ⟨by omega,hj,rfl⟩
include h'
theorem Ac3 {b:List UInt8} (hb:b.length=P2 r.kind):rd (Bq4 X r b) r'=if r'=r then b else rd X r':=by
 obtain ⟨j,a,e,_⟩:=h.place c.pos
 obtain ⟨j',a',e',_⟩:=h'.place c.pos
 have p:=Ei0 c h e
 have p':=Ei0 c h' e'
 have es:Bq4 X r b={ X with m:=X.m.set j (J4 (X.m.getD j []) a b) }:=by unfold Bq4;rw [c.len,e]
 have el:(Bq4 X r b).m.length=nc:=by rw [es];simp [c.len]
 unfold rd
 rw [el,e',c.len,e',es]
 simp only
 rw [E02 _ _ _ _ p.2.1]
 by_cases hr:r'=r
 ·subst hr
  rw [e] at e';cases e'
  rw [if_pos rfl,if_pos rfl]
  have:=Ga2 (l:=X.m.getD j []) (b:=b) (a:=a) (by omega)
  rwa [hb] at this
 ·rw [if_neg hr]
  by_cases hj:j'=j
  ·subst hj
   rw [if_pos rfl]
   have dj:=H12 h' h hr e' e
   exact E14 (by omega) (by omega)
  ·rw [if_neg hj]
end
theorem Bt8 {nc:Nat} {X:CX} (c:Clean nc X) {r:RecS} (h:Rin nc r) {b:List UInt8} (hb:b.length=P2 r.kind) (hs:stR r.kind b≠2):Clean nc (Bq4 X r b):=by
 obtain ⟨j,a,e,_⟩:=h.place c.pos
 have p:=Ei0 c h e
 have es:Bq4 X r b={ X with m:=X.m.set j (J4 (X.m.getD j []) a b) }:=by unfold Bq4;rw [c.len,e]
 refine ⟨by rw [es];simp [c.len],c.pos,by rw [es];exact c.bad,?_,?_,?_⟩
 ·rw [es];simp only
  rw [E02 _ _ _ _ p.2.1]
  split
  ·rename_i h0;subst h0;rw [Ad4 (by omega)];exact c.own
  ·exact c.own
 ·intro i h0 h1
  rw [es];simp only
  rw [E02 _ _ _ _ p.2.1]
  split
  ·rename_i h2;subst h2;rw [Ad4 (by omega)];exact c.brs i h0 h1
  ·exact c.brs i h0 h1
 ·intro r' h1 h2 h3 h4
  rw [Ac3 c h ⟨h1,h2,h3,h4⟩ hb]
  split
  ·rename_i hr;rw [hr];exact hs
  ·exact c.ok r' h1 h2 h3 h4
theorem B97 {α:Type} (dec:List UInt8→α × Int) (z:α) {nc:Nat} {X:CX} (c:Clean nc X) {r:RecS} (h:Rin nc r) (hd:(dec (rd X r)).2=stR r.kind (rd X r)):V3 dec z X r=(dec (rd X r),X):=by
 unfold V3
 rw [Hv8 c h]
 simp only
 rw [if_neg (by rw [hd];exact c.ok r h.a h.b h.c h.d)]
abbrev vS (X:CX) (i:Int):ProcS × Int:=Q9 (rd X ⟨1,i⟩)
abbrev vF (X:CX) (i:Int):FileS × Int:=U9 (rd X ⟨2,i⟩)
abbrev vP (X:CX) (i:Int):PipeS × Int:=Q8 (rd X ⟨3,i⟩)
theorem Bg7 {nc:Nat} {i:Int} (h:0≤i∧i<8):Rin nc ⟨1,i⟩:=⟨by simp,by simp,h.1,h.2⟩
theorem Bf5 {nc:Nat} {i:Int} (h:0≤i∧i<12):Rin nc ⟨2,i⟩:=⟨by simp,by simp,h.1,h.2⟩
theorem Bh0 {nc:Nat} {i:Int} (h:0≤i∧i<3+nc):Rin nc ⟨3,i⟩:=⟨by simp,by simp,h.1,h.2⟩
theorem Az1 {nc:Nat} {X:CX} (c:Clean nc X) {i:Int} (h:0≤i∧i<8):Eb6 X i=(vS X i,X):=B97 Q9 .zero c (Bg7 h) rfl
theorem Dx3 {nc:Nat} {X:CX} (c:Clean nc X) {i:Int} (h:0≤i∧i<12):D76 X i=(vF X i,X):=B97 U9 .zero c (Bf5 h) rfl
theorem G87 {nc:Nat} {X:CX} (c:Clean nc X) {i:Int} (h:0≤i∧i<3+nc):D96 X i=(vP X i,X):=B97 Q8 .zero c (Bh0 h) rfl
theorem Di2 {f:CX→Int→CX} {X:CX}:∀ (m:Nat) (i:Int),(∀ j,i≤j→j<i+m→f X j=X)→Dh8 f m i X=X
 | 0,_,_=>rfl
 | m+1,i,h=>by
  unfold Dh8
  rw [h i (by omega) (by omega)]
  exact Di2 m (i+1) fun j h1 h2=>h j (by omega) (by omega)
theorem Hm1 {nc:Nat} {X:CX} (c:Clean nc X):Gb6 X=X:=by
 have h3:Gb3 X=X:=by
  unfold Gb3
  have e1:Er1 X=(Q8 (rd X ⟨4,0⟩),X):=B97 Q8 .zero c ⟨by simp,by simp,by simp,by simp [W7]⟩ rfl
  have e2:Ep0 X=(Ak6 (rd X ⟨5,0⟩),X):=B97 Ak6 0 c ⟨by simp,by simp,by simp,by simp [W7]⟩ rfl
  rw [e1];simp only;rw [e2]
 have hl:=c.len
 unfold Gb6 lookN Gw0 Gw9
 rw [Di2 8 0 (fun j h1 h2=>by rw [Az1 c (by omega)])]
 rw [Di2 12 0 (fun j h1 h2=>by rw [Dx3 c (by omega)])]
 rw [Di2 (3+X.m.length) 0 (fun j h1 h2=>by rw [G87 c (by omega)]),h3]
theorem Gz1 {f:FileS} (h:okF f=true):U9 (Ag7 f)=(f,1):=by
 have hk:=h
 simp only [okF,Bool.and_eq_true,Bool.or_eq_true,decide_eq_true_eq,beq_iff_eq,bne_iff_ne] at h
 have e:B43 (Ag7 f)=f:=by
  obtain ⟨a,b,c,d⟩:=f
  simp only at h
  have h1:=Z0 (x:=a) (by omega);have h2:=Z0 (x:=b) (by omega);have h3:=Z0 (x:=c) (by omega);have h4:=Z0 (x:=d) (by omega)
  simp [B43,Ag7,A66]
  exact ⟨h1,h2,h3,h4⟩
 have hz:(Ag7 f).all (·==0)=false:=by simp [Ag7,A66]
 unfold U9 isF
 rw [hz,e,hk]
 simp
section
variable {nc:Nat} {X:CX} (c:Clean nc X)
include c
abbrev Bk2 (X:CX) (i:Int) (p:ProcS):CX:=Bq4 X ⟨1,i⟩ (At8 p)
abbrev Ba8 (X:CX) (i:Int) (f:FileS):CX:=Bq4 X ⟨2,i⟩ (Ag7 f)
abbrev E19 (X:CX) (i:Int):CX:=Bq4 X ⟨1,i⟩ (List.replicate 24 0)
theorem Aq6 {i:Int} (h:0≤i∧i<8) {p:ProcS} (ok:okS p=true) (r:InS p) :
  Bs0 X i p=(true,Bk2 X i p)∧Clean nc (Bk2 X i p)∧(∀ j:Int,0≤j∧j<8→vS (Bk2 X i p) j=if j=i then (p,1) else vS X j)∧(∀ j:Int,0≤j∧j<12→vF (Bk2 X i p) j=vF X j)∧(∀ j:Int,0≤j∧j<3+nc→vP (Bk2 X i p) j=vP X j):=by
 have hl:(At8 p).length=P2 (1:Int):=by rw [Ea4];rfl
 refine ⟨by unfold Bs0;rw [ok];exact Bt7 c (Bg7 h) _,Bt8 c (Bg7 h) hl (by show (Q9 (At8 p)).2≠2;rw [G08 ok r];simp),fun j hj=>?_,fun j hj=>?_,fun j hj=>?_⟩
 ·show Q9 (rd _ _)=_
  rw [Ac3 c (Bg7 h) (Bg7 hj) hl]
  by_cases e:j=i
  ·rw [if_pos (by rw [e]),if_pos e];exact G08 ok r
  ·rw [if_neg (by simp [e]),if_neg e]
 ·show U9 (rd _ _)=_
  rw [Ac3 c (Bg7 h) (Bf5 hj) hl,if_neg (by simp)]
 ·show Q8 (rd _ _)=_
  rw [Ac3 c (Bg7 h) (Bh0 hj) hl,if_neg (by simp)]
theorem Aq2 {i:Int} (h:0≤i∧i<12) {f:FileS} (ok:okF f=true) :
  Bg1 X i f=(true,Ba8 X i f)∧Clean nc (Ba8 X i f)∧(∀ j:Int,0≤j∧j<8→vS (Ba8 X i f) j=vS X j)∧(∀ j:Int,0≤j∧j<12→vF (Ba8 X i f) j=if j=i then (f,1) else vF X j)∧(∀ j:Int,0≤j∧j<3+nc→vP (Ba8 X i f) j=vP X j):=by
 have hl:(Ag7 f).length=P2 (2:Int):=by rw [Dj9];rfl
 refine ⟨by unfold Bg1;rw [ok];exact Bt7 c (Bf5 h) _,Bt8 c (Bf5 h) hl (by show (U9 (Ag7 f)).2≠2;rw [Gz1 ok];simp),fun j hj=>?_,fun j hj=>?_,fun j hj=>?_⟩
 ·show Q9 (rd _ _)=_
  rw [Ac3 c (Bf5 h) (Bg7 hj) hl,if_neg (by simp)]
 ·show U9 (rd _ _)=_
  rw [Ac3 c (Bf5 h) (Bf5 hj) hl]
  by_cases e:j=i
  ·rw [if_pos (by rw [e]),if_pos e];exact Gz1 ok
  ·rw [if_neg (by simp [e]),if_neg e]
 ·show Q8 (rd _ _)=_
  rw [Ac3 c (Bf5 h) (Bh0 hj) hl,if_neg (by simp)]
theorem Gd1 {i:Int} (h:0≤i∧i<8) :
  Df8 X ⟨1,i⟩=(true,E19 X i)∧Clean nc (E19 X i)∧(∀ j:Int,0≤j∧j<8→vS (E19 X i) j=if j=i then (.zero,0) else vS X j)∧(∀ j:Int,0≤j∧j<12→vF (E19 X i) j=vF X j)∧(∀ j:Int,0≤j∧j<3+nc→vP (E19 X i) j=vP X j):=by
 have hl:(List.replicate 24 (0:UInt8)).length=P2 (1:Int):=rfl
 refine ⟨Bt7 c (Bg7 h) _,Bt8 c (Bg7 h) hl (by show (Q9 (List.replicate 24 0)).2≠2;rw [show (Q9 (List.replicate 24 0))=(.zero,0) from rfl];simp),fun j hj=>?_,fun j hj=>?_,fun j hj=>?_⟩
 ·show Q9 (rd _ _)=_
  rw [Ac3 c (Bg7 h) (Bg7 hj) hl]
  by_cases e:j=i
  ·rw [if_pos (by rw [e]),if_pos e];rfl
  ·rw [if_neg (by simp [e]),if_neg e]
 ·show U9 (rd _ _)=_
  rw [Ac3 c (Bg7 h) (Bf5 hj) hl,if_neg (by simp)]
 ·show Q8 (rd _ _)=_
  rw [Ac3 c (Bg7 h) (Bh0 hj) hl,if_neg (by simp)]
theorem Er6 {i:Int} (h:0≤i∧i<8):((vS X i).2=0∧(vS X i).1=.zero)∨((vS X i).2=1∧okS (vS X i).1=true):=by
 have:=c.ok ⟨1,i⟩ (by simp) (by simp) h.1 h.2
 have hk:(vS X i).2≠2:=this
 unfold vS Q9 at hk ⊢
 split
 ·exact .inl ⟨rfl,rfl⟩
 ·split
  ·rename_i h2
   unfold isS at h2
   simp only [Bool.and_eq_true] at h2
   exact .inr ⟨rfl,h2.1⟩
  ·rename_i h1 h2;simp [h1,h2] at hk
theorem H77 {i:Int} (h:0≤i∧i<12):((vF X i).2=0∧(vF X i).1=.zero)∨((vF X i).2=1∧okF (vF X i).1=true):=by
 have:=c.ok ⟨2,i⟩ (by simp) (by simp) h.1 h.2
 have hk:(vF X i).2≠2:=this
 unfold vF U9 at hk ⊢
 split
 ·exact .inl ⟨rfl,rfl⟩
 ·split
  ·rename_i h2
   unfold isF at h2
   simp only [Bool.and_eq_true] at h2
   exact .inr ⟨rfl,h2.1⟩
  ·rename_i h1 h2;simp [h1,h2] at hk
end
abbrev I4 (n e:Int) (b:Bool):List Value:=[int n,int e,.slice none 0 0,.bool b]
theorem Aq5 (e:Int):Ct A7 J6 [int e] [] fun v own=>v=.agg ⟨I4 0 e false⟩∧own []:=by
 refine Ct.of Hb7 rfl fun h r=>Tr.eq (Ha7 ..) ?_;refine Je ?_
 (refine Ja ?_;unhygienic intros)
 refine Ys fun o=>?_
 exact ⟨rfl,o.sub⟩
theorem Gj3 (ok:Bool) (n:Int):Ct A7 Ba6 [.bool ok,int n] [] fun v own=>v=.agg ⟨if ok then I4 n 0 false else I4 0 105 false⟩∧own []:=by
 refine Ct.of Hb6 rfl fun h r=>Tr.eq (G90 ..) ?_;refine Je ?_
 cases ok with
 | true =>
  (refine Ja ?_;unhygienic intros)
  refine Ys fun o=>?_
  exact ⟨rfl,o.sub⟩
 | false =>
  (refine Ja ?_;unhygienic intros)
  refine Yc (Aq5 105) ?_;rintro _ h ⟨rfl,o⟩<;>(refine Jf o ?_;unhygienic intros)
  refine Ys fun o=>?_
  exact ⟨rfl,o.sub⟩
def H1 (X:CX) (i:Int):ProcS × Int:=if (vS X i).2=1∧(vS X i).1.state=1 then ((vS X i).1,0) else (.zero,105)
theorem D34 (b k:Nat) (F:Fr) (X:CX) (ok:FrOk F) {nc:Nat} (c:Clean nc X) (i:Int) (hi:0≤i∧i<8):Ct A7 Ap3 [P0 b,int i] [cmC b k F X] fun v own=>v=.tuple ⟨[.agg ⟨B8 (H1 X i).1⟩,int (H1 X i).2]⟩∧own [cmC b k F X]:=by
 refine Ct.of G83 rfl fun h r=>Tr.eq (G66 ..) ?_;refine Je ?_
 (refine Jc ?_;unhygienic intros)
 refine Yn fun b0 h=>?_
 refine Yc (Ib5 b k F X ok) ?_;rintro _ h ⟨rfl,o⟩<;>refine Jh o ?_
 rw [Hm1 c]
 (refine Ja ?_;unhygienic intros)
 refine Yc (Br0 b k F X ok i) ?_;rintro _ h ⟨rfl,o⟩<;>refine Jh o ?_
 rw [Az1 c hi]
 dsimp only
 (refine Jc ?_;unhygienic intros)
 refine Yn fun b1 h=>?_
 (refine Jb ?_;unhygienic intros)
 refine Tr.orG (c:=(vS X i).1.state != 1) (fun hb=>?_) ?_
 ·exact Jz
 unfold H1
 by_cases h1:(vS X i).2=1∧(vS X i).1.state=1
 ·rw [if_pos h1]
  refine Yf (by simp [h1.1,h1.2]) ?_
  (refine Ja ?_;unhygienic intros)
  refine Ys fun o=>?_
  exact ⟨rfl,o.sub⟩
 ·rw [if_neg h1]
  refine Yt (by simp;by_cases h2:(vS X i).2=1<;>simp [h2] at h1 ⊢;exact h1) ?_
  (refine Ja ?_;unhygienic intros)
  refine Ys fun o=>?_
  exact ⟨rfl,o.sub⟩
def Ab8 (X:CX):Nat→Int→Int
 | 0,_=>-1
 | m+1,i=>if (vS X i).2=0 then i else Ab8 X m (i+1)
theorem Hj3 (b k:Nat) (F:Fr) (X:CX) (ok:FrOk F) {nc:Nat} (c:Clean nc X):∀ (m:Nat) (i:Int),0≤i→i+m=8 →
  CtJ E9 Ap8 Bi2 [(0,P0 b),(6,int i)] [cmC b k F X] fun v own=>v=int (Ab8 X m i)∧own [cmC b k F X]:=by
 intro m
 induction m with
 | zero =>
  intro i h0 hi
  refine CtJ.of Dw1 fun h r=>Tr.eq (D33 ..) ?_;refine Je ?_
  refine Yf (by simp;omega) ?_
  refine Ys fun o=>?_
  exact ⟨rfl,o.sub⟩
 | succ m ih =>
  intro i h0 hi
  have e1:IntKind.wrap .i64 (i+1)=i+1:=by rw [A6];omega
  refine CtJ.of Dw1 fun h r=>Tr.eq (D33 ..) ?_;refine Je ?_
  refine Yt (by simp;omega) ?_
  refine Yc (Br0 b k F X ok i) ?_;rintro _ h ⟨rfl,o⟩<;>refine Jh o ?_
  rw [Az1 c (by omega)]
  dsimp only
  (refine Jc ?_;unhygienic intros)
  refine Yn fun b1 h=>?_
  (refine Ja ?_;unhygienic intros)
  rw [show Ab8 X (m+1) i=if (vS X i).2=0 then i else Ab8 X m (i+1) from rfl]
  by_cases h1:(vS X i).2=0
  ·rw [if_pos h1]
   refine Yt (by simpa using h1) ?_
   refine Ys fun o=>?_
   exact ⟨rfl,o.sub⟩
  ·rw [if_neg h1,e1]
   refine Yf (by simpa using h1) ?_
   refine J8 [1] 1 rfl rfl ?_
   refine Yr (ih (i+1) (by omega) (by omega)) ?_
   intro v h q
   exact q
theorem Ic6 (b k:Nat) (F:Fr) (X:CX) (ok:FrOk F) {nc:Nat} (c:Clean nc X):Ct A7 Ap8 [P0 b] [cmC b k F X] fun v own=>v=int (Ab8 X 8 0)∧own [cmC b k F X]:=by
 refine Ct.of Dw1 rfl fun h r=>Tr.eq (G65 ..) ?_;refine Je ?_
 refine Yr (Hj3 b k F X ok c 8 0 (by omega) (by omega)) ?_
 intro v h q
 exact q
def Bh2:List Int→List Int→List Int
 | [],m=>m
 | f::l,m=>Bh2 l (if f>0 then m.set (f-1).toNat (m.getD (f-1).toNat 0+1) else m)
def Aa6 (n:Int) (m:List Int):Prop:=m.length=12∧∀ x ∈ m,0≤x∧x≤n
theorem Aa6.get {n:Int} {m:List Int} (h:Aa6 n m) {j:Nat} (hj:j<12):0≤m.getD j 0∧m.getD j 0≤n:=by
 have hl:=h.1
 have e:m[j]?=some m[j]:=List.getElem?_eq_getElem (by omega)
 rw [List.getD_eq_getElem?_getD,e]
 exact h.2 _ (List.getElem_mem _)
theorem Aa6.set {n:Int} {m:List Int} (h:Aa6 n m) {j:Nat} (hj:j<12):Aa6 (n+1) (m.set j (m.getD j 0+1)):=by
 refine ⟨by simpa using h.1,fun x hx=>?_⟩
 rcases List.mem_or_eq_of_mem_set hx with h2|rfl
 ·have:=h.2 x h2;omega
 ·have:=h.get hj;omega
theorem Aa6.up {n:Int} {m:List Int} (h:Aa6 n m):Aa6 (n+1) m:=⟨h.1,fun x hx=>by have:=h.2 x hx;omega⟩
theorem G02 {m:List Int} {j:Nat} (h:j<m.length) (v:Int):Gi7 (m.map int) j (int v)=some ((m.set j v).map int):=by
 rw [Gi7,show Nat.blt j (m.map int).length=true from Nat.ble_eq_true_of_le (by simp;omega),List.map_set];rfl
def Bq9 (l:List Int):Prop:=∀ f ∈ l,0≤f∧f≤12
theorem Gh5 {l:List Int} {i:Nat} (h:i<l.length):(l.map int)[i]?=some (int (l.getD i 0)):=by rw [List.getElem?_map,M9 0 h];rfl
theorem Hc6 (b k:Nat) (F:Fr) (X:CX) (b0 b1:Nat) (p:ProcS) (hf:Bq9 p.fds) (Φ:Value→(List HP→Prop)→Prop) (M:List Int)
  (next:CtJ E9 E7 Aj7 [(0,P0 b),(5,P0 b1),(31,.agg ⟨p.fds.map int⟩),(32,int 0)] [pt b1 (.cells Eb1 false (M.map int)),cmC b k F X] Φ) :
  ∀ (m i:Nat) (more:List Int),i+m=8→Aa6 i more→Bh2 (p.fds.drop i) more=M →
  CtJ E9 E7 Av1 [(0,P0 b),(3,P0 b0),(5,P0 b1),(17,.agg ⟨p.fds.map int⟩),(18,int i)] [pt b1 (.cells Eb1 false (more.map int)),pt b0 (.cells B0 false (B8 p)),cmC b k F X] Φ:=by
 intro m
 induction m with
 | zero =>
  intro i more hi hm hM
  have:i=8:=by omega
  subst this
  rw [show p.fds.drop 8=[] from List.drop_eq_nil_of_le (by rw [p.len];omega),show Bh2 [] more=more from rfl] at hM
  subst hM
  refine CtJ.of Ar1 fun h r=>Tr.eq (Du8 ..) ?_;refine Je ?_
  refine Yf (by simp) ?_
  (refine Ja ?_;unhygienic intros)
  refine J8 [0,1] 1 rfl rfl ?_
  refine Yr next ?_
  intro v h q
  exact q
 | succ m ih =>
  intro i more hi hm hM
  have e1:IntKind.wrap .i64 ((i:Int)+1)=((i+1:Nat):Int):=by rw [A6];omega
  have hil:i<p.fds.length:=by rw [p.len];omega
  have hg:=Gh5 hil
  have hd:p.fds.drop i=p.fds.getD i 0::p.fds.drop (i+1):=by
   rw [List.drop_eq_getElem_cons hil,List.getD_eq_getElem?_getD,List.getElem?_eq_getElem hil];rfl
  have hr:0≤p.fds.getD i 0∧p.fds.getD i 0≤12:=hf _ (by
   rw [List.getD_eq_getElem?_getD,List.getElem?_eq_getElem hil];exact List.getElem_mem _)
  rw [hd] at hM
  generalize p.fds.getD i 0=f at hg hr hM
  rw [show Bh2 (f::p.fds.drop (i+1)) more=Bh2 (p.fds.drop (i+1)) (if f>0 then more.set (f-1).toNat (more.getD (f-1).toNat 0+1) else more) from rfl] at hM
  refine CtJ.of Ar1 fun h r=>Tr.eq (Du8 ..) ?_;refine Je ?_
  refine Yt (by simp;omega) ?_
  rw [e1]
  refine Tr.ck (by omega) ?_
  rw [Int.toNat_natCast]
  (refine Ja ?_;unhygienic intros)
  by_cases hz:f>0
  ·have e2:IntKind.wrap .i64 (f-1)=f-1:=by rw [A6];omega
   have hj:(f-1).toNat<12:=by omega
   have hm2:=hm.get hj
   have e3:IntKind.wrap .i64 (more.getD (f-1).toNat 0+1)=more.getD (f-1).toNat 0+1:=by rw [A6];omega
   have hgm:=Gh5 (l:=more) (i:=(f-1).toNat) (by rw [hm.1];exact hj)
   rw [if_pos hz] at hM
   rw [e2]
   refine Yt (by simpa using hz) ?_
   (refine Ja ?_;unhygienic intros)
   rw [e3]
   refine Gs (fun h=>?_) (by exact G02 (by rw [hm.1];exact hj) _)
   refine Yr (ih (i+1) (more.set (f-1).toNat (more.getD (f-1).toNat 0+1)) (by omega) (by rw [show ((i+1:Nat):Int)=(i:Int)+1 by omega];exact hm.set hj) hM) ?_
   intro v h q
   exact q
  ·rw [if_neg hz] at hM
   refine Yf (by simpa using hz) ?_
   refine Yr (ih (i+1) more (by omega) (by simpa using hm.up) hM) ?_
   intro v h q
   exact q
def Z8 (X:CX) (more:List Int):List Int→Int
 | []=>0
 | f::l=>if f=0 then Z8 X more l else if (vF X (f-1)).2≠1 then 105 else if (vF X (f-1)).1.refs+more.getD (f-1).toNat 0>64 then 123 else Z8 X more l
theorem Hg7 {f:FileS} (h:okF f=true):1≤f.refs∧f.refs≤64:=by
 simp only [okF,Bool.and_eq_true,Bool.or_eq_true,decide_eq_true_eq,beq_iff_eq,bne_iff_ne] at h
 omega
theorem Hg3 {nc:Nat} {X:CX} (c:Clean nc X) {i:Int} (h:0≤i∧i<12):0≤(vF X i).1.refs∧(vF X i).1.refs≤64:=by
 rcases H77 c h with ⟨_,h1⟩|⟨_,h1⟩
 ·rw [h1];simp
 ·have:=Hg7 h1;omega
theorem G79 (b k:Nat) (F:Fr) (X:CX) (ok:FrOk F) {nc:Nat} (c:Clean nc X) (b1:Nat) (fds more:List Int) (hl:fds.length=8) (hf:Bq9 fds) (hm:Aa6 8 more) (Φ:Value→(List HP→Prop)→Prop)
  (bad:∀ (e:Int),Z8 X more fds=e→e≠0→∀ h r,Own h (cmC b k F X::r)→Φ (int e) fun l=>Own h (l++r))
  (next:Z8 X more fds=0→CtJ E9 E7 Ak0 [(0,P0 b),(57,.agg ⟨more.map int⟩),(58,int 0)] [cmC b k F X] Φ) :
  ∀ (m i:Nat),i+m=8→Z8 X more fds=Z8 X more (fds.drop i) →
  CtJ E9 E7 Aj7 [(0,P0 b),(5,P0 b1),(31,.agg ⟨fds.map int⟩),(32,int i)] [pt b1 (.cells Eb1 false (more.map int)),cmC b k F X] Φ:=by
 intro m
 induction m with
 | zero =>
  intro i hi he
  have:i=8:=by omega
  subst this
  rw [show fds.drop 8=[] from List.drop_eq_nil_of_le (by omega),show Z8 X more []=0 from rfl] at he
  have hl12:B70 (more.map int) 0 12=some (more.map int):=Bu5 (by simp [hm.1])
  refine CtJ.of Ar1 fun h r=>Tr.eq (Dt2 ..) ?_;refine Je ?_
  refine Yf (by simp) ?_
  refine Gs ?_ (by exact hl12)
  refine J8 [1] 1 rfl rfl ?_
  refine Yr (next he) ?_
  intro v h q
  exact q
 | succ m ih =>
  intro i hi he
  have e1:IntKind.wrap .i64 ((i:Int)+1)=((i+1:Nat):Int):=by rw [A6];omega
  have hil:i<fds.length:=by omega
  have hg:=Gh5 hil
  have hd:fds.drop i=fds.getD i 0::fds.drop (i+1):=by
   rw [List.drop_eq_getElem_cons hil,List.getD_eq_getElem?_getD,List.getElem?_eq_getElem hil];rfl
  have hr:0≤fds.getD i 0∧fds.getD i 0≤12:=hf _ (by
   rw [List.getD_eq_getElem?_getD,List.getElem?_eq_getElem hil];exact List.getElem_mem _)
  rw [hd] at he
  generalize fds.getD i 0=f at hg hr he
  rw [show Z8 X more (f::fds.drop (i+1))=if f=0 then Z8 X more (fds.drop (i+1)) else if (vF X (f-1)).2≠1 then 105 else if (vF X (f-1)).1.refs+more.getD (f-1).toNat 0>64 then 123 else Z8 X more (fds.drop (i+1)) from rfl] at he
  refine CtJ.of Ar1 fun h r=>Tr.eq (Dt2 ..) ?_;refine Je ?_
  refine Yt (by simp;omega) ?_
  rw [e1]
  refine Tr.ck (by omega) ?_
  rw [Int.toNat_natCast]
  (refine Ja ?_;unhygienic intros)
  by_cases hz:f=0
  ·rw [if_pos hz] at he
   refine Yt (by simpa using hz) ?_
   refine Yr (ih (i+1) (by omega) he) ?_
   intro v h q
   exact q
  rw [if_neg hz] at he
  refine Yf (by simpa using hz) ?_
  have e2:IntKind.wrap .i64 (f-1)=f-1:=by rw [A6];omega
  have hj:(f-1).toNat<12:=by omega
  rw [e2]
  refine Yc (Ez6 b k F X ok (f-1)) ?_;rintro _ h ⟨rfl,o⟩<;>refine Jh o ?_
  rw [Dx3 c (by omega)]
  dsimp only
  (refine Jc ?_;unhygienic intros)
  refine Yn fun b2 h=>?_
  (refine Ja ?_;unhygienic intros)
  by_cases h1:(vF X (f-1)).2=1
  ·rw [if_neg (by simpa using h1)] at he
   refine Yf (by simpa using h1) ?_
   have hm2:=hm.get hj
   have hgm:=Gh5 (l:=more) (i:=(f-1).toNat) (by rw [hm.1];exact hj)
   have hrf:=Hg3 c (i:=f-1) (by omega)
   have e3:IntKind.wrap .i64 ((vF X (f-1)).1.refs+more.getD (f-1).toNat 0)=(vF X (f-1)).1.refs+more.getD (f-1).toNat 0:=by rw [A6];omega
   (refine Ja ?_;unhygienic intros)
   rw [e3]
   by_cases h2:(vF X (f-1)).1.refs+more.getD (f-1).toNat 0>64
   ·rw [if_pos h2] at he
    refine Yt (by simpa using h2) ?_
    refine J8 [1] 2 rfl rfl ?_
    refine Ys fun o=>?_
    exact bad 123 he (by simp) _ _ o
   ·rw [if_neg h2] at he
    refine Yf (by simpa using h2) ?_
    refine J8 [2,1] 1 rfl rfl ?_
    refine Yr (ih (i+1) (by omega) he) ?_
    intro v h q
    exact q
  ·rw [if_pos h1] at he
   refine Yt (by simpa using h1) ?_
   refine J8 [1] 2 rfl rfl ?_
   refine Ys fun o=>?_
   exact bad 105 he (by simp) _ _ o
abbrev Dw4 (f:FileS) (n:Int):FileS:=⟨f.kind,f.pipe,f.refs+n,f.flags⟩
def A84 (more:List Int):Nat→Int→CX→CX
 | 0,_,X=>X
 | m+1,j,X=>A84 more m (j+1) (if more.getD j.toNat 0=0 then X else Ba8 X j (Dw4 (vF X j).1 (more.getD j.toNat 0)))
def Gi2 (more:List Int) (X:CX) (j:Int):Prop:=∀ i:Int,j≤i→i<12→more.getD i.toNat 0≠0→(vF X i).2=1∧(vF X i).1.refs+more.getD i.toNat 0≤64
theorem H68 {f:FileS} (h:okF f=true) {n:Int} (hn:1≤f.refs+n∧f.refs+n≤64):okF (Dw4 f n)=true:=by
 simp only [okF,Bool.and_eq_true,Bool.or_eq_true,decide_eq_true_eq,beq_iff_eq,bne_iff_ne] at h ⊢
 omega
theorem Gi2.step {nc:Nat} {X:CX} (c:Clean nc X) {more:List Int} (hm:Aa6 8 more) {j:Int} (h0:0≤j∧j<12) (s:Gi2 more X j) (hz:more.getD j.toNat 0≠0) :
  okF (Dw4 (vF X j).1 (more.getD j.toNat 0))=true∧Gi2 more (Ba8 X j (Dw4 (vF X j).1 (more.getD j.toNat 0))) (j+1):=by
 obtain ⟨s1,s2⟩:=s j (by omega) (by omega) hz
 have hg:=hm.get (j:=j.toNat) (by omega)
 have hk:okF (vF X j).1=true:=by
  rcases H77 c h0 with ⟨h1,_⟩|⟨_,h1⟩
  ·omega
  ·exact h1
 have hr:=Hg7 hk
 have k:=H68 hk (n:=more.getD j.toNat 0) (by omega)
 refine ⟨k,fun i h1 h2 hi=>?_⟩
 rw [(Aq2 c h0 k).2.2.2.1 i (by omega),if_neg (by omega)]
 exact s i (by omega) h2 hi
theorem G71 (b k:Nat) (F:Fr) (ok:FrOk F) {nc:Nat} (more:List Int) (hm:Aa6 8 more):∀ (m:Nat) (j:Int) (X:CX),Clean nc X→Gi2 more X j→0≤j→j+m=12 →
  CtJ E9 E7 Ak0 [(0,P0 b),(57,.agg ⟨more.map int⟩),(58,int j)] [cmC b k F X] fun v own=>v=int 0∧own [cmC b k F (A84 more m j X)]:=by
 intro m
 induction m with
 | zero =>
  intro j X c s h0 hj
  refine CtJ.of Ar1 fun h r=>Tr.eq (Ds9 ..) ?_;refine Je ?_
  refine Yf (by simp;omega) ?_
  refine Ys fun o=>?_
  rw [show A84 more 0 j X=X from rfl]
  exact ⟨rfl,o.sub⟩
 | succ m ih =>
  intro j X c s h0 hj
  have e1:IntKind.wrap .i64 (j+1)=j+1:=by rw [A6];omega
  have hg:=Gh5 (l:=more) (i:=j.toNat) (by rw [hm.1];omega)
  have hm2:=hm.get (j:=j.toNat) (by omega)
  rw [show A84 more (m+1) j X=A84 more m (j+1) (if more.getD j.toNat 0=0 then X else Ba8 X j (Dw4 (vF X j).1 (more.getD j.toNat 0))) from rfl]
  refine CtJ.of Ar1 fun h r=>Tr.eq (Ds9 ..) ?_;refine Je ?_
  refine Yt (by simp;omega) ?_
  rw [e1]
  (refine Ja ?_;unhygienic intros)
  by_cases hz:more.getD j.toNat 0=0
  ·rw [if_pos hz]
   refine Yt (by simpa using hz) ?_
   refine Yr (ih (j+1) X c (fun i h1 h2 h3=>s i (by omega) h2 h3) (by omega) (by omega)) ?_
   intro v h q
   exact q
  ·rw [if_neg hz]
   refine Yf (by simpa using hz) ?_
   have hrf:=Hg3 c (i:=j) (by omega)
   have e3:IntKind.wrap .i64 ((vF X j).1.refs+more.getD j.toNat 0)=(vF X j).1.refs+more.getD j.toNat 0:=by rw [A6];omega
   obtain ⟨k1,s2⟩:=s.step c hm (by omega) hz
   obtain ⟨w1,w2,_⟩:=Aq2 c (i:=j) (by omega) k1
   refine Yc (Ez6 b k F X ok j) ?_;rintro _ h ⟨rfl,o⟩<;>refine Jh o ?_
   rw [Dx3 c (by omega)]
   dsimp only
   (refine Jc ?_;unhygienic intros)
   refine Yn fun b2 h=>?_
   (refine Ja ?_;unhygienic intros)
   simp only [e3,List.set_cons_succ,List.set_cons_zero,List.drop_zero,List.take]
   refine Yc (G82 b k F X ok j (Dw4 (vF X j).1 (more.getD j.toNat 0))) ?_;rintro _ h ⟨rfl,o⟩<;>refine Jh o ?_
   rw [w1]
   dsimp only
   (refine Ja ?_;unhygienic intros)
   refine J8 [0] 1 rfl rfl ?_
   refine Yr (ih (j+1) _ w2 s2 (by omega) (by omega)) ?_
   intro v h q
   exact q
theorem Ej5:∀ (l m:List Int) (i:Nat),Bq9 l→m.length=12→(Bh2 l m).getD i 0≠0→m.getD i 0≠0∨((i:Int)+1) ∈ l
 | [],m,i,_,_,h=>.inl h
 | f::l,m,i,hf,hm,h=>by
  have hr:=hf f (by simp)
  have hl:Bq9 l:=fun x hx=>hf x (by simp [hx])
  rw [show Bh2 (f::l) m=Bh2 l (if f>0 then m.set (f-1).toNat (m.getD (f-1).toNat 0+1) else m) from rfl] at h
  by_cases hz:f>0
  ·rw [if_pos hz] at h
   rcases Ej5 l _ i hl (by simpa using hm) h with h2|h2
   ·by_cases hi:(f-1).toNat=i
    ·right
     rw [show (i:Int)+1=f by omega];simp
    ·left
     rw [List.getD_eq_getElem?_getD,List.getElem?_set_ne hi,← List.getD_eq_getElem?_getD] at h2
     exact h2
   ·exact .inr (by simp [h2])
  ·rw [if_neg hz] at h
   rcases Ej5 l m i hl hm h with h2|h2
   ·exact .inl h2
   ·exact .inr (by simp [h2])
theorem Dw5:∀ (l m:List Int) (n:Int),Bq9 l→Aa6 n m→Aa6 (n+l.length) (Bh2 l m)
 | [],m,n,_,h=>by simpa [Bh2] using h
 | f::l,m,n,hf,h=>by
  have hr:=hf f (by simp)
  have hl:Bq9 l:=fun x hx=>hf x (by simp [hx])
  rw [show Bh2 (f::l) m=Bh2 l (if f>0 then m.set (f-1).toNat (m.getD (f-1).toNat 0+1) else m) from rfl]
  have e:n+((f::l).length:Int)=(n+1)+l.length:=by simp;omega
  rw [e]
  by_cases hz:f>0
  ·rw [if_pos hz];exact Dw5 l _ (n+1) hl (h.set (by omega))
  ·rw [if_neg hz];exact Dw5 l m (n+1) hl h.up
theorem D89 {X:CX} {more:List Int}:∀ (l:List Int),Z8 X more l=0→∀ f ∈ l,f≠0→(vF X (f-1)).2=1∧(vF X (f-1)).1.refs+more.getD (f-1).toNat 0≤64
 | [],_,f,h,_=>by simp at h
 | g::l,h,f,hm,hf=>by
  rw [show Z8 X more (g::l)=if g=0 then Z8 X more l else if (vF X (g-1)).2≠1 then 105 else if (vF X (g-1)).1.refs+more.getD (g-1).toNat 0>64 then 123 else Z8 X more l from rfl] at h
  by_cases hg:g=0
  ·rw [if_pos hg] at h
   rcases List.mem_cons.1 hm with rfl|h2
   ·exact absurd hg hf
   ·exact D89 l h f h2 hf
  ·rw [if_neg hg] at h
   by_cases h1:(vF X (g-1)).2=1
   ·rw [if_neg (by simpa using h1)] at h
    by_cases h2:(vF X (g-1)).1.refs+more.getD (g-1).toNat 0>64
    ·rw [if_pos h2] at h;cases h
    ·rw [if_neg h2] at h
     rcases List.mem_cons.1 hm with rfl|h3
     ·exact ⟨h1,by omega⟩
     ·exact D89 l h f h3 hf
   ·rw [if_pos h1] at h;cases h
abbrev En1:List Int:=[0,0,0,0,0,0,0,0,0,0,0,0]
theorem Hx7:Aa6 0 En1:=⟨rfl,fun x hx=>by simp at hx;omega⟩
abbrev Ak3 (p:ProcS):List Int:=Bh2 p.fds En1
theorem Ey6 {p:ProcS} (h:Bq9 p.fds):Aa6 8 (Ak3 p):=by
 have:=Dw5 p.fds En1 0 h Hx7
 rw [p.len] at this
 exact this
theorem G40 {X:CX} {p:ProcS} (h:Bq9 p.fds) (e:Z8 X (Ak3 p) p.fds=0):Gi2 (Ak3 p) X 0:=fun i h0 h1 hi=>by
 rcases Ej5 p.fds En1 i.toNat h rfl hi with h2|h2
 ·exfalso;apply h2
  have:i.toNat=0∨i.toNat=1∨i.toNat=2∨i.toNat=3∨i.toNat=4∨i.toNat=5∨i.toNat=6∨i.toNat=7∨i.toNat=8∨i.toNat=9∨i.toNat=10∨i.toNat=11:=by omega
  rcases this with h|h|h|h|h|h|h|h|h|h|h|h<;>rw [h]<;>rfl
 ·have:=D89 p.fds e _ h2 (by omega)
  rw [show ((i.toNat:Nat):Int)+1-1=i by omega] at this
  exact this
def P7 (X:CX) (p:ProcS):Int × CX:=if Z8 X (Ak3 p) p.fds=0 then (0,A84 (Ak3 p) 12 0 X) else (Z8 X (Ak3 p) p.fds,X)
theorem Hr3 (b k:Nat) (F:Fr) (X:CX) (ok:FrOk F) {nc:Nat} (c:Clean nc X) (p:ProcS) (hf:Bq9 p.fds):Ct A7 E7 [P0 b,.agg ⟨B8 p⟩] [cmC b k F X] fun v own=>v=int (P7 X p).1∧own [cmC b k F (P7 X p).2]:=by
 refine Ct.of Ar1 rfl fun h r=>Tr.eq (Gu9 ..) ?_;refine Je ?_
 refine Yn fun b0 h=>?_
 refine Yn fun b1 h=>?_
 (refine Ja ?_;unhygienic intros)
 have hm:=Ey6 hf
 have L2:=G79 b k F X ok c b1 p.fds (Ak3 p) p.len hf hm (fun v own=>v=int (P7 X p).1∧own [cmC b k F (P7 X p).2])
  (fun e he hz h r o=>by
   unfold P7
   rw [if_neg (by rw [he];exact hz),he]
   exact ⟨rfl,o⟩)
  (fun he=>by
   have J:=G71 b k F ok (Ak3 p) hm 12 0 X c (G40 hf he) (by omega) (by omega)
   unfold P7
   rw [if_pos he]
   exact J) 8 0 rfl rfl
 refine Es2 (Hc6 b k F X b0 b1 p hf _ (Ak3 p) L2 8 0 En1 rfl (by simpa using Hx7) rfl) [0,0,0] rfl ?_
 intro v h q
 exact q
theorem Dn7 {nc:Nat} {more:List Int} (hm:Aa6 8 more):∀ (m:Nat) (j:Int) (X:CX),Clean nc X→Gi2 more X j→0≤j→j+m=12 →
  Clean nc (A84 more m j X)∧(∀ i:Int,0≤i∧i<8→vS (A84 more m j X) i=vS X i) ∧
  (∀ i:Int,0≤i∧i<12→vF (A84 more m j X) i=if j≤i∧more.getD i.toNat 0≠0 then (Dw4 (vF X i).1 (more.getD i.toNat 0),1) else vF X i)∧(∀ i:Int,0≤i∧i<3+nc→vP (A84 more m j X) i=vP X i)
 | 0,j,X,c,_,h0,hj=>⟨c,fun _ _=>rfl,fun i hi=>by rw [if_neg (by omega)];rfl,fun _ _=>rfl⟩
 | m+1,j,X,c,s,h0,hj=>by
  rw [show A84 more (m+1) j X=A84 more m (j+1) (if more.getD j.toNat 0=0 then X else Ba8 X j (Dw4 (vF X j).1 (more.getD j.toNat 0))) from rfl]
  by_cases hz:more.getD j.toNat 0=0
  ·rw [if_pos hz]
   obtain ⟨a1,a2,a3,a4⟩:=Dn7 hm m (j+1) X c (fun i h1 h2 h3=>s i (by omega) h2 h3) (by omega) (by omega)
   refine ⟨a1,a2,fun i hi=>?_,a4⟩
   rw [a3 i hi]
   by_cases hij:i=j
   ·subst hij
    rw [if_neg (by omega),if_neg (by simp only [hz];simp)]
   ·by_cases h2:j≤i∧more.getD i.toNat 0≠0
    ·rw [if_pos h2,if_pos ⟨by omega,h2.2⟩]
    ·rw [if_neg h2,if_neg (fun h3=>h2 ⟨by omega,h3.2⟩)]
  ·rw [if_neg hz]
   obtain ⟨k1,s2⟩:=s.step c hm (by omega) hz
   obtain ⟨w1,w2,w3,w4,w5⟩:=Aq2 c (i:=j) (by omega) k1
   obtain ⟨a1,a2,a3,a4⟩:=Dn7 hm m (j+1) _ w2 s2 (by omega) (by omega)
   refine ⟨a1,fun i hi=>by rw [a2 i hi,w3 i hi],fun i hi=>?_,fun i hi=>by rw [a4 i hi,w5 i hi]⟩
   rw [a3 i hi,w4 i hi]
   by_cases hij:i=j
   ·subst hij
    rw [if_neg (by omega),if_pos rfl,if_pos ⟨by omega,hz⟩]
   ·rw [if_neg hij]
    by_cases h2:j≤i∧more.getD i.toNat 0≠0
    ·rw [if_pos h2,if_pos ⟨by omega,h2.2⟩]
    ·rw [if_neg h2,if_neg (fun h3=>h2 ⟨by omega,h3.2⟩)]
theorem He5 (l:List UInt8) (i:Nat):0≤byI l i∧byI l i<256:=by
 have:=(l.getD i 0).toNat_lt
 unfold byI;omega
theorem Et8 (l:List UInt8) (j:Nat):0≤two l j∧two l j≤65535:=by
 have:=He5 l j;have:=He5 l (j+1)
 unfold two;omega
theorem Bi5 (l:List UInt8):InS (Q9 l).1:=by
 unfold Q9
 split
 ·exact ⟨by simp,by simp,by simp,by simp⟩
 ·split
  ·exact ⟨Et8 _ _,Et8 _ _,Et8 _ _,Et8 _ _⟩
  ·exact ⟨by simp,by simp,by simp,by simp⟩
theorem Es0 {p:ProcS} (h:okS p=true):Bq9 p.fds:=fun f hf=>by
 unfold okS at h
 simp only [Bool.and_eq_true,Bool.not_eq_true',List.any_eq_false] at h
 have:=h.2.2.1 f hf
 simp at this;omega
abbrev Au8 (p:ProcS) (i:Int):ProcS:=⟨p.state,i+1,p.group,p.code,0,p.mask,p.ignored,p.caught,p.fds,p.len⟩
theorem E29 {p:ProcS} (h:okS p=true) (h1:p.state=1) {i:Int} (hi:0≤i∧i<8):okS (Au8 p i)=true:=by
 unfold okS at h ⊢
 rw [if_neg (by rw [h1];decide)] at h
 rw [if_neg (show ¬ (Au8 p i).state=2 by show ¬ p.state=2;rw [h1];decide)]
 simp only [Bool.and_eq_true,Bool.not_eq_true',Bool.or_eq_false_iff,decide_eq_false_iff_not] at h ⊢
 obtain ⟨⟨⟨⟨⟨⟨⟨⟨a1,a2⟩,a3⟩,a4⟩,a5⟩,a6⟩,a7⟩,a8⟩,⟨⟨⟨⟨b1,b2⟩,b3⟩,b4⟩,b5⟩,d1,d2⟩:=h
 exact ⟨⟨⟨⟨⟨⟨⟨⟨a1,a2⟩,by show ¬ i+1<0;omega⟩,by show ¬ i+1>8;omega⟩,a5⟩,a6⟩,a7⟩,a8⟩,⟨⟨⟨⟨by simp [Ie6],b2⟩,b3⟩,b4⟩,b5⟩,d1,d2⟩
def A74 (X:CX) (i:Int):List Value × CX :=
 if (H1 X i).2≠0 then (I4 0 (H1 X i).2 false,X)
 else if Ab8 X 8 0<0 then (I4 0 111 false,X)
 else if (P7 X (H1 X i).1).1≠0 then (I4 0 (P7 X (H1 X i).1).1 false,X)
 else (I4 (Ab8 X 8 0) 0 false,Bk2 (P7 X (H1 X i).1).2 (Ab8 X 8 0) (Au8 (H1 X i).1 i))
theorem Du9 {X:CX}:∀ (m:Nat) (i:Int),0≤i→i+m=8→Ab8 X m i=-1∨(0≤Ab8 X m i∧Ab8 X m i<8∧(vS X (Ab8 X m i)).2=0)
 | 0,i,_,_=>.inl rfl
 | m+1,i,h0,hi=>by
  rw [show Ab8 X (m+1) i=if (vS X i).2=0 then i else Ab8 X m (i+1) from rfl]
  split
  ·rename_i h;exact .inr ⟨h0,by omega,h⟩
  ·exact Du9 m (i+1) (by omega) (by omega)
theorem B48 {nc:Nat} {X:CX} (c:Clean nc X) {i:Int} (hi:0≤i∧i<8) (h:(H1 X i).2=0):H1 X i=((vS X i).1,0)∧(vS X i).1.state=1∧okS (vS X i).1=true∧(vS X i).2=1:=by
 unfold H1 at h ⊢
 split
 ·rename_i h1
  refine ⟨rfl,h1.2,?_,h1.1⟩
  rcases Er6 c hi with ⟨h2,_⟩|⟨_,h2⟩
  ·rw [h1.1] at h2;cases h2
  ·exact h2
 ·rename_i h1;rw [if_neg h1] at h;cases h
theorem Gl4 {X:CX} {p:ProcS} (h:(P7 X p).1≠0):(P7 X p).2=X:=by
 unfold P7 at h ⊢
 split
 ·rename_i h1;rw [if_pos h1] at h;exact absurd rfl h
 ·rfl
theorem Dl1 {nc:Nat} {X:CX} (c:Clean nc X) {p:ProcS} (hf:Bq9 p.fds) (h:(P7 X p).1=0):Clean nc (P7 X p).2∧(∀ i:Int,0≤i∧i<8→vS (P7 X p).2 i=vS X i) ∧
  (∀ i:Int,0≤i∧i<12→vF (P7 X p).2 i=if (Ak3 p).getD i.toNat 0≠0 then (Dw4 (vF X i).1 ((Ak3 p).getD i.toNat 0),1) else vF X i)∧(∀ i:Int,0≤i∧i<3+nc→vP (P7 X p).2 i=vP X i):=by
 unfold P7 at h ⊢
 split
 ·rename_i he
  obtain ⟨a1,a2,a3,a4⟩:=Dn7 (Ey6 hf) 12 0 X c (G40 hf he) (by omega) (by omega)
  refine ⟨a1,a2,fun i hi=>?_,a4⟩
  rw [a3 i hi]
  by_cases h2:(Ak3 p).getD i.toNat 0≠0
  ·rw [if_pos h2,if_pos ⟨hi.1,h2⟩]
  ·rw [if_neg h2,if_neg (fun h3=>h2 h3.2)]
 ·rename_i he;rw [if_neg he] at h;exact absurd h he
theorem Hf1 (b k:Nat) (F:Fr) (X:CX) (ok:FrOk F) {nc:Nat} (c:Clean nc X) (i:Int) (hi:0≤i∧i<8):Ct A7 Bn3 [P0 b,int i] [cmC b k F X] fun v own=>v=.agg ⟨(A74 X i).1⟩∧own [cmC b k F (A74 X i).2]:=by
 have e1:IntKind.wrap .i64 (i+1)=i+1:=by rw [A6];omega
 unfold A74
 refine Ct.of Hd9 rfl fun h r=>Tr.eq (G76 ..) ?_;refine Je ?_
 refine Yn fun b0 h=>?_
 refine Yc (D34 b k F X ok c i hi) ?_;rintro _ h ⟨rfl,o⟩<;>refine Jh o ?_
 (refine Jc ?_;unhygienic intros)
 refine Yn fun b1 h=>?_
 (refine Ja ?_;unhygienic intros)
 by_cases h0:(H1 X i).2=0
 case neg =>
  rw [if_pos h0]
  refine Yt (by simpa using h0) ?_
  refine Yc (Aq5 (H1 X i).2) ?_;rintro _ h ⟨rfl,o⟩<;>(refine Jf o ?_;unhygienic intros)
  refine Ys fun o=>?_
  exact ⟨rfl,o.sub⟩
 rw [if_neg (by simpa using h0)]
 refine Yf (by simpa using h0) ?_
 obtain ⟨s1,s2,s3,s4⟩:=B48 c hi h0
 refine Yc (Ic6 b k F X ok c) ?_;rintro _ h ⟨rfl,o⟩<;>refine Jh o ?_
 (refine Ja ?_;unhygienic intros)
 by_cases h1:Ab8 X 8 0<0
 ·rw [if_pos h1]
  refine Yt (by simpa using h1) ?_
  refine Yc (Aq5 111) ?_;rintro _ h ⟨rfl,o⟩<;>(refine Jf o ?_;unhygienic intros)
  refine Ys fun o=>?_
  exact ⟨rfl,o.sub⟩
 rw [if_neg h1]
 refine Yf (by simpa using h1) ?_
 have hf:Bq9 (H1 X i).1.fds:=by rw [s1];exact Es0 s3
 have hok:okS (Au8 (H1 X i).1 i)=true:=by rw [s1];exact E29 s3 s2 hi
 have hin:InS (Au8 (H1 X i).1 i):=by
  have:=Bi5 (rd X ⟨1,i⟩)
  rw [s1]
  exact ⟨by simp,this.b,this.c,this.d⟩
 generalize (H1 X i).1=p at hf hok hin
 (refine Ja ?_;unhygienic intros)
 refine Yc (Hr3 b k F X ok c p hf) ?_;rintro _ h ⟨rfl,o⟩<;>refine Jh o ?_
 (refine Ja ?_;unhygienic intros)
 by_cases h2:(P7 X p).1=0
 case neg =>
  rw [if_pos h2]
  rw [Gl4 h2] at o ⊢
  refine Yt (by simpa using h2) ?_
  refine Yc (Aq5 (P7 X p).1) ?_;rintro _ h ⟨rfl,o⟩<;>(refine Jf o ?_;unhygienic intros)
  refine Ys fun o=>?_
  exact ⟨rfl,o.sub⟩
 rw [if_neg (by simpa using h2)]
 refine Yf (by simpa using h2) ?_
 have cs:=(Dl1 c hf h2).1
 have hfr:0≤Ab8 X 8 0∧Ab8 X 8 0<8:=by
  rcases Du9 (X:=X) 8 0 (by omega) (by omega) with h|h<;>omega
 obtain ⟨w1,_⟩:=Aq6 cs hfr hok hin
 (refine Ja ?_;unhygienic intros)
 rw [e1,show ((B8 p).set 1 (int (i+1))).set 4 (int 0)=B8 (Au8 p i) from rfl]
 generalize Au8 p i=q at hok hin w1
 (refine Ja ?_;unhygienic intros)
 refine Yc (Dx4 b k F (P7 X p).2 ok (Ab8 X 8 0) q) ?_;rintro _ h ⟨rfl,o⟩<;>refine Jh o ?_
 rw [w1]
 dsimp only
 (refine Ja ?_;unhygienic intros)
 refine Yc (Gj3 true (Ab8 X 8 0)) ?_;rintro _ h ⟨rfl,o⟩<;>refine Jh o ?_
 rw [if_pos trivial]
 (refine Ja ?_;unhygienic intros)
 refine Ys fun o=>?_
 exact ⟨rfl,o.sub⟩
abbrev Bc3 (s:Int × ProcS):List Value:=int s.1::B8 s.2
def J5 (X:CX) (q:Int→ProcS→Bool):Nat→Int→List (Int × ProcS)
 | 0,_=>[]
 | m+1,i=>if (vS X i).2=1∧q i (vS X i).1=true then (i,(vS X i).1)::J5 X q m (i+1) else J5 X q m (i+1)
theorem D63 (X:CX) (q:Int→ProcS→Bool):∀ (m:Nat) (i:Int),(J5 X q m i).length≤m
 | 0,i=>by simp [J5]
 | m+1,i=>by
  have:=D63 X q m (i+1)
  unfold J5;split<;>simp<;>omega
theorem Ae3 (j:Int) (p:ProcS):(int j::B8 p).length=17:=by simp [Bv1 p,p.len]
instance {j:Int} {p:ProcS}:LenC (int j::B8 p) 17:=⟨Ae3 j p⟩
instance {j:Int} {p:ProcS}:PartC (int j::B8 p) 0 17 (int j::B8 p):=⟨Bu5 (Ae3 j p)⟩
instance {j:Int} {p:ProcS} {cs:List Value} [k:LenC cs 17]:SetsC cs 0 (int j::B8 p) (int j::B8 p):=⟨Bv2 k.ok (Ae3 j p) (by simp [Value.oneCell])⟩
theorem Hb9 (b k:Nat) (F:Fr) (X:CX) (ok:FrOk F) {nc:Nat} (c:Clean nc X) (pr:HP) (g:FuncId) (cp:List Value) (q:Int→ProcS→Bool)
  (hq:∀ (j:Int) (p:ProcS),Ct A7 g (.agg ⟨int j::B8 p⟩::cp) [pr] fun v own=>v=.bool (q j p)∧own [pr]):∀ (m:Nat) (i:Int) (acc:List (Int × ProcS)) (a:Option Addr) (ac:Nat),0≤i→i+m=8→acc.length≤i →
  CtJ E9 U7 Ax7 [(0,P0 b),(1,.func (.func g) ⟨[]⟩ ⟨cp⟩),(5,.slice a acc.length ac),(10,int i)] [slC false G4 17 a acc.length ac (acc.flatMap Bc3),cmC b k F X,pr] fun v own =>
   ∃ a' c',v=.slice a' (acc++J5 X q m i).length c'∧own [slC false G4 17 a' (acc++J5 X q m i).length c' ((acc++J5 X q m i).flatMap Bc3),cmC b k F X,pr]:=by
 intro m
 induction m with
 | zero =>
  intro i acc a ac h0 hi ha
  refine CtJ.of Dp3 fun h r=>Tr.eq (Dt7 ..) ?_;refine Je ?_
  refine Yf (by simp;omega) ?_
  refine Ys fun o=>?_
  rw [show J5 X q 0 i=[] from rfl,List.append_nil]
  exact ⟨a,ac,rfl,o.sub⟩
 | succ m ih =>
  intro i acc a ac h0 hi ha
  have e1:IntKind.wrap .i64 (i+1)=i+1:=by rw [A6];omega
  refine CtJ.of Dp3 fun h r=>Tr.eq (Dt7 ..) ?_;refine Je ?_
  refine Yt (by simp;omega) ?_
  rw [e1]
  refine Yc (Br0 b k F X ok i) ?_;rintro _ h ⟨rfl,o⟩<;>refine Jh o ?_
  rw [Az1 c (by omega)]
  dsimp only
  generalize hp:(vS X i).1=p
  simp only [List.append_nil,List.nil_append]
  (refine Jc ?_;unhygienic intros)
  refine Yn fun b1 h=>?_
  (refine Jc ?_;unhygienic intros)
  refine Yn fun b2 h=>?_
  (refine Jb ?_;unhygienic intros)
  rw [show J5 X q (m+1) i=if (vS X i).2=1∧q i (vS X i).1=true then (i,(vS X i).1)::J5 X q m (i+1) else J5 X q m (i+1) from rfl,hp]
  by_cases h1:(vS X i).2=1
  ·refine Yb (Yt (by simpa using h1) ?_)
   (refine Jb ?_;unhygienic intros)
   simp only [List.nil_append]
   refine Yc (hq i p) ?_;rintro _ h ⟨rfl,o⟩<;>refine Jh o ?_
   (refine Jb ?_;unhygienic intros)
   refine Ys fun o=>(?_:Tr _ _ _ _) o;refine Je ?_
   by_cases h2:q i p=true
   ·rw [if_pos ⟨h1,h2⟩]
    refine Yt h2 ?_
    (refine Jc ?_;unhygienic intros)
    refine Yn fun b3 h=>?_
    (refine Ja ?_;unhygienic intros)
    refine Tr.xCellsB (xs:=int i::B8 p) (D69 (Bu5 (Ae3 i p))) ?_
    (refine Ja ?_;unhygienic intros)
    refine Tr.xApd ⟨Ae3 i p,by simp [Value.oneCell],by simp only [A9];omega⟩ fun a' c' h=>?_
    rw [show acc.flatMap Bc3++(int i::B8 p)=(acc++[(i,p)]).flatMap Bc3 by simp,show acc.length+1=(acc++[(i,p)]).length by simp]
    refine J8 [5,4,1] 3 rfl rfl ?_
    refine Yr (ih (i+1) (acc++[(i,p)]) a' c' (by omega) (by omega) (by simp;omega)) ?_
    intro v h q
    rw [List.append_assoc] at q
    exact q
   ·rw [if_neg (fun h3=>h2 h3.2)]
    refine Yf (by simpa using h2) ?_
    refine J8 [4,3,0] 2 rfl rfl ?_
    refine Yr (ih (i+1) acc a ac (by omega) (by omega) (by omega)) ?_
    intro v h q
    exact q
  ·rw [if_neg (fun h3=>h1 h3.1)]
   refine Yb (Yf (by simpa using h1) ?_)
   refine Ys fun o=>(?_:Tr _ _ _ _) o;refine Je ?_
   refine Yf rfl ?_
   refine J8 [3,2,2] 2 rfl rfl ?_
   refine Yr (ih (i+1) acc a ac (by omega) (by omega) (by omega)) ?_
   intro v h q
   exact q
theorem E48 (b k:Nat) (F:Fr) (X:CX) (ok:FrOk F) {nc:Nat} (c:Clean nc X) (pr:HP) (g:FuncId) (cp:List Value) (q:Int→ProcS→Bool)
  (hq:∀ (j:Int) (p:ProcS),Ct A7 g (.agg ⟨int j::B8 p⟩::cp) [pr] fun v own=>v=.bool (q j p)∧own [pr]) :
  Ct A7 U7 [P0 b,.func (.func g) ⟨[]⟩ ⟨cp⟩] [cmC b k F X,pr] fun v own=>∃ a' c',v=.slice a' (J5 X q 8 0).length c'∧own [slC false G4 17 a' (J5 X q 8 0).length c' ((J5 X q 8 0).flatMap Bc3),cmC b k F X,pr]:=by
 refine Ct.of Dp3 rfl fun h r=>Tr.eq (Gv7 ..) ?_;refine Je ?_
 refine G7 false G4 17 (by omega) ?_
 have J:=Hb9 b k F X ok c pr g cp q hq 8 0 [] none 0 (by omega) (by omega) (by simp)
 simp only [List.nil_append,List.length_nil,List.flatMap_nil] at J
 refine Yr J ?_
 intro v h q
 exact q
theorem H03 (bi:Nat) (i:Int) (hi:0≤i∧i<8) (j:Int) (p:ProcS):Ct A7 A87 [.agg ⟨int j::B8 p⟩,P0 bi] [pt bi (.cells B3 false [int i])] fun v own=>v=.bool (p.parent==i+1)∧own [pt bi (.cells B3 false [int i])]:=by
 have e1:IntKind.wrap .i64 (i+1)=i+1:=by rw [A6];omega
 refine Ct.of Gr2 rfl fun h r=>Tr.eq (Gq3 ..) ?_;refine Je ?_
 (refine Ja ?_;unhygienic intros)
 refine Ys fun o=>?_
 rw [e1]
 exact ⟨rfl,o.sub⟩
theorem E28 (j:Int) (p:ProcS):Ct A7 Ad9 [.agg ⟨int j::B8 p⟩] [] fun v own=>v=.bool (p.state != 2)∧own []:=by
 refine Ct.of Eu9 rfl fun h r=>Tr.eq (Ev6 ..) ?_;refine Je ?_
 (refine Ja ?_;unhygienic intros)
 refine Ys fun o=>?_
 exact ⟨rfl,o.sub⟩
def Ea9 (X:CX) (n:Nat):List (Int × ProcS)→List Value × CX
 | []=>(if n=0 then I4 0 110 false else I4 0 0 true,X)
 | s::l=>if s.2.state=2 then (I4 (256*s.1+s.2.code) 0 false,E19 X s.1) else Ea9 X n l
def E68 (X:CX) (i:Int):List Value × CX :=
 if (H1 X i).2≠0 then (I4 0 (H1 X i).2 false,X)
 else Ea9 X (J5 X (fun _ p=>p.parent==i+1) 8 0).length (J5 X (fun _ p=>p.parent==i+1) 8 0)
theorem Df0 {nc:Nat} {X:CX} (c:Clean nc X) (q:Int→ProcS→Bool):∀ (m:Nat) (i:Int),0≤i→i+m=8→∀ s ∈ J5 X q m i,0≤s.1∧s.1<8∧okS s.2=true
 | 0,i,_,_,s,hs=>by simp [J5] at hs
 | m+1,i,h0,hi,s,hs=>by
  rw [show J5 X q (m+1) i=if (vS X i).2=1∧q i (vS X i).1=true then (i,(vS X i).1)::J5 X q m (i+1) else J5 X q m (i+1) from rfl] at hs
  split at hs
  ·rename_i h1
   rcases List.mem_cons.1 hs with rfl|h2
   ·refine ⟨h0,by simp only;omega,?_⟩
    rcases Er6 c (i:=i) (by omega) with ⟨h3,_⟩|⟨_,h3⟩
    ·rw [h1.1] at h3;cases h3
    ·exact h3
   ·exact Df0 c q m (i+1) (by omega) (by omega) s h2
  ·exact Df0 c q m (i+1) (by omega) (by omega) s hs
theorem H44 {p:ProcS} (h:okS p=true):0≤p.code∧p.code≤255:=by
 unfold okS at h
 simp only [Bool.and_eq_true,Bool.not_eq_true',Bool.or_eq_false_iff,decide_eq_false_iff_not] at h
 have:=h.1
 omega
abbrev Hk4:List Value:=[int 0,int 0,.slice none 0 0,.bool false]
theorem Hl1 (b k:Nat) (F:Fr) (X:CX) (ok:FrOk F) {nc:Nat} (c:Clean nc X) (b4:Nat) (L:List (Int × ProcS)) (hL:∀ s ∈ L,0≤s.1∧s.1<8∧okS s.2=true) (h8:L.length≤8) (a:Option Addr) (ac:Nat):∀ (m i:Nat),i+m=L.length →
  CtJ E9 Ai1 Bi1 [(0,P0 b),(4,P0 b4),(7,.slice a L.length ac),(23,.slice a L.length ac),(24,int L.length),(25,int i)] [slC false G4 17 a L.length ac (L.flatMap Bc3),pt b4 (.cells Q5 false Hk4),cmC b k F X] fun v own =>
   v=.agg ⟨(Ea9 X L.length (L.drop i)).1⟩∧own [cmC b k F (Ea9 X L.length (L.drop i)).2]:=by
 intro m
 induction m with
 | zero =>
  intro i hi
  rw [show L.drop i=[] from List.drop_eq_nil_of_le (by omega),show Ea9 X L.length []=(if L.length=0 then I4 0 110 false else I4 0 0 true,X) from rfl]
  refine CtJ.of Dv6 fun h r=>Tr.eq (D18 ..) ?_;refine Je ?_
  refine Yf (by simp;omega) ?_
  by_cases hz:L.length=0
  ·rw [if_pos hz]
   refine Yt (by simp [hz]) ?_
   refine Yc (Aq5 110) ?_;rintro _ h ⟨rfl,o⟩<;>(refine Jf o ?_;unhygienic intros)
   refine Ys fun o=>?_
   exact ⟨rfl,o.sub⟩
  ·rw [if_neg hz]
   refine Yf (by simpa using hz) ?_
   (refine Ja ?_;unhygienic intros)
   refine Ys fun o=>?_
   exact ⟨rfl,o.sub⟩
 | succ m ih =>
  intro i hi
  have hil:i<L.length:=by omega
  have e1:IntKind.wrap .i64 ((i:Int)+1)=((i+1:Nat):Int):=by rw [A6];omega
  have hg:L[i]?=some L[i]:=List.getElem?_eq_getElem hil
  have hd:L.drop i=L[i]::L.drop (i+1):=List.drop_eq_getElem_cons hil
  obtain ⟨r1,r2,r3⟩:=hL _ (List.getElem_mem hil)
  rw [hd]
  generalize L[i]=s at hg r1 r2 r3
  obtain ⟨j,p⟩:=s
  simp only at r1 r2 r3
  rw [show Ea9 X L.length ((j,p)::L.drop (i+1))=if p.state=2 then (I4 (256*j+p.code) 0 false,E19 X j) else Ea9 X L.length (L.drop (i+1)) from rfl]
  have hpart:=Az3 (f:=Bc3) (k:=17) (fun x=>Ae3 x.1 x.2) hg
  have hlen:=P6 (f:=Bc3) (k:=17) (fun x=>Ae3 x.1 x.2) L
  have hc:=H44 r3
  have e2:IntKind.wrap .i64 (256*j)=256*j:=by rw [A6];omega
  have e3:IntKind.wrap .i64 (256*j+p.code)=256*j+p.code:=by rw [A6];omega
  refine CtJ.of Dv6 fun h r=>Tr.eq (D18 ..) ?_;refine Je ?_
  refine Yt (by simp;omega) ?_
  rw [e1]
  refine W5 0 rfl fun h1 h2 h3=>?_
  (refine Jc ?_;unhygienic intros;repeat(refine Gw ?_;rintro px rfl;refine Jc ?_;unhygienic intros))
  rw [Int.toNat_natCast]
  refine Tr.xAggS (xs:=Bc3 (j,p)) ⟨by omega,by omega,hpart⟩ ?_
  refine Yn fun b2 h=>?_
  (refine Ja ?_;unhygienic intros)
  refine Yc (E28 j p) ?_;rintro _ h ⟨rfl,o⟩<;>refine Jh o ?_
  (refine Ja ?_;unhygienic intros)
  by_cases hz:p.state=2
  ·rw [if_pos hz]
   refine Yt (by simp [hz]) ?_
   (refine Ja ?_;unhygienic intros)
   refine Yc (G15 b k F X ok j) ?_;rintro _ h ⟨rfl,o⟩<;>refine Jh o ?_
   rw [(Gd1 c ⟨r1,r2⟩).1]
   dsimp only
   (refine Ja ?_;unhygienic intros)
   rw [e2,e3]
   refine Yc (Gj3 true (256*j+p.code)) ?_;rintro _ h ⟨rfl,o⟩<;>refine Jh o ?_
   rw [if_pos trivial]
   (refine Ja ?_;unhygienic intros)
   refine Ys fun o=>?_
   exact ⟨rfl,o.sub⟩
  ·rw [if_neg hz]
   refine Yf (by simp [hz]) ?_
   refine J8 [1,1,1] 1 rfl rfl ?_
   refine Yr (ih (i+1) (by omega)) ?_
   intro v h q
   exact q
theorem Hf7 (b k:Nat) (F:Fr) (X:CX) (ok:FrOk F) {nc:Nat} (c:Clean nc X) (i:Int) (hi:0≤i∧i<8):Ct A7 Ai1 [P0 b,int i] [cmC b k F X] fun v own=>v=.agg ⟨(E68 X i).1⟩∧own [cmC b k F (E68 X i).2]:=by
 unfold E68
 refine Ct.of Dv6 rfl fun h r=>Tr.eq (G80 ..) ?_;refine Je ?_
 refine Yn fun bi h=>?_
 refine Yn fun b4 h=>?_
 (refine Ja ?_;unhygienic intros)
 refine Yc (D34 b k F X ok c i hi) ?_;rintro _ h ⟨rfl,o⟩<;>refine Jh o ?_
 (refine Jc ?_;unhygienic intros)
 refine Yn fun b2 h=>?_
 (refine Ja ?_;unhygienic intros)
 by_cases h0:(H1 X i).2=0
 case neg =>
  rw [if_pos h0]
  refine Yt (by simpa using h0) ?_
  refine Yc (Aq5 (H1 X i).2) ?_;rintro _ h ⟨rfl,o⟩<;>(refine Jf o ?_;unhygienic intros)
  refine Ys fun o=>?_
  exact ⟨rfl,o.sub⟩
 rw [if_neg (by simpa using h0)]
 refine Yf (by simpa using h0) ?_
 refine Yc (E48 b k F X ok c (pt bi (.cells B3 false [int i])) A87 [P0 bi] (fun _ p=>p.parent==i+1) (fun j p=>H03 bi i hi j p)) ?_;rintro _ h ⟨a,ac,rfl,o⟩<;>refine Jh o ?_
 (refine Ja ?_;unhygienic intros)
 refine J8 [0,3,0] 2 rfl rfl ?_
 refine Yr (Hl1 b k F X ok c b4 _ (Df0 c _ 8 0 (by omega) (by omega)) (D63 X _ 8 0) a ac _ 0 (Nat.zero_add _)) ?_
 intro v h q
 exact q
def p0:ProcS:=⟨1,0,0,0,0,0,0,0,[1,0,0,0,0,0,0,0],rfl⟩
def f0:FileS:=⟨3,0,1,0⟩
def Ax0:List UInt8:=J4 (J4 Aa2 0 (Eg4 p0)) 192 (Ag7 f0)
theorem Bw2:Ax0.length=492:=by kernel_rfl
theorem El3:(Eg4 p0).length=24:=by kernel_rfl
theorem Gk2 (l b:List UInt8) (a:Nat):(A0 l).take a++A0 b++(A0 l).drop (a+(A0 b).length)=A0 (J4 l a b):=by
 rw [S4]
 simp [J4,A0,List.map_take,List.map_drop]
theorem H74 {b:List UInt8} (h:0<b.length):A0 b≠[]:=by
 intro e
 have e2:=congrArg List.length e
 rw [S4] at e2
 have e3:b.length=0:=e2
 omega
theorem Gz7:Ct A7 A90 [] [] fun v own=>∃ a,v=.slice a 492 492∧own [slC false A3 1 a 492 492 (A0 Ax0)]:=by
 refine Ct.of Gp2 rfl fun h r=>Tr.eq (Gp3 ..) ?_;refine Je ?_
 refine Yc (Gn2) ?_;rintro _ h ⟨rfl,o⟩<;>refine Jh o ?_
 (refine Jc ?_;unhygienic intros)
 rw [A19,Z2]
 refine Tr.ck (by simp [A9]) ?_
 refine Yn fun b0 h=>?_
 refine Dm7 (n:=492) 0 rfl (by rw [S4];exact Z2) ?_
 refine Je ?_
 refine Yn fun b1 h=>?_
 (refine Ja ?_;unhygienic intros)
 rw [show ([int 1,int 0,int 0,int 0,int 0,int 0,int 0,int 0,int 0,int 0,int 0,int 0,int 0,int 0,int 0,int 0]:List Value).set 8 (int 1)=B8 p0 from rfl]
 (refine Ja ?_;unhygienic intros)
 refine Yc (Hw5 p0) ?_;rintro _ h ⟨rfl,o⟩<;>refine Jh o ?_
 (refine Ja ?_;unhygienic intros)
 rw [show List.take (min (bs (Eg4 p0)).size 492) (bs (Eg4 p0)).data.toList=Eg4 p0 by kernel_rfl]
 rw [show B2 (J0 b0)=(B2 (J0 b0)).add 0 from rfl]
 refine Tr.xPAggS (cs':=A0 (J4 Aa2 0 (Eg4 p0))) ⟨H74 (by rw [El3];omega),by rw [S4,S4,El3,Z2];omega,Ae1 _,Gk2 _ _ 0⟩ fun h=>?_
 (refine Ja ?_;unhygienic intros)
 refine Yc (Hu9 f0) ?_;rintro _ h ⟨rfl,o⟩<;>refine Jh o ?_
 (refine Ja ?_;unhygienic intros)
 rw [show List.take (min (bs (Ag7 f0)).size (492-192)) (bs (Ag7 f0)).data.toList=Ag7 f0 by kernel_rfl]
 rw [Gg4 (by omega),Ep1]
 refine Tr.xPAggS (cs':=A0 Ax0) ⟨H74 (by rw [Dj9];omega),by rw [S4,S4,Ad4 (by rw [El3,Z2];omega),Dj9,Z2];omega,Ae1 _,Gk2 _ _ 192⟩ fun h=>?_
 refine Ys fun o=>?_
 exact ⟨_,rfl,o.sub⟩
theorem Ho8 {S:KS} (kS:Like S) {s:Nat} {env:Int} (e:EnvP s env) {j:Nat} {cap:Int} {lo n:Nat} (hc:H86[j]?=some cap) (hr:(rgP s)[j]?=some (lo,n)) {b:List UInt8} (hb:b.length≤n) :
  W1 S env ⟨2,cap,0,0,0,0,b⟩=((0,0,[]),Bm6 S (J4 S.mem lo b)):=by
 have F:=Gv4 kS e
 have hroom:lo+n≤S.mem.length:=Ec6 kS e.hs env j lo n hr
 have hp:=F.pl j cap lo n hc hr 0 b.length 2 (.inr rfl) (by omega)
 have hs:A97 S.mem ((lo+0:Nat):Int) b=some (J4 S.mem lo b):=by
  unfold A97
  rw [if_pos (by omega),Int.toNat_natCast,Nat.add_zero];rfl
 have ew:Aj4 S.tabs S.regs S.mem env cap 0 b=(0,J4 S.mem lo b):=by
  unfold Aj4
  rw [show O5 S.tabs S.regs env cap 2 0 (b.length:Int)=(((lo+0:Nat):Int),0) from hp]
  rw [if_neg (by simp),hs]
 unfold W1
 rw [if_neg (show ¬ (env<0∨env≥(S.envs.length:Int)) from F.env)]
 unfold kDo
 rw [if_neg (show ¬ ((2:Int)=1) by decide),if_pos rfl,ew]
def q1:PipeS:=⟨0,0,1,1,List.replicate 32 0,rfl⟩
def S1:KS:=Bm6 S0 (J4 S0.mem 0 Ax0)
def S2:KS:=Bm6 S1 (J4 S1.mem 512 (I5 q1))
def S3:KS:=Bm6 S2 (J4 S2.mem 1856 (I5 q1))
theorem Ax4:(I5 q1).length=40:=Dj1 q1.len
theorem Gc5:Like S1:=D56 Du1 (by rw [Ad4 (by rw [Bw2,Du1.mem];omega)];exact Du1.mem)
theorem Gb0:Like S2:=D56 Gc5 (by rw [Ad4 (by rw [Ax4,Gc5.mem];omega)];exact Gc5.mem)
theorem H80:Like S3:=D56 Gb0 (by rw [Ad4 (by rw [Ax4,Gb0.mem];omega)];exact Gb0.mem)
theorem Il0:W1 S0 0 ⟨2,256,0,0,0,0,Ax0⟩=((0,0,[]),S1):=Ho8 Du1 Gu7 (j:=0) rfl rfl (by rw [Bw2];omega)
theorem Ik2:W1 S1 0 ⟨2,257,0,0,0,0,I5 q1⟩=((0,0,[]),S2):=Ho8 Gc5 Gu7 (j:=1) rfl rfl (by rw [Ax4];omega)
theorem Il3:W1 S2 0 ⟨2,258,0,0,0,0,I5 q1⟩=((0,0,[]),S3):=Ho8 Gb0 Gu7 (j:=2) rfl rfl (by rw [Ax4];omega)
abbrev F1:Fr:=frP S3 0 0
def X1:CX:=⟨B05 S3.mem (rgP 0),[]⟩
theorem Dg2:FrOk F1:=Gv4 H80 Gu7
theorem Eb8:Clean 3 X1:=by
 refine ⟨by kernel_rfl,by omega,rfl,by kernel_rfl,fun j h0 h1=>?_,fun r h1 h2 h3 h4=>?_⟩
 ·have:j=1∨j=2:=by omega
  rcases this with rfl|rfl
  ·clear h0 h1;show (_:Nat)=_;kernel_rfl
  ·clear h0 h1;show (_:Nat)=_;kernel_rfl
 ·have all:((List.range 8).all (fun i=>decide (stR 1 (rd X1 ⟨1,(i:Int)⟩)≠2)) && ((List.range 12).all (fun i=>decide (stR 2 (rd X1 ⟨2,(i:Int)⟩)≠2)) && ((List.range 6).all (fun i=>decide (stR 3 (rd X1 ⟨3,(i:Int)⟩)≠2)) && (decide (stR 4 (rd X1 ⟨4,0⟩)≠2) && decide (stR 5 (rd X1 ⟨5,0⟩)≠2)))))=true:=by kernel_rfl
  simp only [Bool.and_eq_true,List.all_eq_true,List.mem_range,decide_eq_true_eq] at all
  obtain ⟨a1,a2,a3,a4,a5⟩:=all
  obtain ⟨k,i⟩:=r
  simp only at h1 h2 h3 h4 ⊢
  obtain ⟨n,rfl⟩:∃ n:Nat,i=n:=⟨i.toNat,by omega⟩
  have hk:k=1∨k=2∨k=3∨k=4∨k=5:=by omega
  rcases hk with rfl|rfl|rfl|rfl|rfl<;>simp [W7] at h4
  ·exact a1 n (by omega)
  ·exact a2 n (by omega)
  ·exact a3 n (by omega)
  ·obtain rfl:n=0:=by omega
   exact a4
  ·obtain rfl:n=0:=by omega
   exact a5
theorem Hm3 (k w m c:Nat) (b1:Nat) (cs:List Value) (hcs:cs.length=7) (K:RKS) (hK:RKOk K) (hB:0<K.B.envs.length) :
  CtJ E9 Ad5 Bc4 [(6,P0 k),(7,P0 c),(8,P0 w),(9,P0 m),(10,P0 b1),(11,.string (bs (I5 q1))),(12,int 1)] [pt b1 (.cells Aw9 false cs),D7 k S1,rkC w K] fun v own =>
   v=.tuple ⟨[P0 k,P0 c,P0 w,P0 m]⟩∧∃ K',own [D7 k S3,rkC w K']:=by
 have hset:∀ xs:List Value,xs.length=7→∀ vs:List Value,vs.length=7→vs.all Value.oneCell=true→D66 xs 0 vs=some vs:=fun xs h vs h1 h2=>Bv2 h h1 h2
 refine CtJ.of By2 fun h r=>Tr.eq (B11 ..) ?_;refine Je ?_
 refine Yt rfl ?_
 rw [A19,Ax4]
 refine Tr.ck (by simp [A9]) ?_
 refine Yn fun b2 h=>?_
 refine Dm7 (n:=40) 0 rfl (by rw [S4];exact Ax4) ?_
 refine Je ?_
 rw [show IntKind.wrap .i64 (256+1)=257 by decide]
 refine Gs (fun h=>?_) (by exact hset cs hcs _ rfl rfl)
 (refine Ja ?_;unhygienic intros)
 have J1:=D45 k S1 0 Gc5.ok (by omega) 0 ⟨2,257,0,0,0,0,I5 q1⟩ (some (J0 b2)) 40 false (show ((2:Int)≠5) by decide)
 rw [Ik2] at J1
 simp only [Bi3,Ax4] at J1
 refine Bq5 J1 [2,0] rfl ?_
 rintro _ h ⟨y,z,rfl,o⟩
 refine (?_:Tr _ _ _ _) o
 refine Je ?_
 (refine Ja ?_;unhygienic intros)
 have R1:=Et2 w K hK 0 hB ⟨2,257,0,0,0,0,I5 q1⟩ rfl (by rw [Ax4];simp [A9]) (slC false A3 1 (some (J0 b2)) (I5 q1).length 40 (A0 (I5 q1))) (some (J0 b2)) 40 false
 simp only [Bi3,Ax4] at R1
 refine Bq5 R1 [4,2] rfl ?_
 rintro _ h ⟨rfl,o⟩
 rw [show ({ K with R:=(Ag1 K.R ((0:Nat):Int) 257 0 (I5 q1)).2 }:RKS)=wrR K 257 (I5 q1) from rfl] at o
 have hK1:=Gb4 hK 257 (I5 q1)
 refine (?_:Tr _ _ _ _) o
 refine Je ?_
 (refine Ja ?_;unhygienic intros)
 refine Tr.jmp By2 (Tr.eq (B11 ..) ?_);(try simp only[Nr,Nl,wl,Nat.reduceAdd,Nat.reduceMul,Int.reduceToNat])
 refine Yt rfl ?_
 rw [A19,Ax4]
 refine Tr.ck (by simp [A9]) ?_
 refine Yn fun b3 h=>?_
 refine Dm7 (n:=40) 0 rfl (by rw [S4];exact Ax4) ?_
 refine Je ?_
 rw [show IntKind.wrap .i64 (256+2)=258 by decide]
 refine Gs (fun h=>?_) (by exact hset _ rfl _ rfl rfl)
 (refine Ja ?_;unhygienic intros)
 have J2:=D45 k S2 0 Gb0.ok (by omega) 0 ⟨2,258,0,0,0,0,I5 q1⟩ (some (J0 b3)) 40 false (show ((2:Int)≠5) by decide)
 rw [Il3] at J2
 simp only [Bi3,Ax4] at J2
 refine Bq5 J2 [4,0] rfl ?_
 rintro _ h ⟨y2,z2,rfl,o⟩
 refine (?_:Tr _ _ _ _) o
 refine Je ?_
 (refine Ja ?_;unhygienic intros)
 have R2:=Et2 w (wrR K 257 (I5 q1)) hK1 0 hB ⟨2,258,0,0,0,0,I5 q1⟩ rfl (by rw [Ax4];simp [A9]) (slC false A3 1 (some (J0 b3)) (I5 q1).length 40 (A0 (I5 q1))) (some (J0 b3)) 40 false
 simp only [Bi3,Ax4] at R2
 refine Bq5 R2 [3,2] rfl ?_
 rintro _ h ⟨rfl,o⟩
 rw [show ({ wrR K 257 (I5 q1) with R:=(Ag1 (wrR K 257 (I5 q1)).R ((0:Nat):Int) 258 0 (I5 q1)).2 }:RKS)=wrR (wrR K 257 (I5 q1)) 258 (I5 q1) from rfl] at o
 refine (?_:Tr _ _ _ _) o
 refine Je ?_
 (refine Ja ?_;unhygienic intros)
 refine Tr.jmp By2 (Tr.eq (B11 ..) ?_);(try simp only[Nr,Nl,wl,Nat.reduceAdd,Nat.reduceMul,Int.reduceToNat])
 refine Yf rfl ?_
 refine Ys fun o=>?_
 exact ⟨rfl,_,o.fin [3,0] 5 rfl rfl⟩
theorem H82:RKOk K0:=Gb4 D12.1 256 Aa2
theorem He8:0<K0.B.envs.length:=by show (0:Nat)<(Dc5 Af8).B.envs.length;rw [D12.2,Br3];simp
theorem Hg8 (a:Option Addr):Ct A7 Ad5 [.slice a 492 492] [slC false A3 1 a 492 492 (A0 Ax0)] fun v own=>∃ k c w m K',v=.tuple ⟨[P0 k,P0 c,P0 w,P0 m]⟩∧own [cmC c k F1 X1,rkC w K',rcC m w 0 (B08 K0 0) []]:=by
 refine Ct.of By2 rfl fun h r=>Tr.eq (G37 ..) ?_;refine Je ?_
 refine Yc (H17) ?_;rintro _ h ⟨A,rfl,o⟩<;>refine Jh o ?_
 (refine Ja ?_;unhygienic intros)
 refine Yc (H67 A) ?_
 rintro _ h ⟨k,c,w,m,rfl,o⟩
 refine (?_:Tr _ _ _ _) o
 refine Je ?_
 (refine Jb ?_;unhygienic intros)
 refine Yb (Yf rfl ?_)
 refine Ys fun o=>(?_:Tr _ _ _ _) o;refine Je ?_
 refine Yf rfl ?_
 refine Ig9 c k F0 X0 fun f=>?_
 rw [show F0.at X0.m=S0 from Fr.at_cut H75 (Ec6 Du1 (by omega) 0)]
 refine (?_:Tr (D7 k S0::U4 c k 0 H86 []::_) _ _ _)
 refine Yn fun b1 h=>?_
 (refine Ja ?_;unhygienic intros)
 refine Yc (Gm6 q1) ?_;rintro _ h ⟨rfl,o⟩<;>refine Jh o ?_
 (refine Ja ?_;unhygienic intros)
 have J1:=D45 k S0 0 Du1.ok (by omega) 0 ⟨2,256,0,0,0,0,Ax0⟩ a 492 false (show ((2:Int)≠5) by decide)
 rw [Il0] at J1
 simp only [Bi3,Bw2] at J1
 refine Bq5 J1 [1,4] rfl ?_
 rintro _ h ⟨y,z,rfl,o⟩
 refine (?_:Tr _ _ _ _) o
 refine Je ?_
 (refine Ja ?_;unhygienic intros)
 have R1:=Et2 w K0 H82 0 He8 ⟨2,256,0,0,0,0,Ax0⟩ rfl (by rw [Bw2];simp [A9]) (slC false A3 1 a Ax0.length 492 (A0 Ax0)) a 492 false
 simp only [Bi3,Bw2] at R1
 refine Bq5 R1 [5,2] rfl ?_
 rintro _ h ⟨rfl,o⟩
 rw [show ({ K0 with R:=(Ag1 K0.R ((0:Nat):Int) 256 0 Ax0).2 }:RKS)=wrR K0 256 Ax0 from rfl] at o
 refine (?_:Tr _ _ _ _) o
 refine Je ?_
 (refine Ja ?_;unhygienic intros)
 refine Es2 (Hm3 k w m c b1 _ rfl (wrR K0 256 Ax0) (Gb4 H82 256 Ax0) He8) [4,3,0] rfl ?_
 rintro _ h ⟨rfl,K',o⟩
 refine ⟨k,c,w,m,K',rfl,?_⟩
 exact Own.cmTake c k F1 [] Dg2 (Ec6 H80 (by omega) 0) (o.fin [0,3,0,2] 2 rfl rfl)
theorem Hp1 {nc:Nat} {X:CX} (c:Clean nc X) {i:Int} (hi:0≤i∧i<8):Clean nc (A74 X i).2:=by
 unfold A74
 by_cases h0:(H1 X i).2=0
 case neg=>rw [if_pos h0];exact c
 rw [if_neg (by simpa using h0)]
 by_cases h1:Ab8 X 8 0<0
 ·rw [if_pos h1];exact c
 rw [if_neg h1]
 by_cases h2:(P7 X (H1 X i).1).1=0
 case neg=>rw [if_pos h2];exact c
 rw [if_neg (by simpa using h2)]
 obtain ⟨s1,s2,s3,s4⟩:=B48 c hi h0
 have hf:Bq9 (H1 X i).1.fds:=by rw [s1];exact Es0 s3
 have hok:okS (Au8 (H1 X i).1 i)=true:=by rw [s1];exact E29 s3 s2 hi
 have hin:InS (Au8 (H1 X i).1 i):=by
  have:=Bi5 (rd X ⟨1,i⟩)
  rw [s1]
  exact ⟨by simp,this.b,this.c,this.d⟩
 have hfr:0≤Ab8 X 8 0∧Ab8 X 8 0<8:=by
  rcases Du9 (X:=X) 8 0 (by omega) (by omega) with h|h<;>omega
 exact (Aq6 (Dl1 c hf h2).1 hfr hok hin).2.1
def X2:CX:=(A74 X1 0).2
theorem Gx1:Clean 3 X2:=Hp1 Eb8 (by omega)
theorem Ij6:E68 X1 0=(I4 0 110 false,X1):=by kernel_rfl
theorem Ik6:(A74 X1 0).1=I4 1 0 false:=by kernel_rfl
theorem Ik7:E68 X2 0=(I4 0 0 true,X2):=by kernel_rfl
theorem Ij8:H1 X2 1=(Au8 p0 0,0):=by kernel_rfl
theorem Gb8:Ct A7 Bp5 [] [] fun v own=>v=.bool true∧own []:=by
 refine Ct.of Gr5 rfl fun h r=>Tr.eq (Gr4 ..) ?_;refine Je ?_
 refine Yc (Gz7) ?_;rintro _ h ⟨a,rfl,o⟩<;>refine Jh o ?_
 (refine Ja ?_;unhygienic intros)
 refine Yc (Hg8 a) ?_
 rintro _ h ⟨k,c,w,m,K',rfl,o⟩
 refine (?_:Tr _ _ _ _) o
 refine Je ?_
 (refine Ja ?_;unhygienic intros)
 refine Yc (Hf7 c k F1 X1 Dg2 Eb8 0 (by omega)) ?_;rintro _ h ⟨rfl,o⟩<;>refine Jh o ?_
 rw [Ij6]
 dsimp only
 (refine Jc ?_;unhygienic intros)
 refine Yn fun b1 h=>?_
 (refine Ja ?_;unhygienic intros)
 refine Yc (Hf1 c k F1 X1 Dg2 Eb8 0 (by omega)) ?_;rintro _ h ⟨rfl,o⟩<;>refine Jh o ?_
 rw [Ik6,show (A74 X1 0).2=X2 from rfl]
 (refine Jc ?_;unhygienic intros)
 refine Yn fun b2 h=>?_
 (refine Ja ?_;unhygienic intros)
 refine Yc (Hf7 c k F1 X2 Dg2 Gx1 0 (by omega)) ?_;rintro _ h ⟨rfl,o⟩<;>refine Jh o ?_
 rw [Ik7]
 dsimp only
 (refine Jc ?_;unhygienic intros)
 refine Yn fun b3 h=>?_
 (refine Ja ?_;unhygienic intros)
 refine Yc (D34 c k F1 X2 Dg2 Gx1 1 (by omega)) ?_;rintro _ h ⟨rfl,o⟩<;>refine Jh o ?_
 rw [Ij8]
 dsimp only
 (refine Jc ?_;unhygienic intros)
 refine Yn fun b4 h=>?_
 (refine Jb ?_;unhygienic intros)
 refine Yb (Yt rfl ?_)
 (refine Jb ?_;unhygienic intros)
 refine Ys fun o=>(?_:Tr _ _ _ _) o;refine Je ?_
 refine Yb (Yt rfl ?_)
 (refine Jb ?_;unhygienic intros)
 refine Ys fun o=>(?_:Tr _ _ _ _) o;refine Je ?_
 refine Yb (Yt rfl ?_)
 (refine Jb ?_;unhygienic intros)
 refine Ys fun o=>(?_:Tr _ _ _ _) o;refine Je ?_
 refine Yb (Yt rfl ?_)
 refine Ys fun o=>(?_:Tr _ _ _ _) o;refine Je ?_
 refine Yb (Yt rfl ?_)
 (refine Jb ?_;unhygienic intros)
 refine Ys fun o=>(?_:Tr _ _ _ _) o;refine Je ?_
 refine Yb (Yt rfl ?_)
 (refine Jb ?_;unhygienic intros)
 refine Ys fun o=>(?_:Tr _ _ _ _) o;refine Je ?_
 refine Ys fun o=>?_
 refine ⟨rfl,?_⟩
 exact o.tail.tail.tail.tail.tail.tail.tail
section
variable {nc:Nat} {X:CX} (c:Clean nc X)
include c
abbrev B39 (X:CX) (i:Int) (p:PipeS):CX:=Bq4 X ⟨3,i⟩ (I5 p)
abbrev Gh1 (X:CX) (i:Int):CX:=Bq4 X ⟨2,i⟩ (List.replicate 8 0)
abbrev Ge7 (X:CX) (i:Int):CX:=Bq4 X ⟨3,i⟩ (List.replicate 40 0)
theorem D17 {i:Int} (h:0≤i∧i<3+nc) {p:PipeS} (ok:okP p=true) :
  E38 X i p=(true,B39 X i p)∧Clean nc (B39 X i p)∧(∀ j:Int,0≤j∧j<8→vS (B39 X i p) j=vS X j)∧(∀ j:Int,0≤j∧j<12→vF (B39 X i p) j=vF X j)∧(∀ j:Int,0≤j∧j<3+nc→vP (B39 X i p) j=if j=i then (p,1) else vP X j):=by
 have hl:(I5 p).length=P2 (3:Int):=by rw [Dj1 p.len];rfl
 refine ⟨by unfold E38;rw [ok];exact Bt7 c (Bh0 h) _,Bt8 c (Bh0 h) hl (by show (Q8 (I5 p)).2≠2;rw [Gt7 ok];simp),fun j hj=>?_,fun j hj=>?_,fun j hj=>?_⟩
 ·show Q9 (rd _ _)=_
  rw [Ac3 c (Bh0 h) (Bg7 hj) hl,if_neg (by simp)]
 ·show U9 (rd _ _)=_
  rw [Ac3 c (Bh0 h) (Bf5 hj) hl,if_neg (by simp)]
 ·show Q8 (rd _ _)=_
  rw [Ac3 c (Bh0 h) (Bh0 hj) hl]
  by_cases e:j=i
  ·rw [if_pos (by rw [e]),if_pos e];exact Gt7 ok
  ·rw [if_neg (by simp [e]),if_neg e]
theorem Gh4 {i:Int} (h:0≤i∧i<12) :
  Df8 X ⟨2,i⟩=(true,Gh1 X i)∧Clean nc (Gh1 X i)∧(∀ j:Int,0≤j∧j<8→vS (Gh1 X i) j=vS X j)∧(∀ j:Int,0≤j∧j<12→vF (Gh1 X i) j=if j=i then (.zero,0) else vF X j)∧(∀ j:Int,0≤j∧j<3+nc→vP (Gh1 X i) j=vP X j):=by
 have hl:(List.replicate 8 (0:UInt8)).length=P2 (2:Int):=rfl
 refine ⟨Bt7 c (Bf5 h) _,Bt8 c (Bf5 h) hl (by show (U9 (List.replicate 8 0)).2≠2;rw [show (U9 (List.replicate 8 0))=(.zero,0) from rfl];simp),fun j hj=>?_,fun j hj=>?_,fun j hj=>?_⟩
 ·show Q9 (rd _ _)=_
  rw [Ac3 c (Bf5 h) (Bg7 hj) hl,if_neg (by simp)]
 ·show U9 (rd _ _)=_
  rw [Ac3 c (Bf5 h) (Bf5 hj) hl]
  by_cases e:j=i
  ·rw [if_pos (by rw [e]),if_pos e];rfl
  ·rw [if_neg (by simp [e]),if_neg e]
 ·show Q8 (rd _ _)=_
  rw [Ac3 c (Bf5 h) (Bh0 hj) hl,if_neg (by simp)]
theorem Gd4 {i:Int} (h:0≤i∧i<3+nc) :
  Df8 X ⟨3,i⟩=(true,Ge7 X i)∧Clean nc (Ge7 X i)∧(∀ j:Int,0≤j∧j<8→vS (Ge7 X i) j=vS X j)∧(∀ j:Int,0≤j∧j<12→vF (Ge7 X i) j=vF X j)∧(∀ j:Int,0≤j∧j<3+nc→vP (Ge7 X i) j=if j=i then (.zero,0) else vP X j):=by
 have hl:(List.replicate 40 (0:UInt8)).length=P2 (3:Int):=rfl
 refine ⟨Bt7 c (Bh0 h) _,Bt8 c (Bh0 h) hl (by show (Q8 (List.replicate 40 0)).2≠2;rw [show (Q8 (List.replicate 40 0))=(.zero,0) from rfl];simp),fun j hj=>?_,fun j hj=>?_,fun j hj=>?_⟩
 ·show Q9 (rd _ _)=_
  rw [Ac3 c (Bh0 h) (Bg7 hj) hl,if_neg (by simp)]
 ·show U9 (rd _ _)=_
  rw [Ac3 c (Bh0 h) (Bf5 hj) hl,if_neg (by simp)]
 ·show Q8 (rd _ _)=_
  rw [Ac3 c (Bh0 h) (Bh0 hj) hl]
  by_cases e:j=i
  ·rw [if_pos (by rw [e]),if_pos e];rfl
  ·rw [if_neg (by simp [e]),if_neg e]
end
def SlOk (L:List (Int × ProcS)):Prop:=∀ s ∈ L,(0≤s.1∧s.1<8)∧okS s.2=true∧InS s.2
abbrev setFd (p:ProcS) (j:Nat) (f:Int):ProcS:=⟨p.state,p.parent,p.group,p.code,p.pending,p.mask,p.ignored,p.caught,p.fds.set j f,by rw [List.length_set];exact p.len⟩
theorem E37 {p:ProcS} (h:okS p=true) (h1:p.state=1) (j:Nat) {f:Int} (hf:0≤f∧f≤12):okS (setFd p j f)=true:=by
 have hd:=Es0 h
 have hd2:Bq9 (setFd p j f).fds:=fun x hx=>by
  rcases List.mem_or_eq_of_mem_set hx with h2|rfl
  ·exact hd x h2
  ·exact hf
 unfold okS at h ⊢
 rw [if_neg (by rw [h1];decide)] at h
 rw [if_neg (show ¬ (setFd p j f).state=2 by show ¬ p.state=2;rw [h1];decide)]
 simp only [Bool.and_eq_true] at h ⊢
 refine ⟨h.1,h.2.1,?_,h.2.2.2⟩
 rw [Bool.not_eq_true',List.any_eq_false]
 intro x hx
 have:=hd2 x hx
 simp;omega
def Ho0 (X:CX) (i fd f:Int):List Value × CX :=
 if (H1 X i).2≠0 then (I4 0 (H1 X i).2 false,X) else (I4 fd 0 false,Bk2 X i (setFd (vS X i).1 fd.toNat (f+1)))
def A64 (q:Int→Bool):Nat→Int→Nat→List Int
 | 0,_,_=>[]
 | _+1,_,0=>[]
 | m+1,i,w+1=>if q i=true then i::A64 q m (i+1) w else A64 q m (i+1) (w+1)
theorem Bt6 (q:Int→Bool):∀ (m:Nat) (i:Int) (w:Nat),∀ x ∈ A64 q m i w,i≤x∧x<i+m∧q x=true
 | 0,_,_,x,hx=>by simp [A64] at hx
 | _+1,_,0,x,hx=>by simp [A64] at hx
 | m+1,i,w+1,x,hx=>by
  unfold A64 at hx
  split at hx
  ·rename_i hq
   rcases List.mem_cons.1 hx with rfl|h
   ·exact ⟨by omega,by omega,hq⟩
   ·have:=Bt6 q m (i+1) w x h
    exact ⟨by omega,by omega,this.2.2⟩
  ·have:=Bt6 q m (i+1) (w+1) x hx
   exact ⟨by omega,by omega,this.2.2⟩
abbrev As7 (p:ProcS) (w:Nat):List Int:=A64 (fun j=>p.fds.getD j.toNat 0==0) 8 0 w
def hcC (bh b k:Nat) (F:Fr) (X:CX):HP:=hex fun _:Unit=>sl [pt bh (.cells B27 false [P0 b]),cmC b k F X]
instance {bh b k:Nat} {F:Fr} {X:CX}:Chk (hcC bh b k F X) (fun _:Unit=>[pt bh (.cells B27 false [P0 b]),cmC b k F X]):=⟨rfl⟩
def Dp6:PipeS:=⟨0,0,1,1,[0,0,0,0,0,0,0,0,0,0,0,0,0,0,0,0,0,0,0,0,0,0,0,0,0,0,0,0,0,0,0,0],rfl⟩
abbrev Et5 (X:CX):List Int:=A64 (fun j=>(vF X j).2==0) 12 0 2
abbrev Gi4 (X:CX):List Int:=A64 (fun j=>(vP X j).2==0) 4 0 1
def Bx7 (X:CX) (i d0 d1 f0 f1 r0:Int):CX :=
 Bk2 (Ba8 (Ba8 (B39 X r0 Dp6) f0 ⟨1,r0,1,0⟩) f1 ⟨2,r0,1,0⟩) i (setFd (setFd (vS X i).1 d0.toNat (f0+1)) d1.toNat (f1+1))
def Gh2 (X:CX) (i:Int):List Value × CX :=
 if (H1 X i).2≠0 then (I4 0 (H1 X i).2 false,X)
 else if (As7 (vS X i).1 2).length<2 then (I4 0 124 false,X)
 else if (Et5 X).length<2∨(Gi4 X).length=0 then (I4 0 123 false,X)
 else (I4 ((As7 (vS X i).1 2).getD 0 0+16*(As7 (vS X i).1 2).getD 1 0) 0 false,Bx7 X i ((As7 (vS X i).1 2).getD 0 0) ((As7 (vS X i).1 2).getD 1 0) ((Et5 X).getD 0 0) ((Et5 X).getD 1 0) ((Gi4 X).getD 0 0))
theorem Hv2 {nc:Nat} {X:CX} (c:Clean nc X) {i:Int} (hi:0≤i∧i<8) (hs:(H1 X i).2=0) {d0 d1 f0 f1 r0:Int} (hd0:0≤d0∧d0<8) (hd1:0≤d1∧d1<8) (hf0:0≤f0∧f0<12) (hf1:0≤f1∧f1<12) (hr:0≤r0∧r0<4) (hn:r0<3+(nc:Int)) :
  E38 X r0 Dp6=(true,B39 X r0 Dp6)∧Bg1 (B39 X r0 Dp6) f0 ⟨1,r0,1,0⟩=(true,Ba8 (B39 X r0 Dp6) f0 ⟨1,r0,1,0⟩) ∧
  Bg1 (Ba8 (B39 X r0 Dp6) f0 ⟨1,r0,1,0⟩) f1 ⟨2,r0,1,0⟩=(true,Ba8 (Ba8 (B39 X r0 Dp6) f0 ⟨1,r0,1,0⟩) f1 ⟨2,r0,1,0⟩) ∧
  Bs0 (Ba8 (Ba8 (B39 X r0 Dp6) f0 ⟨1,r0,1,0⟩) f1 ⟨2,r0,1,0⟩) i (setFd (setFd (vS X i).1 d0.toNat (f0+1)) d1.toNat (f1+1))=(true,Bx7 X i d0 d1 f0 f1 r0) ∧
  Clean nc (Bx7 X i d0 d1 f0 f1 r0)∧(∀ j:Int,0≤j∧j<8→vS (Bx7 X i d0 d1 f0 f1 r0) j=if j=i then (setFd (setFd (vS X i).1 d0.toNat (f0+1)) d1.toNat (f1+1),1) else vS X j) ∧
  (∀ j:Int,0≤j∧j<12→vF (Bx7 X i d0 d1 f0 f1 r0) j=if j=f1 then (⟨2,r0,1,0⟩,1) else if j=f0 then (⟨1,r0,1,0⟩,1) else vF X j) ∧
  (∀ j:Int,0≤j∧j<3+nc→vP (Bx7 X i d0 d1 f0 f1 r0) j=if j=r0 then (Dp6,1) else vP X j):=by
 obtain ⟨s1,s2,s3,s4⟩:=B48 c hi hs
 have hin:=Bi5 (rd X ⟨1,i⟩)
 obtain ⟨a1,a2,a3,a4,a5⟩:=D17 c (i:=r0) (by omega) (p:=Dp6) rfl
 obtain ⟨b1,b2,b3,b4,b5⟩:=Aq2 a2 hf0 (f:=⟨1,r0,1,0⟩) (by simp [okF];omega)
 obtain ⟨c1,c2,c3,c4,c5⟩:=Aq2 b2 hf1 (f:=⟨2,r0,1,0⟩) (by simp [okF];omega)
 have hq:=E37 (E37 s3 s2 d0.toNat (f:=f0+1) (by omega)) s2 d1.toNat (f:=f1+1) (by omega)
 obtain ⟨e1,e2,e3,e4,e5⟩:=Aq6 c2 hi hq ⟨hin.a,hin.b,hin.c,hin.d⟩
 refine ⟨a1,b1,c1,e1,e2,fun j hj=>?_,fun j hj=>?_,fun j hj=>?_⟩
 ·rw [show Bx7 X i d0 d1 f0 f1 r0=Bk2 _ _ _ from rfl,e3 j hj,c3 j hj,b3 j hj,a3 j hj]
 ·rw [show Bx7 X i d0 d1 f0 f1 r0=Bk2 _ _ _ from rfl,e4 j hj,c4 j hj,b4 j hj,a4 j hj]
 ·rw [show Bx7 X i d0 d1 f0 f1 r0=Bk2 _ _ _ from rfl,e5 j hj,c5 j hj,b5 j hj,a5 j hj]
structure VW where
 S:Int→ProcS × Int
 F:Int→FileS × Int
 P:Int→PipeS × Int
structure See (X:CX) (V:VW):Prop where
 c:Clean 3 X
 s:∀ j:Int,0≤j∧j<8→vS X j=V.S j
 f:∀ j:Int,0≤j∧j<12→vF X j=V.F j
 p:∀ j:Int,0≤j∧j<6→vP X j=V.P j
theorem See.to {X:CX} {V V':VW} (A:See X V) (hs:∀ j:Int,0≤j∧j<8→V.S j=V'.S j) (hf:∀ j:Int,0≤j∧j<12→V.F j=V'.F j) (hp:∀ j:Int,0≤j∧j<6→V.P j=V'.P j):See X V' :=
 ⟨A.c,fun j h=>(A.s j h).trans (hs j h),fun j h=>(A.f j h).trans (hf j h),fun j h=>(A.p j h).trans (hp j h)⟩
def wS (V:VW) (i:Int) (p:ProcS):VW:=⟨fun j=>if j=i then (p,1) else V.S j,V.F,V.P⟩
def wF (V:VW) (i:Int) (x:FileS):VW:=⟨V.S,fun j=>if j=i then (x,1) else V.F j,V.P⟩
def wP (V:VW) (i:Int) (x:PipeS):VW:=⟨V.S,V.F,fun j=>if j=i then (x,1) else V.P j⟩
def oF (V:VW) (i:Int):VW:=⟨V.S,fun j=>if j=i then (.zero,0) else V.F j,V.P⟩
def oP (V:VW) (i:Int):VW:=⟨V.S,V.F,fun j=>if j=i then (.zero,0) else V.P j⟩
section
variable {X:CX} {V:VW} (A:See X V)
include A
theorem See.ws {i:Int} (hi:0≤i∧i<8) {p:ProcS} (ok:okS p=true) (r:InS p):See (Bk2 X i p) (wS V i p):=by
 obtain ⟨_,w2,w3,w4,w5⟩:=Aq6 A.c hi ok r
 exact ⟨w2,fun j h=>by rw [w3 j h,A.s j h];rfl,fun j h=>by rw [w4 j h];exact A.f j h,fun j h=>by rw [w5 j (by omega)];exact A.p j h⟩
theorem See.wf {i:Int} (hi:0≤i∧i<12) {x:FileS} (ok:okF x=true):See (Ba8 X i x) (wF V i x):=by
 obtain ⟨_,w2,w3,w4,w5⟩:=Aq2 A.c hi ok
 exact ⟨w2,fun j h=>by rw [w3 j h];exact A.s j h,fun j h=>by rw [w4 j h,A.f j h];rfl,fun j h=>by rw [w5 j (by omega)];exact A.p j h⟩
theorem See.wp {i:Int} (hi:0≤i∧i<6) {x:PipeS} (ok:okP x=true):See (B39 X i x) (wP V i x):=by
 obtain ⟨_,w2,w3,w4,w5⟩:=D17 A.c (i:=i) (by omega) ok
 exact ⟨w2,fun j h=>by rw [w3 j h];exact A.s j h,fun j h=>by rw [w4 j h];exact A.f j h,fun j h=>by rw [w5 j (by omega),A.p j h];rfl⟩
theorem See.of {i:Int} (hi:0≤i∧i<12):See (Gh1 X i) (oF V i):=by
 obtain ⟨_,w2,w3,w4,w5⟩:=Gh4 A.c hi
 exact ⟨w2,fun j h=>by rw [w3 j h];exact A.s j h,fun j h=>by rw [w4 j h,A.f j h];rfl,fun j h=>by rw [w5 j (by omega)];exact A.p j h⟩
theorem See.op {i:Int} (hi:0≤i∧i<6):See (Ge7 X i) (oP V i):=by
 obtain ⟨_,w2,w3,w4,w5⟩:=Gd4 A.c (i:=i) (by omega)
 exact ⟨w2,fun j h=>by rw [w3 j h];exact A.s j h,fun j h=>by rw [w4 j h];exact A.f j h,fun j h=>by rw [w5 j (by omega),A.p j h];rfl⟩
end
def Aw3 (V:VW) (i:Int):ProcS × Int:=if (V.S i).2=1∧(V.S i).1.state=1 then ((V.S i).1,0) else (.zero,105)
theorem See.self {X:CX} {V:VW} (A:See X V) {i:Int} (hi:0≤i∧i<8):H1 X i=Aw3 V i:=by unfold H1 Aw3;rw [A.s i hi]
def Hl4 (V:VW) (i fd f:Int):List Value × VW :=
 if (Aw3 V i).2≠0 then (I4 0 (Aw3 V i).2 false,V) else (I4 fd 0 false,wS V i (setFd (V.S i).1 fd.toNat (f+1)))
theorem See.setFd {X:CX} {V:VW} (A:See X V) {i:Int} (hi:0≤i∧i<8) (h:(Aw3 V i).2=0) (j:Nat) {f:Int} (hf:0≤f∧f≤12):See (Bk2 X i (EQ.setFd (vS X i).1 j f)) (wS V i (EQ.setFd (V.S i).1 j f)):=by
 have es:=A.self hi
 obtain ⟨s1,s2,s3,s4⟩:=B48 A.c hi (by rw [es];exact h)
 have hin:=Bi5 (rd X ⟨1,i⟩)
 have:=A.ws hi (E37 s3 s2 j hf) ⟨hin.a,hin.b,hin.c,hin.d⟩
 have e:EQ.setFd (V.S i).1 j f=EQ.setFd (vS X i).1 j f:=by rw [A.s i hi]
 rw [e];exact this
theorem See.name {X:CX} {V:VW} (A:See X V) {i:Int} (hi:0≤i∧i<8) (fd:Int) {f:Int} (hf:0≤f∧f<12):(Ho0 X i fd f).1=(Hl4 V i fd f).1∧See (Ho0 X i fd f).2 (Hl4 V i fd f).2:=by
 have es:=A.self hi
 unfold Ho0 Hl4
 rw [es]
 by_cases h1:(Aw3 V i).2=0
 case neg=>rw [if_pos h1,if_pos h1];exact ⟨rfl,A⟩
 have n1:¬ (Aw3 V i).2≠0:=by simpa using h1
 rw [if_neg n1,if_neg n1]
 exact ⟨rfl,A.setFd hi h1 fd.toNat (by omega)⟩
theorem B76 {q q':Int→Bool}:∀ (m:Nat) (i:Int) (w:Nat),(∀ j:Int,i≤j→j<i+m→q j=q' j)→A64 q m i w=A64 q' m i w
 | 0,_,_,_=>rfl
 | _+1,_,0,_=>rfl
 | m+1,i,w+1,h=>by
  rw [A64,A64,h i (by omega) (by omega),B76 m (i+1) w fun j h1 h2=>h j (by omega) (by omega),B76 m (i+1) (w+1) fun j h1 h2=>h j (by omega) (by omega)]
abbrev Eb4 (V:VW):List Int:=A64 (fun j=>(V.F j).2==0) 12 0 2
abbrev Gj2 (V:VW):List Int:=A64 (fun j=>(V.P j).2==0) 4 0 1
def mkW (V:VW) (i d0 d1 f0 f1 r0:Int):VW:=wS (wF (wF (wP V r0 Dp6) f0 ⟨1,r0,1,0⟩) f1 ⟨2,r0,1,0⟩) i (setFd (setFd (V.S i).1 d0.toNat (f0+1)) d1.toNat (f1+1))
def Hp3 (V:VW) (i:Int):List Value × VW :=
 if (Aw3 V i).2≠0 then (I4 0 (Aw3 V i).2 false,V)
 else if (As7 (V.S i).1 2).length<2 then (I4 0 124 false,V)
 else if (Eb4 V).length<2∨(Gj2 V).length=0 then (I4 0 123 false,V)
 else (I4 ((As7 (V.S i).1 2).getD 0 0+16*(As7 (V.S i).1 2).getD 1 0) 0 false,mkW V i ((As7 (V.S i).1 2).getD 0 0) ((As7 (V.S i).1 2).getD 1 0) ((Eb4 V).getD 0 0) ((Eb4 V).getD 1 0) ((Gj2 V).getD 0 0))
theorem Dp8 {l:List Int} {j:Nat} (h:j<l.length):l.getD j 0 ∈ l:=by
 rw [List.getD_eq_getElem?_getD,List.getElem?_eq_getElem h];exact List.getElem_mem _
theorem See.pipe {X:CX} {V:VW} (A:See X V) {i:Int} (hi:0≤i∧i<8):(Gh2 X i).1=(Hp3 V i).1∧See (Gh2 X i).2 (Hp3 V i).2:=by
 have es:=A.self hi
 have e1:Et5 X=Eb4 V:=B76 12 0 2 fun j h1 h2=>by rw [A.f j (by omega)]
 have e2:Gi4 X=Gj2 V:=B76 4 0 1 fun j h1 h2=>by rw [A.p j (by omega)]
 unfold Gh2 Hp3
 rw [e1,e2,es]
 by_cases h1:(Aw3 V i).2=0
 case neg=>rw [if_pos h1,if_pos h1];exact ⟨rfl,A⟩
 have n1:¬ (Aw3 V i).2≠0:=by simpa using h1
 rw [if_neg n1,if_neg n1,A.s i hi]
 by_cases h2:(As7 (V.S i).1 2).length<2
 ·rw [if_pos h2,if_pos h2];exact ⟨rfl,A⟩
 rw [if_neg h2,if_neg h2]
 by_cases h3:(Eb4 V).length<2∨(Gj2 V).length=0
 ·rw [if_pos h3,if_pos h3];exact ⟨rfl,A⟩
 rw [if_neg h3,if_neg h3]
 have hm:=Bt6 (fun j=>(V.S i).1.fds.getD j.toNat 0==0) 8 0 2
 have hd0:=hm _ (Dp8 (l:=As7 (V.S i).1 2) (j:=0) (by omega))
 have hd1:=hm _ (Dp8 (l:=As7 (V.S i).1 2) (j:=1) (by omega))
 have hf0:=Bt6 (fun j=>(V.F j).2==0) 12 0 2 _ (Dp8 (l:=Eb4 V) (j:=0) (by omega))
 have hf1:=Bt6 (fun j=>(V.F j).2==0) 12 0 2 _ (Dp8 (l:=Eb4 V) (j:=1) (by omega))
 have hr:=Bt6 (fun j=>(V.P j).2==0) 4 0 1 _ (Dp8 (l:=Gj2 V) (j:=0) (by omega))
 generalize (As7 (V.S i).1 2).getD 0 0=d0 at hd0 ⊢
 generalize (As7 (V.S i).1 2).getD 1 0=d1 at hd1 ⊢
 generalize (Eb4 V).getD 0 0=f0 at hf0 ⊢
 generalize (Eb4 V).getD 1 0=f1 at hf1 ⊢
 generalize (Gj2 V).getD 0 0=r0 at hr ⊢
 obtain ⟨_,_,_,_,m1,m2,m3,m4⟩:=Hv2 A.c hi (by rw [es];exact h1) (d0:=d0) (d1:=d1) (f0:=f0) (f1:=f1) (r0:=r0) (by omega) (by omega) (by omega) (by omega) (by omega) (by omega)
 refine ⟨rfl,m1,fun j hj=>?_,fun j hj=>?_,fun j hj=>?_⟩
 ·rw [m2 j hj,A.s i hi,A.s j hj];rfl
 ·rw [m3 j hj,A.f j hj];rfl
 ·rw [m4 j (by omega),A.p j hj];rfl
def Ds2 (V:VW):Nat→Int→Int
 | 0,_=>-1
 | m+1,i=>if (V.S i).2=0 then i else Ds2 V m (i+1)
theorem See.free {X:CX} {V:VW} (A:See X V):∀ (m:Nat) (i:Int),0≤i→i+m=8→Ab8 X m i=Ds2 V m i
 | 0,_,_,_=>rfl
 | m+1,i,h0,hi=>by rw [Ab8,Ds2,A.s i (by omega),A.free m (i+1) (by omega) (by omega)]
def Da8 (V:VW) (more:List Int):List Int→Int
 | []=>0
 | f::l=>if f=0 then Da8 V more l else if (V.F (f-1)).2≠1 then 105 else if (V.F (f-1)).1.refs+more.getD (f-1).toNat 0>64 then 123 else Da8 V more l
theorem See.share {X:CX} {V:VW} (A:See X V) (more:List Int):∀ l:List Int,Bq9 l→Z8 X more l=Da8 V more l
 | [],_=>rfl
 | f::l,h=>by
  have hf:=h f (by simp)
  rw [Z8,Da8,A.share more l fun x hx=>h x (by simp [hx])]
  by_cases h0:f=0
  ·rw [if_pos h0,if_pos h0]
  ·rw [if_neg h0,if_neg h0,A.f (f-1) (by omega)]
def Ig8 (V:VW) (more:List Int):VW:=⟨V.S,fun j=>if more.getD j.toNat 0≠0 then (Dw4 (V.F j).1 (more.getD j.toNat 0),1) else V.F j,V.P⟩
def Hk7 (V:VW) (i:Int):List Value × VW :=
 if (Aw3 V i).2≠0 then (I4 0 (Aw3 V i).2 false,V)
 else if Ds2 V 8 0<0 then (I4 0 111 false,V)
 else if Da8 V (Ak3 (V.S i).1) (V.S i).1.fds≠0 then (I4 0 (Da8 V (Ak3 (V.S i).1) (V.S i).1.fds) false,V)
 else (I4 (Ds2 V 8 0) 0 false,wS (Ig8 V (Ak3 (V.S i).1)) (Ds2 V 8 0) (Au8 (V.S i).1 i))
theorem See.fork {X:CX} {V:VW} (A:See X V) {i:Int} (hi:0≤i∧i<8):(A74 X i).1=(Hk7 V i).1∧See (A74 X i).2 (Hk7 V i).2:=by
 have es:=A.self hi
 have ef:=A.free 8 0 (by omega) (by omega)
 unfold A74 Hk7
 rw [ef]
 by_cases h1:(Aw3 V i).2=0
 case neg=>rw [es,if_pos h1,if_pos h1];exact ⟨rfl,A⟩
 have n1:¬ (Aw3 V i).2≠0:=by simpa using h1
 have n2:¬ (H1 X i).2≠0:=by rw [es];exact n1
 rw [if_neg n2,if_neg n1]
 by_cases h2:Ds2 V 8 0<0
 ·rw [if_pos h2,if_pos h2];exact ⟨rfl,A⟩
 rw [if_neg h2,if_neg h2]
 obtain ⟨s1,s2,s3,s4⟩:=B48 A.c hi (by rw [es];exact h1)
 rw [s1]
 have hfd:=Es0 s3
 have hin:=Bi5 (rd X ⟨1,i⟩)
 have esh:=A.share (Ak3 (vS X i).1) _ hfd
 have hcl:=Dl1 A.c hfd
 have hno:=fun h=>Gl4 (X:=X) (p:=(vS X i).1) h
 have hm8:Ds2 V 8 0<8:=by
  rcases Du9 (X:=X) 8 0 (by omega) (by omega) with h|h<;>omega
 have e1:(P7 X (vS X i).1).1=Z8 X (Ak3 (vS X i).1) (vS X i).1.fds:=by
  unfold P7;split
  ·rename_i h;exact h.symm
  ·rfl
 rw [esh] at e1
 have hck:=E29 s3 s2 hi
 have hin2:InS (Au8 (vS X i).1 i):=⟨by simp,hin.b,hin.c,hin.d⟩
 simp only
 rw [e1] at hcl hno ⊢
 rw [A.s i hi] at *
 by_cases h3:Da8 V (Ak3 (V.S i).1) (V.S i).1.fds=0
 case neg=>rw [if_pos h3,if_pos h3];exact ⟨rfl,A⟩
 have n3:¬ Da8 V (Ak3 (V.S i).1) (V.S i).1.fds≠0:=by simpa using h3
 rw [if_neg n3,if_neg n3]
 obtain ⟨a1,a2,a3,a4⟩:=hcl h3
 refine ⟨rfl,?_⟩
 have B:See (P7 X (V.S i).1).2 (Ig8 V (Ak3 (V.S i).1)):=⟨a1,fun j hj=>by rw [a2 j hj];exact A.s j hj,fun j hj=>by rw [a3 j hj,A.f j hj];rfl,fun j hj=>by rw [a4 j (by omega)];exact A.p j hj⟩
 exact B.ws (by omega) hck hin2
def V1:VW:=⟨fun j=>if j=0 then (p0,1) else (.zero,0),fun j=>if j=0 then (f0,1) else (.zero,0),fun j=>if j<4 then (.zero,0) else vP X1 j⟩
theorem Ik9:See X1 V1:=by
 refine ⟨Eb8,fun j hj=>?_,fun j hj=>?_,fun j hj=>?_⟩
 ·have:j=0∨j=1∨j=2∨j=3∨j=4∨j=5∨j=6∨j=7:=by omega
  rcases this with rfl|rfl|rfl|rfl|rfl|rfl|rfl|rfl<;>(clear hj;show (_:ProcS × Int)=_;kernel_rfl)
 ·have:j=0∨j=1∨j=2∨j=3∨j=4∨j=5∨j=6∨j=7∨j=8∨j=9∨j=10∨j=11:=by omega
  rcases this with rfl|rfl|rfl|rfl|rfl|rfl|rfl|rfl|rfl|rfl|rfl|rfl<;>(clear hj;show (_:FileS × Int)=_;kernel_rfl)
 ·by_cases h4:j<4
  ·have:j=0∨j=1∨j=2∨j=3:=by omega
   rcases this with rfl|rfl|rfl|rfl<;>(clear hj h4;show (_:PipeS × Int)=_;kernel_rfl)
  ·show _=if j<4 then _ else vP X1 j
   rw [if_neg h4]
abbrev rr (r:Int→Int) (v d:Int):Int→Int:=fun k=>if k=v then r k+d else r k
theorem VW.ext' {V V':VW} (h1:∀ j,V.S j=V'.S j) (h2:∀ j,V.F j=V'.F j) (h3:∀ j,V.P j=V'.P j):V=V':=by
 obtain ⟨a,b,c⟩:=V
 obtain ⟨a',b',c'⟩:=V'
 have e1:a=a':=funext h1
 have e2:b=b':=funext h2
 have e3:c=c':=funext h3
 rw [e1,e2,e3]
section
variable {ow:List Int} {h:ow.length=8} {r:Int→Int}
end
abbrev inG (g:Int):Int→ProcS→Bool:=fun _ p=>p.state != 2 && p.group==g
abbrev E51 (X:CX) (g:Int):Bool:=decide ((J5 X (inG g) 8 0).length>0)
theorem H97 (bi:Nat) (g:Int) (j:Int) (p:ProcS):Ct A7 Bg9 [.agg ⟨int j::B8 p⟩,P0 bi] [pt bi (.cells B3 false [int g])] fun v own=>v=.bool (inG g j p)∧own [pt bi (.cells B3 false [int g])]:=by
 refine Ct.of Gz5 rfl fun h r=>Tr.eq (G44 ..) ?_;refine Je ?_
 refine Yn fun b h=>?_
 (refine Ja ?_;unhygienic intros)
 refine Yc (E28 j p) ?_;rintro _ h ⟨rfl,o⟩<;>refine Jh o ?_
 (refine Jb ?_;unhygienic intros)
 by_cases h2:p.state=2
 ·refine Yb (Yf (by simpa using h2) ?_)
  refine Ys fun o=>(?_:Tr _ _ _ _) o;refine Je ?_
  refine Ys fun o=>?_
  exact ⟨by rw [show inG g j p=false by unfold inG;simp [h2]],o.sub⟩
 ·refine Yb (Yt (by simpa using h2) ?_)
  (refine Jb ?_;unhygienic intros)
  refine Ys fun o=>(?_:Tr _ _ _ _) o;refine Je ?_
  refine Ys fun o=>?_
  exact ⟨by rw [show inG g j p=(p.group==g) by unfold inG;simp [h2]],o.sub⟩
theorem Ii1 (b k:Nat) (F:Fr) (X:CX) (ok:FrOk F) {nc:Nat} (c:Clean nc X) (g:Int):Ct A7 Dg1 [P0 b,int g] [cmC b k F X] fun v own=>v=.bool (E51 X g)∧own [cmC b k F X]:=by
 refine Ct.of Hi7 rfl fun h r=>Tr.eq (Hn7 ..) ?_;refine Je ?_
 refine Yn fun bi h=>?_
 refine Yc (E48 b k F X ok c (pt bi (.cells B3 false [int g])) Bg9 [P0 bi] (inG g) (fun j p=>H97 bi g j p)) ?_;rintro _ h ⟨a,ac,rfl,o⟩<;>refine Jh o ?_
 (refine Ja ?_;unhygienic intros)
 refine Ys fun o=>?_
 exact ⟨by rw [show decide (((J5 X (inG g) 8 0).length:Int)>0)=E51 X g from decide_eq_decide.2 (by omega)],o.sub⟩
theorem Gn4 (n:Int):Ct A7 A38 [int n] [] fun v own=>v=.bool (decide (0≤n∧n<8))∧own []:=by
 refine Ct.of Gj0 rfl fun h r=>Tr.eq (Ge2 ..) ?_;refine Je ?_
 by_cases h1:0≤n
 ·refine Yb (Yt (by simpa using h1) ?_)
  refine Ys fun o=>(?_:Tr _ _ _ _) o;refine Je ?_
  refine Ys fun o=>?_
  exact ⟨by rw [decide_eq_decide.2 (show n<8↔0≤n∧n<8 by omega)],o.sub⟩
 ·refine Yb (Yf (by simpa using h1) ?_)
  refine Ys fun o=>(?_:Tr _ _ _ _) o;refine Je ?_
  refine Ys fun o=>?_
  exact ⟨by rw [decide_eq_false (show ¬ (0≤n∧n<8) by omega)],o.sub⟩
abbrev Dg3:List Value:=[int 0,int 0,int 0,int 0,int 0,int 0,int 0,int 0,int 0,int 0,int 0,int 0,int 0,int 0,int 0,int 0]
def Bx5 (X:CX) (i t:Int):Int :=
 if t=i then 0 else if (vS X t).2≠1∨(vS X t).1.parent≠i+1∨(vS X t).1.state=2 then 103 else 0
theorem H39 (b k:Nat) (F:Fr) (X:CX) (ok:FrOk F) {nc:Nat} (c:Clean nc X) (i t:Int) (hi:0≤i∧i<8) (ht:0≤t∧t<8):Ct A7 Bw1 [P0 b,int i,int t] [cmC b k F X] fun v own=>v=.tuple ⟨[.agg ⟨B8 (vS X t).1⟩,int (Bx5 X i t)]⟩∧own [cmC b k F X]:=by
 have e1:IntKind.wrap .i64 (i+1)=i+1:=by rw [A6];omega
 have hk:(vS X t).2≠2:=c.ok ⟨1,t⟩ (by simp) (by simp) ht.1 ht.2
 unfold Bx5
 refine Ct.of G16 rfl fun h r=>Tr.eq (Gt2 ..) ?_;refine Je ?_
 refine Yn fun b0 h=>?_
 refine Yc (Br0 b k F X ok t) ?_;rintro _ h ⟨rfl,o⟩<;>refine Jh o ?_
 rw [Az1 c ht]
 dsimp only
 generalize (vS X t).1=p at *
 generalize (vS X t).2=st at *
 (refine Jc ?_;unhygienic intros)
 refine Yn fun b1 h=>?_
 (refine Jb ?_;unhygienic intros)
 by_cases h1:t=i
 ·rw [if_pos h1]
  refine Yt (by simpa using h1) ?_
  (refine Ja ?_;unhygienic intros)
  refine Ys fun o=>?_
  exact ⟨rfl,o.sub⟩
 rw [if_neg h1]
 refine Yf (by simpa using h1) ?_
 refine Yf (by simpa using hk) ?_
 rw [e1]
 refine Yb fun o=>Wp.mono (Q:=fun v h'=>v=decide (st≠1∨p.parent≠i+1)∧Own h' (pt b1 (.cells B0 false (B8 p))::cmC b k F X::pt b0 (.cells B0 false Dg3)::r)) ?_ ?_
 ·refine Jh o ?_
  by_cases h2:st=1
  ·refine Yf (by simpa using h2) ?_
   (refine Jb ?_;unhygienic intros)
   refine Ys fun o=>?_
   exact ⟨by subst h2;simp [bne,Bool.beq_eq_decide_eq],o.sub⟩
  ·refine Yt (by simpa using h2) ?_
   refine Ys fun o=>?_
   exact ⟨(decide_eq_true (.inl h2)).symm,o.sub⟩
 rintro v h ⟨rfl,o⟩
 refine Jh o ?_
 refine Yb fun o=>Wp.mono (Q:=fun v h'=>v=decide (st≠1∨p.parent≠i+1∨p.state=2)∧Own h' (pt b1 (.cells B0 false (B8 p))::cmC b k F X::pt b0 (.cells B0 false Dg3)::r)) ?_ ?_
 ·refine Jh o ?_
  by_cases h2:st≠1∨p.parent≠i+1
  ·refine Yt (decide_eq_true h2) ?_
   refine Ys fun o=>?_
   exact ⟨(decide_eq_true (h2.elim .inl fun h=>.inr (.inl h))).symm,o.sub⟩
  ·refine Yf (decide_eq_false h2) ?_
   (refine Jb ?_;unhygienic intros)
   refine Ys fun o=>?_
   refine ⟨?_,o.sub⟩
   rw [Bool.eq_iff_iff,decide_eq_true_iff,beq_iff_eq]
   exact ⟨fun h=>.inr (.inr h),fun h=>h.elim (fun h=>absurd (.inl h) h2) fun h=>h.elim (fun h=>absurd (.inr h) h2) id⟩
 rintro v h ⟨rfl,o⟩
 refine Jh o ?_
 by_cases h2:st≠1∨p.parent≠i+1∨p.state=2
 ·rw [if_pos h2]
  refine Yt (decide_eq_true h2) ?_
  (refine Ja ?_;unhygienic intros)
  refine Ys fun o=>?_
  exact ⟨rfl,o.sub⟩
 ·rw [if_neg h2]
  refine Yf (decide_eq_false h2) ?_
  (refine Ja ?_;unhygienic intros)
  refine Ys fun o=>?_
  exact ⟨rfl,o.sub⟩
abbrev Gz4 (p:ProcS) (g:Int):ProcS:=⟨p.state,p.parent,g,p.code,p.pending,p.mask,p.ignored,p.caught,p.fds,p.len⟩
theorem Hh2 {p:ProcS} (h:okS p=true) {g:Int} (hg:0≤g∧g<8):okS (Gz4 p g)=true:=by
 unfold okS at h ⊢
 simp only [Bool.and_eq_true,Bool.not_eq_true',Bool.or_eq_false_iff,decide_eq_false_iff_not] at h ⊢
 obtain ⟨⟨⟨⟨⟨⟨⟨⟨a1,a2⟩,a3⟩,a4⟩,a5⟩,a6⟩,a7⟩,a8⟩,b,d⟩:=h
 exact ⟨⟨⟨⟨⟨⟨⟨⟨a1,a2⟩,a3⟩,a4⟩,by show ¬ g<0;omega⟩,by show ¬ g≥8;omega⟩,a7⟩,a8⟩,b,d⟩
def B99 (X:CX) (i t g:Int):List Value × CX :=
 if (H1 X i).2≠0 then (I4 0 (H1 X i).2 false,X)
 else if ¬ ((0≤t∧t<8)∧(0≤g∧g<8)) then (I4 0 122 false,X)
 else if Bx5 X i t≠0 then (I4 0 (Bx5 X i t) false,X)
 else if g≠t∧E51 X g=false then (I4 0 101 false,X)
 else (I4 0 0 false,Bk2 X t (Gz4 (vS X t).1 g))
theorem H72 (b k:Nat) (F:Fr) (X:CX) (ok:FrOk F) {nc:Nat} (c:Clean nc X) (i t g:Int) (hi:0≤i∧i<8):Ct A7 Bz1 [P0 b,int i,int t,int g] [cmC b k F X] fun v own=>v=.agg ⟨(B99 X i t g).1⟩∧own [cmC b k F (B99 X i t g).2]:=by
 unfold B99
 refine Ct.of Gy6 rfl fun h r=>Tr.eq (G28 ..) ?_;refine Je ?_
 refine Yn fun b0 h=>?_
 refine Yc (D34 b k F X ok c i hi) ?_;rintro _ h ⟨rfl,o⟩<;>refine Jh o ?_
 (refine Jc ?_;unhygienic intros)
 refine Yn fun b1 h=>?_
 (refine Jb ?_;unhygienic intros)
 by_cases h0:(H1 X i).2=0
 case neg =>
  rw [if_pos h0]
  refine Yt (by simpa using h0) ?_
  refine Yc (Aq5 (H1 X i).2) ?_;rintro _ h ⟨rfl,o⟩<;>(refine Jf o ?_;unhygienic intros)
  refine Ys fun o=>?_
  exact ⟨rfl,o.sub⟩
 rw [if_neg (by simpa using h0)]
 refine Yf (by simpa using h0) ?_
 obtain ⟨s1,s2,s3,s4⟩:=B48 c hi h0
 refine Yc (Gn4 t) ?_;rintro _ h ⟨rfl,o⟩<;>refine Jh o ?_
 (refine Jb ?_;unhygienic intros)
 refine Yb fun o=>Wp.mono (Q:=fun v h'=>v=decide (¬ ((0≤t∧t<8)∧(0≤g∧g<8)))∧Own h' (pt b1 (.cells B0 false (B8 (H1 X i).1))::cmC b k F X::pt b0 (.cells Q5 false Hk4)::r)) ?_ ?_
 ·refine Jh o ?_
  by_cases ht:0≤t∧t<8
  ·refine Yf (by rw [decide_eq_true ht];rfl) ?_
   refine Yc (Gn4 g) ?_;rintro _ h ⟨rfl,o⟩<;>refine Jh o ?_
   (refine Jb ?_;unhygienic intros)
   refine Ys fun o=>?_
   refine ⟨?_,o.sub⟩
   rw [Bool.eq_iff_iff,Bool.not_eq_true',decide_eq_false_iff_not,decide_eq_true_iff]
   exact ⟨fun h k=>h k.2,fun h k=>h ⟨ht,k⟩⟩
  ·refine Yt (by rw [decide_eq_false ht];rfl) ?_
   refine Ys fun o=>?_
   exact ⟨(decide_eq_true (show ¬ ((0≤t∧t<8)∧(0≤g∧g<8)) from fun h=>ht h.1)).symm,o.sub⟩
 rintro v h ⟨rfl,o⟩
 refine Jh o ?_
 by_cases h2:(0≤t∧t<8)∧(0≤g∧g<8)
 case neg =>
  rw [if_pos h2]
  refine Yt (decide_eq_true h2) ?_
  refine Yc (Aq5 122) ?_;rintro _ h ⟨rfl,o⟩<;>(refine Jf o ?_;unhygienic intros)
  refine Ys fun o=>?_
  exact ⟨rfl,o.sub⟩
 rw [if_neg (fun h=>h h2)]
 refine Yf (decide_eq_false (fun h=>h h2)) ?_
 obtain ⟨ht,hg⟩:=h2
 refine Yc (H39 b k F X ok c i t hi ht) ?_;rintro _ h ⟨rfl,o⟩<;>refine Jh o ?_
 (refine Jc ?_;unhygienic intros)
 refine Yn fun b2 h=>?_
 (refine Jb ?_;unhygienic intros)
 by_cases h3:Bx5 X i t=0
 case neg =>
  rw [if_pos h3]
  refine Yt (by simpa using h3) ?_
  refine Yc (Aq5 (Bx5 X i t)) ?_;rintro _ h ⟨rfl,o⟩<;>(refine Jf o ?_;unhygienic intros)
  refine Ys fun o=>?_
  exact ⟨rfl,o.sub⟩
 rw [if_neg (by simpa using h3)]
 refine Yf (by simpa using h3) ?_
 refine Yb fun o=>Wp.mono (Q:=fun v h'=>v=decide (g≠t∧E51 X g=false)∧Own h' (pt b2 (.cells B0 false (B8 (vS X t).1))::cmC b k F X::pt b0 (.cells Q5 false Hk4)::r)) ?_ ?_
 ·refine Jh o ?_
  by_cases hgt:g=t
  ·refine Yf (by simpa using hgt) ?_
   refine Ys fun o=>?_
   exact ⟨(decide_eq_false fun h=>h.1 hgt).symm,o.sub⟩
  ·refine Yt (by simpa using hgt) ?_
   refine Yc (Ii1 b k F X ok c g) ?_;rintro _ h ⟨rfl,o⟩<;>refine Jh o ?_
   (refine Jb ?_;unhygienic intros)
   refine Ys fun o=>?_
   refine ⟨?_,o.sub⟩
   rw [Bool.eq_iff_iff,Bool.not_eq_true',decide_eq_true_iff]
   exact ⟨fun h=>⟨hgt,h⟩,fun h=>h.2⟩
 rintro v h ⟨rfl,o⟩
 refine Jh o ?_
 by_cases h4:g≠t∧E51 X g=false
 ·rw [if_pos h4]
  refine Yt (decide_eq_true h4) ?_
  refine Yc (Aq5 101) ?_;rintro _ h ⟨rfl,o⟩<;>(refine Jf o ?_;unhygienic intros)
  refine Ys fun o=>?_
  exact ⟨rfl,o.sub⟩
 rw [if_neg h4]
 refine Yf (decide_eq_false h4) ?_
 have hin:=Bi5 (rd X ⟨1,t⟩)
 have hok:okS (vS X t).1=true:=by
  unfold Bx5 at h3
  split at h3
  ·rename_i e;rw [e];exact s3
  ·split at h3
   ·simp at h3
   ·rename_i h5
    rcases Er6 c ht with ⟨h6,_⟩|⟨_,h6⟩
    ·exact absurd (.inl (by rw [h6];decide)) h5
    ·exact h6
 have hw:=(Aq6 c ht (Hh2 hok hg) ⟨hin.a,hin.b,hin.c,hin.d⟩).1
 (refine Ja ?_;unhygienic intros)
 simp only [List.set_cons_succ,List.set_cons_zero]
 refine (?_:Tr (pt b2 (.cells B0 false (B8 (Gz4 (vS X t).1 g)))::_) _ _ _)
 generalize Gz4 (vS X t).1 g=p2 at *
 (refine Ja ?_;unhygienic intros)
 refine Yc (Dx4 b k F X ok t p2) ?_;rintro _ h ⟨rfl,o⟩<;>refine Jh o ?_
 rw [hw]
 dsimp only
 (refine Ja ?_;unhygienic intros)
 refine Yc (Gj3 true 0) ?_;rintro _ h ⟨rfl,o⟩<;>refine Jh o ?_
 rw [if_pos trivial]
 (refine Ja ?_;unhygienic intros)
 refine Ys fun o=>?_
 exact ⟨rfl,o.sub⟩
def Ai7 (V:VW) (q:Int→ProcS→Bool):Nat→Int→List (Int × ProcS)
 | 0,_=>[]
 | m+1,i=>if (V.S i).2=1∧q i (V.S i).1=true then (i,(V.S i).1)::Ai7 V q m (i+1) else Ai7 V q m (i+1)
theorem See.slots {X V} (A:See X V) (q:Int→ProcS→Bool):∀ (m:Nat) (i:Int),0≤i→i+m≤8→J5 X q m i=Ai7 V q m i
 | 0,_,_,_=>rfl
 | m+1,i,h0,hm=>by rw [J5,Ai7,A.slots q m (i+1) (by omega) (by omega),A.s i (by omega)]
abbrev Bb3 (n:Int):Int:=2 ^ n.toNat
theorem Hy1 {P:Int→Prop} {n:Int} (h:1≤n∧n≤15) (h1:P 1) (h2:P 2) (h3:P 3) (h4:P 4) (h5:P 5) (h6:P 6) (h7:P 7) (h8:P 8) (h9:P 9) (h10:P 10) (h11:P 11) (h12:P 12) (h13:P 13) (h14:P 14) (h15:P 15):P n:=by
 have:n=1∨n=2∨n=3∨n=4∨n=5∨n=6∨n=7∨n=8∨n=9∨n=10∨n=11∨n=12∨n=13∨n=14∨n=15:=by omega
 rcases this with rfl|rfl|rfl|rfl|rfl|rfl|rfl|rfl|rfl|rfl|rfl|rfl|rfl|rfl|rfl<;>assumption
theorem Ik3 {n:Int} (h:1≤n∧n≤15):IntKind.wrap .i64 (1*2 ^ (min (IntKind.wrap .u64 n).toNat 64))=Bb3 n∧0≤IntKind.wrap .u64 n:=by
 refine Hy1 (P:=fun n=>IntKind.wrap .i64 (1*2 ^ (min (IntKind.wrap .u64 n).toNat 64))=Bb3 n∧0≤IntKind.wrap .u64 n) h ?_ ?_ ?_ ?_ ?_ ?_ ?_ ?_ ?_ ?_ ?_ ?_ ?_ ?_ ?_<;>exact ⟨by decide,by decide⟩
theorem Ig5 {n:Int} (h:1≤n∧n≤15):BitVec.ofInt 64 (Bb3 n) &&& ~~~ BitVec.ofInt 64 65534=0#64:=by
 refine Hy1 (P:=fun n=>BitVec.ofInt 64 (Bb3 n) &&& ~~~ BitVec.ofInt 64 65534=0#64) h ?_ ?_ ?_ ?_ ?_ ?_ ?_ ?_ ?_ ?_ ?_ ?_ ?_ ?_ ?_<;>decide
theorem Il2 (a b:Int):BitVec.ofInt 64 (B53 .i64 a b)=BitVec.ofInt 64 a ||| BitVec.ofInt 64 b:=by
 unfold B53;rw [Gd2];exact Gu6 _
theorem bv7 {x b m:BitVec 64} (h:x &&& ~~~ m=0#64) (h2:b &&& ~~~ m=0#64):(x ||| b) &&& ~~~ m=0#64:=by
 rw [show (x ||| b) &&& ~~~ m=(x &&& ~~~ m) ||| (b &&& ~~~ m) from ?_,h,h2];rfl
 apply BitVec.eq_of_getLsbD_eq;intro i hi
 simp only [BitVec.getLsbD_and,BitVec.getLsbD_or,BitVec.getLsbD_not]
 cases x.getLsbD i<;>cases b.getLsbD i<;>simp
theorem bv8 {x m:BitVec 64} (c:BitVec 64) (h:x &&& ~~~ m=0#64):(x &&& ~~~ c) &&& ~~~ m=0#64:=by
 rw [show (x &&& ~~~ c) &&& ~~~ m=(x &&& ~~~ m) &&& ~~~ c from ?_,h];simp
 apply BitVec.eq_of_getLsbD_eq;intro i hi
 simp only [BitVec.getLsbD_and,BitVec.getLsbD_not,decide_eq_true hi,Bool.true_and]
 cases x.getLsbD i<;>cases c.getLsbD i<;>cases m.getLsbD i<;>rfl
abbrev Br5 (y:Int):Prop:=BitVec.ofInt 64 y &&& ~~~ BitVec.ofInt 64 65534=0#64
theorem Ia8 {y:Int} (h:Bo9 y 0=true):Br5 y:=by
 unfold Bo9 at h
 simp only [Bool.and_eq_true,beq_iff_eq] at h
 unfold Br5
 rw [← Ii6,h.1];rfl
theorem Hz0 {y:Int} (h:Br5 y):Bo9 y 0=true:=by
 unfold Bo9
 rw [Ii7 h,Ie9 (by simp)];rfl
theorem G10 {x:BitVec 64} (h:Br5 (IntKind.wrap .i64 x.toNat)):0≤IntKind.wrap .i64 (x.toNat:Int)∧IntKind.wrap .i64 (x.toNat:Int)≤65535:=by
 unfold Br5 at h
 rw [Gd2,Gu6] at h
 have e:x=x &&& BitVec.ofInt 64 65534:=by
  apply BitVec.eq_of_getLsbD_eq;intro i hi
  have:=congrArg (fun z=>z.getLsbD i) h
  simp only [BitVec.getLsbD_and,BitVec.getLsbD_not,BitVec.getLsbD_zero,decide_eq_true hi,Bool.true_and] at this ⊢
  revert this
  generalize x.getLsbD i=u
  generalize (BitVec.ofInt 64 65534).getLsbD i=w
  cases u<;>cases w<;>decide
 have h2:x.toNat≤65534:=by
  rw [e,BitVec.toNat_and];exact Nat.and_le_right
 rw [A6];omega
theorem If3 {y n:Int} (h:Br5 y) (hn:1≤n∧n≤15):Br5 (B53 .i64 y (Bb3 n))∧0≤B53 .i64 y (Bb3 n)∧B53 .i64 y (Bb3 n)≤65535:=by
 have k:Br5 (B53 .i64 y (Bb3 n)):=by unfold Br5;rw [Il2];exact bv7 h (Ig5 hn)
 exact ⟨k,G10 k⟩
theorem Ht3 {y:Int} (h:Br5 y) (c:Int):Br5 (Ai6 .i64 y c)∧0≤Ai6 .i64 y c∧Ai6 .i64 y c≤65535:=by
 have k:Br5 (Ai6 .i64 y c):=by unfold Br5;rw [Ii6];exact bv8 _ h
 exact ⟨k,G10 k⟩
abbrev B87 (p:ProcS) (s n:Int):ProcS:=⟨s,p.parent,p.group,p.code,n,p.mask,p.ignored,p.caught,p.fds,p.len⟩
abbrev B74 (p:ProcS) (n:Int):Int:=if D6 .i64 p.ignored (Bb3 n)=0∨D6 .i64 (Bb3 n) 16896≠0 then B53 .i64 p.pending (Bb3 n) else p.pending
abbrev Et7 (p:ProcS) (n:Int):Int:=if Bb3 n=32768 then Ai6 .i64 (B74 p n) 16384 else if Bb3 n=16384 then Ai6 .i64 (B74 p n) 32768 else B74 p n
abbrev st2 (p:ProcS) (n:Int):Int:=if (Bb3 n=512∨Bb3 n=32768)∧p.state=3 then 1 else p.state
abbrev Bg0 (p:ProcS) (n:Int):Prop:=(1≤n∧n≤15)∧(p.state=1∨p.state=3)
def Ar5 (p:ProcS) (n:Int):ProcS:=B87 p (st2 p n) (Et7 p n)
theorem Gw4 {p:ProcS} (h:okS p=true) (r:InS p) {n:Int} (c:Bg0 p n):okS (Ar5 p n)=true∧InS (Ar5 p n):=by
 obtain ⟨hn,hs⟩:=c
 unfold okS at h
 rw [if_neg (by omega)] at h
 simp only [Bool.and_eq_true,Bool.not_eq_true',Bool.or_eq_false_iff,decide_eq_false_iff_not] at h
 obtain ⟨⟨⟨⟨⟨⟨⟨⟨a1,a2⟩,a3⟩,a4⟩,a5⟩,a6⟩,a7⟩,a8⟩,⟨⟨⟨⟨b1,b2⟩,b3⟩,b4⟩,b5⟩,d1,d2⟩:=h
 have i0:=Ia8 (by simpa using b1)
 have i1:Br5 (B74 p n)∧0≤B74 p n∧B74 p n≤65535:=by
  unfold B74;split
  ·exact If3 i0 hn
  ·exact ⟨i0,r.a⟩
 have i2:Br5 (Et7 p n)∧0≤Et7 p n∧Et7 p n≤65535:=by
  unfold Et7;split
  ·exact Ht3 i1.1 _
  ·split
   ·exact Ht3 i1.1 _
   ·exact i1
 have hst:st2 p n=1∨st2 p n=3:=by unfold st2;split<;>omega
 refine ⟨?_,⟨i2.2,r.b,r.c,r.d⟩⟩
 unfold okS
 rw [if_neg (show ¬ (Ar5 p n).state=2 by show ¬ st2 p n=2;omega)]
 simp only [Bool.and_eq_true,Bool.not_eq_true',Bool.or_eq_false_iff,decide_eq_false_iff_not]
 refine ⟨⟨⟨⟨⟨⟨⟨⟨?_,?_⟩,a3⟩,a4⟩,a5⟩,a6⟩,a7⟩,a8⟩,⟨⟨⟨⟨?_,b2⟩,b3⟩,b4⟩,b5⟩,d1,d2⟩
 ·show ¬ st2 p n<1;omega
 ·show ¬ st2 p n>3;omega
 ·show (!Bo9 (Et7 p n) 0)=false;rw [Hz0 i2.1];rfl
theorem Ht4 (n:Int):Ct A7 D99 [int n] [] fun v own=>v=.bool (decide (1≤n∧n≤15))∧own []:=by
 refine Ct.of H51 rfl fun h r=>Tr.eq (H15 ..) ?_;refine Je ?_
 by_cases h1:1≤n
 ·refine Yb (Yt (by simpa using h1) ?_)
  refine Ys fun o=>(?_:Tr _ _ _ _) o;refine Je ?_
  refine Ys fun o=>?_
  exact ⟨by rw [decide_eq_decide.2 (show n≤15↔1≤n∧n≤15 by omega)],o.sub⟩
 ·refine Yb (Yf (by simpa using h1) ?_)
  refine Ys fun o=>(?_:Tr _ _ _ _) o;refine Je ?_
  refine Ys fun o=>?_
  exact ⟨by rw [decide_eq_false (show ¬ (1≤n∧n≤15) by omega)],o.sub⟩
abbrev rs2 (p:ProcS) (b:Int):ProcS:=B87 p p.state (if b=32768 then Ai6 .i64 p.pending 16384 else if b=16384 then Ai6 .i64 p.pending 32768 else p.pending)
theorem Hd7 (b0 b1:Nat) (p:ProcS) (b:Int):CtJ E9 Q3 Bj6 [(2,P0 b0),(4,P0 b1),(6,int b)] [pt b0 (.cells B0 false (B8 p)),pt b1 (.cells B0 false Dg3)] fun v own=>v=.tuple ⟨[.agg ⟨B8 (rs2 p b)⟩,.bool true]⟩∧own []:=by
 obtain ⟨st,pa,gr,co,pe,ma,ig,ca,fds,len⟩:=p
 unfold rs2 B87
 dsimp only
 refine CtJ.of Dv1 fun h r=>Tr.eq (Gd8 ..) ?_;refine Je ?_
 by_cases h1:b=32768
 ·rw [if_pos h1]
  refine Yt (by simpa using h1) ?_
  (refine Jb ?_;unhygienic intros)
  refine (?_:Tr (pt _ (.cells B0 false (B8 ⟨st,pa,gr,co,Ai6 .i64 pe 16384,ma,ig,ca,fds,len⟩))::_) _ _ _)
  generalize hp2:(⟨st,pa,gr,co,Ai6 .i64 pe 16384,ma,ig,ca,fds,len⟩:ProcS)=p2
  (refine Ja ?_;unhygienic intros)
  refine Ys fun o=>?_
  exact ⟨rfl,o.sub⟩
 rw [if_neg h1]
 refine Yf (by simpa using h1) ?_
 by_cases h2:b=16384
 ·rw [if_pos h2]
  refine Yt (by simpa using h2) ?_
  (refine Jb ?_;unhygienic intros)
  refine (?_:Tr (pt _ (.cells B0 false (B8 ⟨st,pa,gr,co,Ai6 .i64 pe 32768,ma,ig,ca,fds,len⟩))::_) _ _ _)
  generalize hp2:(⟨st,pa,gr,co,Ai6 .i64 pe 32768,ma,ig,ca,fds,len⟩:ProcS)=p2
  (refine Ja ?_;unhygienic intros)
  refine Ys fun o=>?_
  exact ⟨rfl,o.sub⟩
 rw [if_neg h2]
 refine Yf (by simpa using h2) ?_
 generalize hp2:(⟨st,pa,gr,co,pe,ma,ig,ca,fds,len⟩:ProcS)=p2
 (refine Ja ?_;unhygienic intros)
 refine Ys fun o=>?_
 exact ⟨rfl,o.sub⟩
abbrev rs1 (p:ProcS) (b:Int):ProcS:=B87 p (if (b=512∨b=32768)∧p.state=3 then 1 else p.state) p.pending
theorem Ha5 (b0 b1:Nat) (p:ProcS) (b:Int):CtJ E9 Q3 A43 [(2,P0 b0),(4,P0 b1),(6,int b)] [pt b0 (.cells B0 false (B8 p)),pt b1 (.cells B0 false Dg3)] fun v own=>v=.tuple ⟨[.agg ⟨B8 (rs2 (rs1 p b) b)⟩,.bool true]⟩∧own []:=by
 have J:=Hd7 b0 b1 (rs1 p b) b
 obtain ⟨st,pa,gr,co,pe,ma,ig,ca,fds,len⟩:=p
 generalize hq:rs2 (rs1 ⟨st,pa,gr,co,pe,ma,ig,ca,fds,len⟩ b) b=q2 at J ⊢
 unfold rs1 B87 at J
 dsimp only at J
 refine CtJ.of Dv1 fun h r=>Tr.eq (Gh0 ..) ?_;refine Je ?_
 refine Yb fun o=>Wp.mono (Q:=fun v h'=>v=decide (b=512∨b=32768)∧Own h' (pt b0 (.cells B0 false (B8 ⟨st,pa,gr,co,pe,ma,ig,ca,fds,len⟩))::pt b1 (.cells B0 false Dg3)::r)) ?_ ?_
 ·refine Jh o ?_
  by_cases h1:b=512
  ·refine Yt (by simpa using h1) ?_
   refine Ys fun o=>?_
   exact ⟨(decide_eq_true (.inl h1)).symm,o⟩
  ·refine Yf (by simpa using h1) ?_
   refine Ys fun o=>?_
   exact ⟨by rw [Bool.eq_iff_iff,beq_iff_eq,decide_eq_true_iff];exact ⟨.inr,fun h=>h.elim (fun h=>absurd h h1) id⟩,o⟩
 rintro v h ⟨rfl,o⟩
 refine Jh o ?_
 refine Yb fun o=>Wp.mono (Q:=fun v h'=>v=decide ((b=512∨b=32768)∧st=3)∧Own h' (pt b0 (.cells B0 false (B8 ⟨st,pa,gr,co,pe,ma,ig,ca,fds,len⟩))::pt b1 (.cells B0 false Dg3)::r)) ?_ ?_
 ·refine Jh o ?_
  by_cases h1:b=512∨b=32768
  ·refine Yt (decide_eq_true h1) ?_
   (refine Jb ?_;unhygienic intros)
   refine Ys fun o=>?_
   exact ⟨by rw [Bool.eq_iff_iff,beq_iff_eq,decide_eq_true_iff];exact ⟨fun h=>⟨h1,h⟩,fun h=>h.2⟩,o⟩
  ·refine Yf (decide_eq_false h1) ?_
   refine Ys fun o=>?_
   exact ⟨(decide_eq_false fun h=>h1 h.1).symm,o⟩
 rintro v h ⟨rfl,o⟩
 refine Jh o ?_
 by_cases h1:(b=512∨b=32768)∧st=3
 ·rw [if_pos h1] at J
  refine Yt (decide_eq_true h1) ?_
  (refine Jb ?_;unhygienic intros)
  refine (?_:Tr (pt _ (.cells B0 false (B8 ⟨1,pa,gr,co,pe,ma,ig,ca,fds,len⟩))::_) _ _ _)
  exact Yr J fun v h q=>q
 ·rw [if_neg h1] at J
  refine Yf (decide_eq_false h1) ?_
  exact Yr J fun v h q=>q
theorem H06 (p:ProcS) (n:Int):Ct A7 Q3 [.agg ⟨B8 p⟩,int n] [] fun v own=>v=.tuple ⟨[.agg ⟨B8 (if Bg0 p n then Ar5 p n else p)⟩,.bool (decide (Bg0 p n))]⟩∧own []:=by
 refine Ct.of Dv1 rfl fun h r=>Tr.eq (Hd0 ..) ?_;refine Je ?_
 refine Yn fun b0 h=>?_
 refine Yn fun b1 h=>?_
 refine Yc (Ht4 n) ?_;rintro _ h ⟨rfl,o⟩<;>refine Jh o ?_
 (refine Jb ?_;unhygienic intros)
 refine Yb fun o=>Wp.mono (Q:=fun v h'=>v=!decide (Bg0 p n)∧Own h' (pt b1 (.cells B0 false Dg3)::pt b0 (.cells B0 false (B8 p))::r)) ?_ ?_
 ·refine Jh o ?_
  by_cases hn:1≤n∧n≤15
  case neg =>
   refine Yt (by rw [decide_eq_false hn];rfl) ?_
   refine Ys fun o=>?_
   exact ⟨by rw [decide_eq_false (fun h=>hn h.1)];rfl,o⟩
  refine Yf (by rw [decide_eq_true hn];rfl) ?_
  (refine Jb ?_;unhygienic intros)
  by_cases h1:p.state=1
  ·refine Yb (Yf (by rw [h1];rfl) ?_)
   refine Ys fun o=>(?_:Tr _ _ _ _) o;refine Je ?_
   refine Ys fun o=>?_
   exact ⟨by rw [decide_eq_true ⟨hn,.inl h1⟩];rfl,o⟩
  ·refine Yb (Yt (by simpa using h1) ?_)
   (refine Jb ?_;unhygienic intros)
   refine Ys fun o=>(?_:Tr _ _ _ _) o;refine Je ?_
   refine Ys fun o=>?_
   refine ⟨?_,o⟩
   rw [Bool.eq_iff_iff,Bool.not_eq_true',decide_eq_false_iff_not,bne_iff_ne]
   exact ⟨fun h k=>k.2.elim h1 h,fun h k=>h ⟨hn,.inr k⟩⟩
 rintro v h ⟨rfl,o⟩
 refine Jh o ?_
 by_cases hc:Bg0 p n
 case neg =>
  rw [if_neg hc,decide_eq_false hc]
  refine Yt rfl ?_
  (refine Ja ?_;unhygienic intros)
  refine Ys fun o=>?_
  exact ⟨rfl,o.sub⟩
 rw [if_pos hc,decide_eq_true hc]
 refine Yf rfl ?_
 obtain ⟨e1,e2⟩:=Ik3 hc.1
 rw [e1]
 refine Tr.ck e2 ?_
 have J:CtJ E9 Q3 A43 [(2,P0 b0),(4,P0 b1),(6,int (Bb3 n))] [pt b0 (.cells B0 false (B8 (B87 p p.state (B74 p n)))),pt b1 (.cells B0 false Dg3)] fun v own=>v=.tuple ⟨[.agg ⟨B8 (Ar5 p n)⟩,.bool true]⟩∧own []:=Ha5 b0 b1 (B87 p p.state (B74 p n)) (Bb3 n)
 generalize Ar5 p n=p2 at *
 unfold B87 B74 at J
 generalize Bb3 n=b at *
 obtain ⟨st,pa,gr,co,pe,ma,ig,ca,fds,len⟩:=p
 dsimp only at J
 (refine Jb ?_;unhygienic intros)
 refine Yb fun o=>Wp.mono (Q:=fun v h'=>v=decide (D6 .i64 ig b=0∨D6 .i64 b 16896≠0)∧Own h' (pt b1 (.cells B0 false Dg3)::pt b0 (.cells B0 false (B8 ⟨st,pa,gr,co,pe,ma,ig,ca,fds,len⟩))::r)) ?_ ?_
 ·refine Jh o ?_
  by_cases h1:D6 .i64 ig b=0
  ·refine Yt (by simpa using h1) ?_
   refine Ys fun o=>?_
   exact ⟨(decide_eq_true (.inl h1)).symm,o⟩
  ·refine Yf (by simpa using h1) ?_
   refine Ys fun o=>?_
   exact ⟨by rw [Bool.eq_iff_iff,bne_iff_ne,decide_eq_true_iff];exact ⟨.inr,fun h=>h.elim (fun h=>absurd h h1) id⟩,o⟩
 rintro v h ⟨rfl,o⟩
 refine Jh o ?_
 by_cases h1:D6 .i64 ig b=0∨D6 .i64 b 16896≠0
 ·rw [if_pos h1] at J
  refine Yt (decide_eq_true h1) ?_
  (refine Jb ?_;unhygienic intros)
  refine (?_:Tr (_::pt _ (.cells B0 false (B8 ⟨st,pa,gr,co,B53 .i64 pe b,ma,ig,ca,fds,len⟩))::_) _ _ _)
  exact Yr J fun v h q=>q
 ·rw [if_neg h1] at J
  refine Yf (decide_eq_false h1) ?_
  exact Yr J fun v h q=>q
theorem Eq1 {β:Type} {a b:Bool} {h:NN.H} {K:Bool→NN.H→Option (β × NN.H)}:bnd (cond a (some (true,h)) (some (b,h))) K=K (a || b) h:=by cases a<;>rfl
theorem He4 (bi:Nat) (t:Int) (ht:0≤t∧t≤15) (j:Int) (p:ProcS):Ct A7 Ar8 [.agg ⟨int j::B8 p⟩,P0 bi] [pt bi (.cells B3 false [int t])] fun v own=>v=.bool (inG (t-8) j p)∧own [pt bi (.cells B3 false [int t])]:=by
 have e1:IntKind.wrap .i64 (t-8)=t-8:=by rw [A6];omega
 refine Ct.of E18 rfl fun h r=>Tr.eq (E44 ..) ?_;refine Je ?_
 refine Yn fun b h=>?_
 (refine Ja ?_;unhygienic intros)
 refine Yc (E28 j p) ?_;rintro _ h ⟨rfl,o⟩<;>refine Jh o ?_
 (refine Jb ?_;unhygienic intros)
 by_cases h2:p.state=2
 ·refine Yb (Yf (by simpa using h2) ?_)
  refine Ys fun o=>(?_:Tr _ _ _ _) o;refine Je ?_
  refine Ys fun o=>?_
  exact ⟨by rw [show inG (t-8) j p=false by unfold inG;simp [h2]],o.sub⟩
 ·refine Yb (Yt (by simpa using h2) ?_)
  (refine Jb ?_;unhygienic intros)
  refine Ys fun o=>(?_:Tr _ _ _ _) o;refine Je ?_
  refine Ys fun o=>?_
  rw [e1]
  exact ⟨by rw [show inG (t-8) j p=(p.group==t-8) by unfold inG;simp [h2]],o.sub⟩
def A65 (X:CX) (t:Int):List (Int × ProcS):=if t≥8 then J5 X (inG (t-8)) 8 0 else if (vS X t).2=0 then [] else [(t,(vS X t).1)]
theorem Eo3 {X:CX} (q:Int→ProcS→Bool):∀ (m:Nat) (i:Int),∀ s ∈ J5 X q m i,InS s.2
 | 0,i,s,hs=>by simp [J5] at hs
 | m+1,i,s,hs=>by
  rw [J5] at hs
  split at hs
  ·rcases List.mem_cons.1 hs with rfl|h2
   ·exact Bi5 _
   ·exact Eo3 q m (i+1) s h2
  ·exact Eo3 q m (i+1) s hs
theorem Gx6 {nc:Nat} {X:CX} (c:Clean nc X) {t:Int} (ht:0≤t∧t≤15):∀ s ∈ A65 X t,(0≤s.1∧s.1<8)∧okS s.2=true∧InS s.2:=by
 intro s hs
 unfold A65 at hs
 split at hs
 ·obtain ⟨h1,h2,h3⟩:=Df0 c _ 8 0 (by omega) (by omega) s hs
  exact ⟨⟨h1,h2⟩,h3,Eo3 _ 8 0 s hs⟩
 ·split at hs
  ·cases hs
  ·rename_i h8 h0
   rw [List.mem_singleton] at hs
   subst hs
   refine ⟨⟨ht.1,by simp only;omega⟩,?_,Bi5 _⟩
   rcases Er6 c (i:=t) (by omega) with ⟨h1,_⟩|⟨_,h2⟩
   ·exact absurd h1 h0
   ·exact h2
theorem Hk5 (b k:Nat) (F:Fr) (X:CX) (ok:FrOk F) {nc:Nat} (c:Clean nc X) (t:Int) (ht:0≤t∧t≤15):Ct A7 Bj0 [P0 b,int t] [cmC b k F X] fun v own=>∃ a ac,v=.tuple ⟨[.slice a (A65 X t).length ac,int (if (A65 X t).length=0 then 103 else 0)]⟩∧own [slC false G4 17 a (A65 X t).length ac ((A65 X t).flatMap Bc3),cmC b k F X]:=by
 have hk:t<8→(vS X t).2=0∨(vS X t).2=1:=fun h=>by
  rcases Er6 c (i:=t) (by omega) with ⟨h1,_⟩|⟨h1,_⟩
  ·exact .inl h1
  ·exact .inr h1
 unfold A65
 refine Ct.of Gf0 rfl fun h r=>Tr.eq (Gj5 ..) ?_;refine Je ?_
 refine Yn fun bi h=>?_
 (refine Jb ?_;unhygienic intros)
 by_cases h8:t≥8
 ·rw [if_pos h8]
  refine Yt (decide_eq_true h8) ?_
  refine Yc (E48 b k F X ok c (pt bi (.cells B3 false [int t])) Ar8 [P0 bi] (inG (t-8)) (fun j p=>He4 bi t ht j p)) ?_;rintro _ h ⟨a,ac,rfl,o⟩<;>refine Jh o ?_
  (refine Jb ?_;unhygienic intros)
  by_cases hz:(J5 X (inG (t-8)) 8 0).length=0
  ·refine Yt (by simp [hz]) ?_
   refine Ys fun o=>?_
   have e:J5 X (inG (t-8)) 8 0=[]:=List.eq_nil_of_length_eq_zero hz
   rw [e]
   exact ⟨none,0,rfl,o.sub.slNil false G4 (by omega)⟩
  ·refine Yf (by simpa using hz) ?_
   refine Ys fun o=>?_
   rw [if_neg hz]
   exact ⟨a,ac,rfl,o.sub⟩
 rw [if_neg h8]
 refine Yf (decide_eq_false h8) ?_
 (refine Jb ?_;unhygienic intros)
 refine Yc (Br0 b k F X ok t) ?_;rintro _ h ⟨rfl,o⟩<;>refine Jh o ?_
 rw [Az1 c (by omega)]
 dsimp only
 generalize (vS X t).1=p at *
 generalize (vS X t).2=st at *
 (refine Jc ?_;unhygienic intros)
 refine Yn fun b1 h=>?_
 (refine Jb ?_;unhygienic intros)
 rcases hk (by omega) with h1|h1
 ·rw [if_pos h1]
  refine Yt (by simpa using h1) ?_
  refine Ys fun o=>?_
  exact ⟨none,0,rfl,o.sub.slNil false G4 (by omega)⟩
 ·rw [if_neg (by omega)]
  refine Yf (by rw [h1];rfl) ?_
  refine Yf (by rw [h1];rfl) ?_
  (refine Jb ?_;unhygienic intros)
  refine Tr.ck (by rw [List.append_nil];exact Ae3 t p) ?_
  refine Yn fun b2 h=>?_
  rw [List.append_nil,List.append_nil]
  refine Ae0 0 rfl 17 1 (by rw [Ae3]) (by omega) ?_
  refine (?_:Tr (slC false G4 17 (some ⟨b2,0,none⟩) 1 1 (int t::B8 p)::_::cmC b k F X::_) _ _ _)
  refine Ys fun o=>?_
  refine ⟨some ⟨b2,0,none⟩,1,rfl,?_⟩
  rw [show List.flatMap Bc3 [(t,p)]=int t::B8 p from List.append_nil _,show [(t,p)].length=1 from rfl]
  exact o.sub
def Dh6 (X:CX) (n:Int):List (Int × ProcS)→CX
 | []=>X
 | s::l=>Dh6 (if Bg0 s.2 n then Bk2 X s.1 (Ar5 s.2 n) else X) n l
def Gx4 (L:List (Int × ProcS)):Prop:=∀ s ∈ L,(0≤s.1∧s.1<8)∧okS s.2=true∧InS s.2
instance {j:Int} {p:ProcS}:PartC (int j::B8 p) 1 16 (B8 p):=⟨by
 unfold B70
 rw [Nat.ble_eq_true_of_le (by rw [Ae3];omega),List.drop_succ_cons,List.drop_zero,List.take_of_length_le (by rw [Bv1];omega)];rfl⟩
theorem Hk9 (b k:Nat) (F:Fr) (ok:FrOk F) {nc:Nat} (n:Int) (b4:Nat) (L:List (Int × ProcS)) (hL:Gx4 L) (h8:L.length≤8) (a:Option Addr) (ac:Nat):∀ (m i:Nat) (X:CX),Clean nc X→i+m=L.length →
  CtJ E9 Ap9 Bj5 [(0,P0 b),(3,int n),(8,P0 b4),(53,.slice a L.length ac),(54,int L.length),(55,int i)] [slC false G4 17 a L.length ac (L.flatMap Bc3),pt b4 (.cells Q5 false Hk4),cmC b k F X] fun v own =>
   v=.agg ⟨I4 0 0 false⟩∧own [cmC b k F (Dh6 X n (L.drop i))]:=by
 intro m
 induction m with
 | zero =>
  intro i X c hi
  rw [show L.drop i=[] from List.drop_eq_nil_of_le (by omega),show Dh6 X n []=X from rfl]
  refine CtJ.of Dy7 fun h r=>Tr.eq (D22 ..) ?_;refine Je ?_
  refine Yf (by simp;omega) ?_
  (refine Ja ?_;unhygienic intros)
  refine Ys fun o=>?_
  exact ⟨rfl,o.sub⟩
 | succ m ih =>
  intro i X c hi
  have hil:i<L.length:=by omega
  have e1:IntKind.wrap .i64 ((i:Int)+1)=((i+1:Nat):Int):=by rw [A6];omega
  have hg:L[i]?=some L[i]:=List.getElem?_eq_getElem hil
  have hd:L.drop i=L[i]::L.drop (i+1):=List.drop_eq_getElem_cons hil
  obtain ⟨r1,r2,r3⟩:=hL _ (List.getElem_mem hil)
  rw [hd]
  generalize L[i]=s at hg r1 r2 r3
  obtain ⟨j,p⟩:=s
  simp only at r1 r2 r3
  rw [show Dh6 X n ((j,p)::L.drop (i+1))=Dh6 (if Bg0 p n then Bk2 X j (Ar5 p n) else X) n (L.drop (i+1)) from rfl]
  have hpart:=Az3 (f:=Bc3) (k:=17) (fun x=>Ae3 x.1 x.2) hg
  have hlen:=P6 (f:=Bc3) (k:=17) (fun x=>Ae3 x.1 x.2) L
  refine CtJ.of Dy7 fun h r=>Tr.eq (D22 ..) ?_;refine Je ?_
  refine Yt (by simp;omega) ?_
  rw [e1]
  refine W5 0 rfl fun h1 h2 h3=>?_
  (refine Jc ?_;unhygienic intros;repeat(refine Gw ?_;rintro px rfl;refine Jc ?_;unhygienic intros))
  rw [Int.toNat_natCast]
  refine Tr.xAggS (xs:=int j::B8 p) ⟨by omega,by omega,hpart⟩ ?_
  refine Yn fun b2 h=>?_
  (refine Ja ?_;unhygienic intros)
  refine Yc (H06 p n) ?_;rintro _ h ⟨rfl,o⟩<;>refine Jh o ?_
  by_cases hc:Bg0 p n
  ·obtain ⟨k1,k2⟩:=Gw4 r2 r3 hc
   obtain ⟨w1,w2,_⟩:=Aq6 c r1 k1 k2
   rw [if_pos hc,if_pos hc,decide_eq_true hc]
   generalize Ar5 p n=p2 at *
   (refine Jc ?_;unhygienic intros)
   refine Yn fun b3 h=>?_
   (refine Jb ?_;unhygienic intros)
   refine Yb (Yt rfl ?_)
   (refine Jb ?_;unhygienic intros)
   refine Yc (Dx4 b k F X ok j p2) ?_;rintro _ h ⟨rfl,o⟩<;>refine Jh o ?_
   rw [w1]
   dsimp only
   (refine Jb ?_;unhygienic intros)
   refine Ys fun o=>(?_:Tr _ _ _ _) o;refine Je ?_
   refine Yf rfl ?_
   refine J8 [3,3,0] 2 rfl rfl ?_
   exact Yr (ih (i+1) _ w2 (by omega)) fun v h q=>q
  ·rw [if_neg hc,if_neg hc,decide_eq_false hc]
   (refine Jc ?_;unhygienic intros)
   refine Yn fun b3 h=>?_
   (refine Jb ?_;unhygienic intros)
   refine J8 [2,2,2] 2 rfl rfl ?_
   exact Yr (ih (i+1) _ c (by omega)) fun v h q=>q
def Df4 (X:CX) (i t n:Int):List Value × CX :=
 if (H1 X i).2≠0 then (I4 0 (H1 X i).2 false,X)
 else if t<0∨t>15∨n<0∨n>15 then (I4 0 122 false,X)
 else if (A65 X t).length=0 then (I4 0 103 false,X)
 else (I4 0 0 false,Dh6 X n (A65 X t))
theorem Hr4 {X:CX} {t:Int}:(A65 X t).length≤8:=by
 unfold A65;split
 ·exact D63 X _ 8 0
 ·split<;>simp
theorem Ib8 (b k:Nat) (F:Fr) (X:CX) (ok:FrOk F) {nc:Nat} (c:Clean nc X) (i t n:Int) (hi:0≤i∧i<8):Ct A7 Ap9 [P0 b,int i,int t,int n] [cmC b k F X] fun v own=>v=.agg ⟨(Df4 X i t n).1⟩∧own [cmC b k F (Df4 X i t n).2]:=by
 unfold Df4
 refine Ct.of Dy7 rfl fun h r=>Tr.eq (Hc5 ..) ?_;refine Je ?_
 refine Yn fun b0 h=>?_
 refine Yc (D34 b k F X ok c i hi) ?_;rintro _ h ⟨rfl,o⟩<;>refine Jh o ?_
 (refine Jc ?_;unhygienic intros)
 refine Yn fun b1 h=>?_
 (refine Jb ?_;unhygienic intros)
 by_cases h0:(H1 X i).2=0
 case neg =>
  rw [if_pos h0]
  refine Yt (by simpa using h0) ?_
  refine Yc (Aq5 (H1 X i).2) ?_;rintro _ h ⟨rfl,o⟩<;>(refine Jf o ?_;unhygienic intros)
  refine Ys fun o=>?_
  exact ⟨rfl,o.sub⟩
 rw [if_neg (by simpa using h0)]
 refine Yf (by simpa using h0) ?_
 rw [Eq1,Eq1,Eq1]
 rw [show (((decide (t<0) || decide (t>15)) || decide (n<0)) || decide (n>15))=decide (t<0∨t>15∨n<0∨n>15) by rw [Bool.decide_or,Bool.decide_or,Bool.decide_or,Bool.or_assoc,Bool.or_assoc]]
 by_cases h2:t<0∨t>15∨n<0∨n>15
 ·rw [if_pos h2,decide_eq_true h2]
  refine Yt rfl ?_
  refine Yc (Aq5 122) ?_;rintro _ h ⟨rfl,o⟩<;>(refine Jf o ?_;unhygienic intros)
  refine Ys fun o=>?_
  exact ⟨rfl,o.sub⟩
 rw [if_neg h2,decide_eq_false h2]
 refine Yf rfl ?_
 refine Yc (Hk5 b k F X ok c t (by omega)) ?_
 rintro _ h ⟨a,ac,rfl,o⟩
 refine Jh o ?_
 have hm:=Gx6 c (t:=t) (by omega)
 have hl8:=Hr4 (X:=X) (t:=t)
 generalize A65 X t=L at *
 (refine Jb ?_;unhygienic intros)
 by_cases h3:L.length=0
 ·rw [if_pos h3,if_pos h3]
  refine Yt rfl ?_
  refine Yc (Aq5 103) ?_;rintro _ h ⟨rfl,o⟩<;>(refine Jf o ?_;unhygienic intros)
  refine Ys fun o=>?_
  exact ⟨rfl,o.sub⟩
 rw [if_neg h3,if_neg h3]
 refine Yf rfl ?_
 refine J8 [0,2,0] 1 rfl rfl ?_
 exact Yr (Hk9 b k F ok n b0 L hm hl8 a ac L.length 0 X c (Nat.zero_add _)) fun v h q=>q
theorem Dy4 (V:VW) (q:Int→ProcS→Bool):∀ (m:Nat) (i:Int),(Ai7 V q m i).length=0↔∀ j:Int,i≤j→j<i+m→¬ ((V.S j).2=1∧q j (V.S j).1=true)
 | 0,i=>by simp [Ai7];intro j h1 h2;omega
 | m+1,i=>by
  have ih:=Dy4 V q m (i+1)
  rw [Ai7]
  by_cases h:(V.S i).2=1∧q i (V.S i).1=true
  ·rw [if_pos h]
   simp only [List.length_cons]
   constructor
   ·intro k;omega
   ·intro k;exact absurd h (k i (by omega) (by omega))
  ·rw [if_neg h,ih]
   constructor
   ·intro k j h1 h2
    by_cases hj:j=i
    ·rw [hj];exact h
    ·exact k j (by omega) (by omega)
   ·intro k j h1 h2;exact k j (by omega) (by omega)
theorem Dk9 (V:VW) (q q':Int→ProcS→Bool):∀ (m:Nat) (i:Int),(∀ j:Int,i≤j→j<i+m→(V.S j).2=1→q j (V.S j).1=q' j (V.S j).1)→Ai7 V q m i=Ai7 V q' m i
 | 0,_,_=>rfl
 | m+1,i,h=>by
  rw [Ai7,Ai7,Dk9 V q q' m (i+1) fun j h1 h2=>h j (by omega) (by omega)]
  by_cases h1:(V.S i).2=1
  ·rw [h i (by omega) (by omega) h1]
  ·rw [if_neg (fun k=>h1 k.1),if_neg (fun k=>h1 k.1)]
def Ds4 (V:VW) (n:Int):List (Int × ProcS)→VW
 | []=>V
 | s::l=>Ds4 (if Bg0 s.2 n then wS V s.1 (Ar5 s.2 n) else V) n l
theorem See.kill {n:Int}:∀ (L:List (Int × ProcS)) {X:CX} {V:VW},Gx4 L→See X V→See (Dh6 X n L) (Ds4 V n L)
 | [],X,V,_,A=>A
 | s::l,X,V,h,A=>by
  obtain ⟨h1,h2,h3⟩:=h s (by simp)
  rw [Dh6,Ds4]
  refine See.kill l (fun x hx=>h x (by simp [hx])) ?_
  by_cases hc:Bg0 s.2 n
  ·obtain ⟨r1,r2⟩:=Gw4 h2 h3 hc
   rw [if_pos hc,if_pos hc];exact A.ws h1 r1 r2
  ·rw [if_neg hc,if_neg hc];exact A
theorem E45 (V0:VW) (q:Int→ProcS→Bool) (n:Int):∀ (m:Nat) (i:Int) (V:VW) (j:Int),(Ds4 V n (Ai7 V0 q m i)).S j=if (i≤j∧j<i+m)∧((V0.S j).2=1∧q j (V0.S j).1=true)∧Bg0 (V0.S j).1 n then (Ar5 (V0.S j).1 n,1) else V.S j
 | 0,i,V,j=>by rw [if_neg (by omega)];rfl
 | m+1,i,V,j=>by
  rw [Ai7]
  by_cases h:(V0.S i).2=1∧q i (V0.S i).1=true
  ·rw [if_pos h,Ds4,E45 V0 q n m (i+1) _ j]
   by_cases hj:j=i
   ·subst hj
    rw [if_neg (by omega)]
    by_cases hc:Bg0 (V0.S j).1 n
    ·rw [if_pos hc,if_pos ⟨by omega,h,hc⟩]
     show (if j=j then _ else _)=_
     rw [if_pos rfl]
    ·rw [if_neg hc,if_neg (fun k=>hc k.2.2)]
   ·have e:(if Bg0 (i,(V0.S i).1).2 n then wS V (i,(V0.S i).1).1 (Ar5 (i,(V0.S i).1).2 n) else V).S j=V.S j:=by
     split
     ·show (if j=i then _ else _)=_;rw [if_neg hj]
     ·rfl
    rw [e]
    by_cases h2:(i+1≤j∧j<i+1+m)∧((V0.S j).2=1∧q j (V0.S j).1=true)∧Bg0 (V0.S j).1 n
    ·rw [if_pos h2,if_pos ⟨by omega,h2.2⟩]
    ·rw [if_neg h2,if_neg (fun k=>h2 ⟨by omega,k.2⟩)]
  ·rw [if_neg h,E45 V0 q n m (i+1) V j]
   by_cases h2:(i+1≤j∧j<i+1+m)∧((V0.S j).2=1∧q j (V0.S j).1=true)∧Bg0 (V0.S j).1 n
   ·rw [if_pos h2,if_pos ⟨by omega,h2.2⟩]
   ·rw [if_neg h2,if_neg (fun k=>h2 ⟨⟨by
     have:j≠i:=fun e=>h (e ▸ k.2.1)
     omega,by omega⟩,k.2⟩)]
theorem E84 (n:Int):∀ (L:List (Int × ProcS)) (V:VW),(Ds4 V n L).F=V.F∧(Ds4 V n L).P=V.P
 | [],V=>⟨rfl,rfl⟩
 | s::l,V=>by
  rw [Ds4]
  obtain ⟨h1,h2⟩:=E84 n l (if Bg0 s.2 n then wS V s.1 (Ar5 s.2 n) else V)
  rw [h1,h2];split<;>exact ⟨rfl,rfl⟩
def grS (j g p:Int):ProcS:=⟨1,if j=0 then 0 else 1,g,0,p,0,0,0,[1,0,0,0,0,0,0,0],rfl⟩
def gV (i:Int) (g p:Int→Int):VW:=⟨fun j=>if 0≤j∧j<i then (grS j (g j) (p j),1) else (.zero,0),fun j=>if j=0 then (⟨3,0,i,0⟩,1) else (.zero,0),fun j=>if j<4 then (.zero,0) else vP X1 j⟩
abbrev no0:Int→Int:=fun _=>0
abbrev H52 (g:Int→Int) (i x:Int):Int→Int:=fun j=>if j=i then x else g j
theorem gV1:See X1 (gV 1 no0 no0):=by
 refine Ik9.to (fun j hj=>?_) (fun j hj=>?_) fun j hj=>rfl
 ·show (if j=0 then (p0,(1:Int)) else _)=if 0≤j∧j<1 then _ else _
  by_cases h:j=0
  ·rw [if_pos h,if_pos (by omega),h];rfl
  ·rw [if_neg h,if_neg (by omega)]
 ·rfl
theorem Dz8 {i j:Int} {g p:Int→Int} (h:0≤j∧j<i):(gV i g p).S j=(grS j (g j) (p j),1):=if_pos h
theorem He7 {i j:Int} {g p:Int→Int} (h:0≤j∧j<i):Aw3 (gV i g p) j=(grS j (g j) (p j),0):=by unfold Aw3;rw [Dz8 h,if_pos ⟨rfl,rfl⟩]
theorem Ie1 {X:CX} {i:Int} {g:Int→Int} (hi:1≤i∧i<6) (A:See X (gV i g no0)):(A74 X 0).1=I4 i 0 false∧See (A74 X 0).2 (gV (i+1) (H52 g i (g 0)) no0):=by
 obtain ⟨e,B⟩:=A.fork (i:=0) (by omega)
 have:i=1∨i=2∨i=3∨i=4∨i=5:=by omega
 constructor
 ·rw [e];clear e A B;rcases this with rfl|rfl|rfl|rfl|rfl<;>(clear hi;kernel_rfl)
 ·refine B.to (fun j hj=>?_) (fun j hj=>?_) fun j hj=>?_
  ·have h8:j=0∨j=1∨j=2∨j=3∨j=4∨j=5∨j=6∨j=7:=by omega
   clear e A B hj
   rcases this with rfl|rfl|rfl|rfl|rfl<;>(clear hi;rcases h8 with rfl|rfl|rfl|rfl|rfl|rfl|rfl|rfl<;>(show (_:ProcS × Int)=_;kernel_rfl))
  ·have h8:j=0∨j=1∨j=2∨j=3∨j=4∨j=5∨j=6∨j=7∨j=8∨j=9∨j=10∨j=11:=by omega
   clear e A B hj
   rcases this with rfl|rfl|rfl|rfl|rfl<;>(clear hi;rcases h8 with rfl|rfl|rfl|rfl|rfl|rfl|rfl|rfl|rfl|rfl|rfl|rfl<;>(show (_:FileS × Int)=_;kernel_rfl))
  ·clear e A B
   by_cases h4:j<4
   ·have h8:j=0∨j=1∨j=2∨j=3:=by omega
    clear hj h4
    rcases this with rfl|rfl|rfl|rfl|rfl<;>(clear hi;rcases h8 with rfl|rfl|rfl|rfl<;>(show (_:PipeS × Int)=_;kernel_rfl))
   ·have h8:j=4∨j=5:=by omega
    clear hj h4
    rcases this with rfl|rfl|rfl|rfl|rfl<;>(clear hi;rcases h8 with rfl|rfl<;>(show (_:PipeS × Int)=_;kernel_rfl))
theorem H41 {X:CX} {i gr:Int} {g:Int→Int} (hi:1≤i∧i<6) (hg:0≤gr∧gr<8) (h:gr=i∨∃ j,(0≤j∧j<i)∧g j=gr) (A:See X (gV (i+1) g no0)):(B99 X 0 i gr).1=I4 0 0 false∧See (B99 X 0 i gr).2 (gV (i+1) (H52 g i gr) no0):=by
 have es:=A.self (i:=0) (by omega)
 rw [He7 (by omega)] at es
 have ei:=A.s i (by omega)
 rw [Dz8 (by omega)] at ei
 have hin:=Bi5 (rd X ⟨1,i⟩)
 have hok:okS (vS X i).1=true:=by
  rcases Er6 A.c (i:=i) (by omega) with ⟨h1,_⟩|⟨_,h2⟩
  ·rw [ei] at h1;cases h1
  ·exact h2
 have B:=A.ws (i:=i) (by omega) (Hh2 hok hg) ⟨hin.a,hin.b,hin.c,hin.d⟩
 unfold B99
 have hc:Bx5 X 0 i=0:=by
  unfold Bx5
  rw [if_neg (by omega),ei,if_neg]
  rintro (h1|h1|h1)
  ·exact h1 rfl
  ·exact h1 (show (if i=0 then (0:Int) else 1)=0+1 by rw [if_neg (by omega)];rfl)
  ·exact absurd h1 (show ¬ (1:Int)=2 by decide)
 have hh:¬ (gr≠i∧E51 X gr=false):=by
  rintro ⟨h1,h2⟩
  obtain ⟨j,hj,e⟩:=h.resolve_left h1
  unfold E51 at h2
  rw [A.slots _ 8 0 (by omega) (by omega),decide_eq_false_iff_not] at h2
  have h3:=(Dy4 (gV (i+1) g no0) (inG gr) 8 0).1 (by omega) j (by omega) (by omega)
  rw [Dz8 (by omega)] at h3
  exact h3 ⟨rfl,by show ((1:Int) != 2 && g j==gr)=true;rw [e,beq_self_eq_true];rfl⟩
 rw [es,if_neg (by simp),if_neg (by omega),if_neg (by rw [hc];simp),if_neg hh]
 refine ⟨rfl,?_⟩
 refine B.to (fun j hj=>?_) (fun j hj=>rfl) fun j hj=>rfl
 show (if j=i then (Gz4 (vS X i).1 gr,(1:Int)) else (gV (i+1) g no0).S j)=if 0≤j∧j<i+1 then (grS j (if j=i then gr else g j) 0,1) else (.zero,0)
 by_cases hj2:j=i
 ·rw [if_pos hj2,if_pos (by omega),if_pos hj2,ei,hj2];rfl
 ·rw [if_neg hj2,if_neg hj2];rfl
theorem H22 {j g n:Int} (hn:1≤n∧n≤8):Bg0 (grS j g 0) n∧Ar5 (grS j g 0) n=grS j g (2 ^ n.toNat):=by
 refine ⟨⟨by omega,.inl rfl⟩,?_⟩
 have:n=1∨n=2∨n=3∨n=4∨n=5∨n=6∨n=7∨n=8:=by omega
 rcases this with rfl|rfl|rfl|rfl|rfl|rfl|rfl|rfl<;>(clear hn;show (_:ProcS)=_;kernel_rfl)
abbrev Bb6 (g:Int→Int) (t j:Int):Prop:=t=j∨t≥8∧g j=t-8
theorem H99 {X:CX} {t n:Int} {g:Int→Int} (ht:0≤t∧t≤15) (hn:1≤n∧n≤8) (A:See X (gV 6 g no0)) :
  ((∃ j,(0≤j∧j<6)∧Bb6 g t j)∧(Df4 X 2 t n).1=I4 0 0 false∨(¬ ∃ j,(0≤j∧j<6)∧Bb6 g t j)∧(Df4 X 2 t n).1=I4 0 103 false)∧See (Df4 X 2 t n).2 (gV 6 g fun j=>if Bb6 g t j then 2 ^ n.toNat else 0):=by
 have es:=A.self (i:=2) (by omega)
 rw [He7 (by omega)] at es
 have hk:Gx4 (A65 X t):=Gx6 A.c ht
 have B:=See.kill (n:=n) _ hk A
 unfold Df4
 rw [es,if_neg (by simp),if_neg (by omega)]
 have hL:A65 X t=Ai7 (gV 6 g no0) (fun j _=>decide (Bb6 g t j)) 8 0:=by
  unfold A65
  by_cases h8:t≥8
  ·rw [if_pos h8,A.slots _ 8 0 (by omega) (by omega)]
   refine Dk9 _ _ _ 8 0 fun j h1 h2 h3=>?_
   by_cases h6:0≤j∧j<6
   ·rw [Dz8 h6]
    show ((1:Int) != 2 && g j==t-8)=_
    rw [Bool.eq_iff_iff,decide_eq_true_iff]
    show ((true && g j==t-8)=true)↔_
    rw [Bool.true_and,beq_iff_eq];omega
   ·rw [show (gV 6 g no0).S j=(.zero,0) from if_neg h6] at h3;cases h3
  ·rw [if_neg h8,A.s t (by omega)]
   rw [Dk9 (gV 6 g no0) (fun j _=>decide (Bb6 g t j)) (fun j _=>j==t) 8 0 fun j h1 h2 h3=>by rw [Bool.eq_iff_iff,decide_eq_true_iff,beq_iff_eq];omega]
   clear es hk B
   have:t=0∨t=1∨t=2∨t=3∨t=4∨t=5∨t=6∨t=7:=by omega
   rcases this with rfl|rfl|rfl|rfl|rfl|rfl|rfl|rfl<;>(clear ht h8;show (_:List (Int × ProcS))=_;kernel_rfl)
 rw [hL] at hk B ⊢
 have hz:=Dy4 (gV 6 g no0) (fun j _=>decide (Bb6 g t j)) 8 0
 have hC:See (Dh6 X n (Ai7 (gV 6 g no0) (fun j _=>decide (Bb6 g t j)) 8 0)) (gV 6 g fun j=>if Bb6 g t j then 2 ^ n.toNat else 0):=by
  obtain ⟨k1,k2⟩:=E84 n (Ai7 (gV 6 g no0) (fun j _=>decide (Bb6 g t j)) 8 0) (gV 6 g no0)
  refine B.to (fun j hj=>?_) (fun j hj=>by rw [k1];rfl) fun j hj=>by rw [k2];rfl
  rw [E45]
  by_cases h6:0≤j∧j<6
  ·obtain ⟨c1,c2⟩:=H22 (j:=j) (g:=g j) hn
   rw [Dz8 h6,Dz8 h6]
   by_cases hh:Bb6 g t j
   ·rw [if_pos ⟨by omega,⟨rfl,decide_eq_true hh⟩,c1⟩,if_pos hh]
    show (Ar5 (grS j (g j) 0) n,(1:Int))=_
    rw [c2]
   ·rw [if_neg (fun k=>hh (of_decide_eq_true k.2.1.2)),if_neg hh]
  ·rw [show (gV 6 g no0).S j=(.zero,0) from if_neg h6,if_neg (fun k=>by cases k.2.1.1)]
   exact (if_neg h6).symm
 generalize Ai7 (gV 6 g no0) (fun j _=>decide (Bb6 g t j)) 8 0=L at *
 by_cases h0:L.length=0
 ·have hL0:L=[]:=List.eq_nil_of_length_eq_zero h0
  rw [if_pos h0]
  refine ⟨.inr ⟨?_,rfl⟩,?_⟩
  ·rintro ⟨j,h6,hh⟩
   have:=hz.1 h0 j (by omega) (by omega)
   rw [Dz8 h6] at this
   exact this ⟨rfl,decide_eq_true hh⟩
  ·rw [hL0] at hC;exact hC
 ·rw [if_neg h0]
  refine ⟨.inl ⟨?_,rfl⟩,hC⟩
  refine Classical.byContradiction fun hn=>h0 (hz.2 fun j h1 h2 h3=>hn ?_)
  by_cases h6:0≤j∧j<6
  ·exact ⟨j,h6,of_decide_eq_true h3.2⟩
  ·rw [show (gV 6 g no0).S j=(.zero,0) from if_neg h6] at h3;cases h3.1
abbrev gL (gs:List Int):Int→Int:=fun j=>gs.getD j.toNat 0
theorem G48 {X:CX} {i:Int} {g g' p p':Int→Int} (A:See X (gV i g p)) (h:∀ j,0≤j∧j<i→g j=g' j∧p j=p' j):See X (gV i g' p'):=by
 refine A.to (fun j hj=>?_) (fun j hj=>rfl) fun j hj=>rfl
 by_cases hi:0≤j∧j<i
 ·rw [Dz8 hi,Dz8 hi,(h j hi).1,(h j hi).2]
 ·rw [show (gV i g p).S j=(.zero,0) from if_neg hi];exact (if_neg hi).symm
abbrev Dl8 (g:Int→Int) (t:Int) (i:Nat):Bool:=(List.range i).any fun (j:Nat)=>decide (Bb6 g t j)
theorem Hv3 (g:Int→Int) (t:Int) (i:Nat):Dl8 g t (i+1)=(Dl8 g t i || decide (Bb6 g t i)):=by
 unfold Dl8;rw [List.range_succ,List.any_append];simp
theorem Ij2 {n:Int} (h:1≤n∧n≤8):IntKind.wrap .i64 (1*2 ^ (min n.toNat 64))=2 ^ n.toNat∧(2:Int) ^ n.toNat≠0:=by
 have:n=1∨n=2∨n=3∨n=4∨n=5∨n=6∨n=7∨n=8:=by omega
 rcases this with rfl|rfl|rfl|rfl|rfl|rfl|rfl|rfl<;>exact ⟨by decide,by decide⟩
theorem Ek1 (k c bg b:Nat) (gs:List Int) (hgs:gs.length=6) (t n:Int) (ht:0≤t∧t≤15) (hn:1≤n∧n≤8) (X:CX) (A:See X (gV 6 (gL gs) fun j=>if Bb6 (gL gs) t j then 2 ^ n.toNat else 0)) (e:Int) (he:Dl8 (gL gs) t 6=true∧e=0∨Dl8 (gL gs) t 6=false∧e=103):∀ (m i:Nat),i+m=6 →
  CtJ E9 B6 Ak2 [(1,int t),(2,int n),(8,P0 c),(11,P0 bg),(14,P0 b),(15,.bool (Dl8 (gL gs) t i)),(16,int i)] [cmC c k F1 X,pt bg (.cells B35 false (gs.map int)),pt b (.cells Q5 false (I4 0 e false))] fun v own=>v=.bool true∧own []
 | 0,i,hi=>by
  obtain rfl:i=6:=by omega
  refine CtJ.of Aa5 fun h r=>Tr.eq (Bu0 ..) ?_;refine Je ?_
  refine Yf rfl ?_
  (refine Jb ?_;unhygienic intros)
  rcases he with ⟨h1,rfl⟩|⟨h1,rfl⟩
  ·rw [h1]
   refine Yb (Yt rfl ?_)
   refine Yb (Yt rfl ?_)
   refine Ys fun o=>(?_:Tr _ _ _ _) o;refine Je ?_
   refine Ys fun o=>(?_:Tr _ _ _ _) o;refine Je ?_
   refine Yb (Yt rfl ?_)
   refine Yc (Gb8) ?_;rintro _ h ⟨rfl,o⟩<;>refine Jh o ?_
   (refine Jb ?_;unhygienic intros)
   refine Ys fun o=>(?_:Tr _ _ _ _) o;refine Je ?_
   refine Ys fun o=>?_
   exact ⟨rfl,o.sub⟩
  ·rw [h1]
   refine Yb (Yt rfl ?_)
   refine Yb (Yf rfl ?_)
   (refine Jb ?_;unhygienic intros)
   refine Ys fun o=>(?_:Tr _ _ _ _) o;refine Je ?_
   refine Ys fun o=>(?_:Tr _ _ _ _) o;refine Je ?_
   refine Yb (Yt rfl ?_)
   refine Yc (Gb8) ?_;rintro _ h ⟨rfl,o⟩<;>refine Jh o ?_
   (refine Jb ?_;unhygienic intros)
   refine Ys fun o=>(?_:Tr _ _ _ _) o;refine Je ?_
   refine Ys fun o=>?_
   exact ⟨rfl,o.sub⟩
 | m+1,i,hi=>by
  have e1:IntKind.wrap .i64 ((i:Int)+1)=((i+1:Nat):Int):=by rw [A6];omega
  have e2:IntKind.wrap .i64 (t-8)=t-8:=by rw [A6];omega
  have es:=A.s i (by omega)
  rw [Dz8 (by omega)] at es
  have hget:(gs.map int)[i]?=some (int (gL gs i)):=by
   rw [List.getElem?_map,List.getElem?_eq_getElem (by omega)]
   show some (int gs[i])=some (int (gs.getD ((i:Int).toNat) 0))
   rw [Int.toNat_natCast,List.getD_eq_getElem?_getD,List.getElem?_eq_getElem (by omega)];rfl
  have ih:=Ek1 k c bg b gs hgs t n ht hn X A e he m (i+1) (by omega)
  rw [Hv3] at ih
  generalize Dl8 (gL gs) t i=z at *
  obtain ⟨p1,p2⟩:=Ij2 hn
  clear he
  refine CtJ.of Aa5 fun h r=>Tr.eq (Bu0 ..) ?_;refine Je ?_
  refine Yt (by simp;omega) ?_
  rw [e1,e2]
  refine Yc (Br0 c k F1 X Dg2 i) ?_;rintro _ h ⟨rfl,o⟩<;>refine Jh o ?_
  rw [Az1 A.c (by omega),es]
  clear A es
  dsimp only
  (refine Jc ?_;unhygienic intros)
  refine Yn fun b1 h=>?_
  (refine Jb ?_;unhygienic intros)
  refine Yb fun o=>Wp.mono (Q:=fun v h'=>v=decide (Bb6 (gL gs) t i)∧Own h' (pt b1 (.cells B0 false (B8 (grS i (gL gs i) (if Bb6 (gL gs) t i then 2 ^ n.toNat else 0))))::cmC c k F1 X::pt bg (.cells B35 false (gs.map int))::pt b (.cells Q5 false (I4 0 e false))::r)) ?_ ?_
  ·refine Jh o ?_
   by_cases h1:t=i
   ·refine Yt (by simpa using h1) ?_
    refine Ys fun o=>?_
    exact ⟨(decide_eq_true (.inl h1)).symm,o⟩
   refine Yf (by simpa using h1) ?_
   by_cases h8:t≥8
   ·refine Yb (Yt (decide_eq_true h8) ?_)
    refine Tr.ck (by omega) ?_
    simp only [Int.toNat_natCast]
    (refine Jb ?_;unhygienic intros)
    refine Ys fun o=>(?_:Tr _ _ _ _) o;refine Je ?_
    refine Ys fun o=>?_
    exact ⟨by rw [Bool.eq_iff_iff,beq_iff_eq,decide_eq_true_iff];omega,o⟩
   ·refine Yb (Yf (decide_eq_false h8) ?_)
    refine Ys fun o=>(?_:Tr _ _ _ _) o;refine Je ?_
    refine Ys fun o=>?_
    exact ⟨(decide_eq_false (by omega)).symm,o⟩
  rintro v h ⟨rfl,o⟩
  refine Jh o ?_
  refine Yb (Yf rfl ?_)
  (refine Jb ?_;unhygienic intros)
  refine Ys fun o=>(?_:Tr _ _ _ _) o;refine Je ?_
  refine Yb (Yf (bne_self_eq_false ..) ?_)
  (refine Jb ?_;unhygienic intros)
  refine Ys fun o=>(?_:Tr _ _ _ _) o;refine Je ?_
  rw [p1]
  by_cases hh:Bb6 (gL gs) t i
  ·rw [if_pos hh] at *
   rw [decide_eq_true hh] at *
   refine Yb (Yf (by show (!(((2:Int) ^ n.toNat != 0)==true))=false;rw [bne_iff_ne.2 p2];rfl) ?_)
   refine Yb (Yt rfl ?_)
   (refine Jb ?_;unhygienic intros)
   refine Ys fun o=>(?_:Tr _ _ _ _) o;refine Je ?_
   refine Ys fun o=>(?_:Tr _ _ _ _) o;refine Je ?_
   refine Yf (bne_self_eq_false ..) ?_
   rw [Eq1]
   refine J8 [1,1,1] 1 rfl rfl ?_
   exact Yr ih fun v h q=>q
  ·rw [if_neg hh] at *
   rw [decide_eq_false hh] at *
   refine Yb (Yf (by rfl) ?_)
   refine Yb (Yf rfl ?_)
   refine Ys fun o=>(?_:Tr _ _ _ _) o;refine Je ?_
   refine Ys fun o=>(?_:Tr _ _ _ _) o;refine Je ?_
   refine Yf rfl ?_
   rw [Eq1]
   refine J8 [1,1,1] 1 rfl rfl ?_
   exact Yr ih fun v h q=>q
def Hx8 (k c bg:Nat) (pb:HP) (a:Option Addr) (lc:Nat) (l:List Int) (t n:Int) (i:Nat):Prop :=
 ∀ (X:CX) (gs:List Int),gs.length=6→(∀ x ∈ gs,0≤x∧x<8)→See X (gV i (gL gs) no0) →
  CtJ E9 B6 Aj6 [(0,.slice a l.length lc),(1,int t),(2,int n),(8,P0 c),(11,P0 bg),(12,int i)] [cmC c k F1 X,pt bg (.cells B35 false (gs.map int)),pb] fun v own=>v=.bool true∧own []
theorem Ih9 {gs:List Int} {i:Nat} (h:i<gs.length):(gs.map int)[i]?=some (int (gL gs i)):=by
 rw [List.getElem?_map,List.getElem?_eq_getElem h]
 show some (int gs[i])=some (int (gs.getD ((i:Int).toNat) 0))
 rw [Int.toNat_natCast,List.getD_eq_getElem?_getD,List.getElem?_eq_getElem h];rfl
theorem Ig0 {gs:List Int} (hr:∀ x ∈ gs,0≤x∧x<8) (j:Int):0≤gL gs j∧gL gs j<8:=by
 unfold gL
 rw [List.getD_eq_getElem?_getD]
 cases h:gs[j.toNat]? with
 | none=>exact ⟨by decide,by decide⟩
 | some x=>exact hr x (List.mem_of_getElem? h)
theorem G12 (k c bg:Nat) (pb:HP) (a:Option Addr) (lc:Nat) (l:List Int) (t n:Int) (i:Nat) (hi:1≤i∧i<6) (ih:Hx8 k c bg pb a lc l t n (i+1)) (X:CX) (gs:List Int) (hgs:gs.length=6) (hr:∀ x ∈ gs,0≤x∧x<8) (gr:Int) (hg:0≤gr∧gr<8) (h:gr=i∨∃ j,(0≤j∧j<(i:Int))∧gL gs j=gr)
  (A:See X (gV (i+1) (H52 (gL gs) i (gL gs 0)) no0)) :
  CtJ E9 B6 Ak4 [(0,.slice a l.length lc),(1,int t),(2,int n),(8,P0 c),(11,P0 bg),(12,int i),(13,int gr)] [cmC c k F1 X,pt bg (.cells B35 false (gs.map int)),pb] fun v own=>v=.bool true∧own []:=by
 have e1:IntKind.wrap .i64 ((i:Int)+1)=((i+1:Nat):Int):=by rw [A6];omega
 obtain ⟨q1,B⟩:=H41 (i:=i) (gr:=gr) (by omega) hg (h.imp id fun ⟨j,hj,e⟩=>⟨j,hj,by show (if j=(i:Int) then _ else gL gs j)=gr;rw [if_neg (by omega)];exact e⟩) A
 have C:See (B99 X 0 i gr).2 (gV ((i+1:Nat):Int) (gL (gs.set i gr)) no0):=by
  refine G48 B fun j hj=>⟨?_,rfl⟩
  show (if j=(i:Int) then gr else if j=(i:Int) then _ else gs.getD j.toNat 0)=(gs.set i gr).getD j.toNat 0
  rw [List.getD_eq_getElem?_getD (l:=gs.set i gr),List.getElem?_set]
  by_cases hj2:j=i
  ·rw [if_pos hj2,if_pos (by omega),if_pos (by omega)];rfl
  ·rw [if_neg hj2,if_neg hj2,if_neg (by omega),List.getD_eq_getElem?_getD]
 have H:=ih _ _ (by rw [List.length_set];exact hgs) (fun x hx=>(List.mem_or_eq_of_mem_set hx).elim (hr x) fun e=>e ▸ hg) C
 have hc:=A.c
 refine CtJ.of Aa5 fun h r=>Tr.eq (D08 ..) ?_;refine Je ?_
 rw [e1]
 refine Yc (H72 c k F1 X Dg2 hc 0 i gr (by omega)) ?_;rintro _ h ⟨rfl,o⟩<;>refine Jh o ?_
 rw [q1]
 generalize (B99 X 0 i gr).2=Y at *
 (refine Jb ?_;unhygienic intros)
 refine Tr.ck (by omega) ?_
 rw [Int.toNat_natCast]
 refine Gs (fun h=>?_) (by exact G02 (by omega) _)
 exact Yr H fun v h q=>q
theorem Eo7 (k c bg:Nat) (pb:HP) (a:Option Addr) (ro:Bool) (lc:Nat) (l:List Int) [ks:IsSl pb a ro B3 1 l.length lc (l.map int)] (t n:Int):∀ (m i:Nat),1≤i→i+m=6→Hx8 k c bg pb a lc l t n i
 | 0,i,h1,hi=>by
  obtain rfl:i=6:=by omega
  intro X gs hgs hr A
  have ht:0≤D6 .i64 t 15∧D6 .i64 t 15≤15:=by rw [H96];omega
  have hn:1≤D6 .i64 n 7+1∧D6 .i64 n 7+1≤8:=by rw [If8];omega
  have en:IntKind.wrap .i64 (D6 .i64 n 7+1)=D6 .i64 n 7+1:=by rw [A6];omega
  obtain ⟨q1,B⟩:=H99 ht hn A
  have hc:=A.c
  refine CtJ.of Aa5 fun h r=>Tr.eq (Bu3 ..) ?_;refine Je ?_
  refine Yf rfl ?_
  rw [en]
  generalize D6 .i64 t 15=t at *
  generalize D6 .i64 n 7+1=n at *
  refine Yc (Ib8 c k F1 X Dg2 hc 2 t n (by omega)) ?_;rintro _ h ⟨rfl,o⟩<;>refine Jh o ?_
  have he:∃ e:Int,(Dl8 (gL gs) t 6=true∧e=0∨Dl8 (gL gs) t 6=false∧e=103)∧(Df4 X 2 t n).1=I4 0 e false:=by
   have hx:Dl8 (gL gs) t 6=true↔∃ j,(0≤j∧j<6)∧Bb6 (gL gs) t j:=by
    unfold Dl8
    rw [List.any_eq_true]
    constructor
    ·rintro ⟨j,hj,hh⟩
     rw [List.mem_range] at hj
     exact ⟨j,by omega,of_decide_eq_true hh⟩
    ·rintro ⟨j,hj,hh⟩
     exact ⟨j.toNat,by rw [List.mem_range];omega,by rw [Int.toNat_of_nonneg hj.1];exact decide_eq_true hh⟩
   rcases q1 with ⟨h5,h6⟩|⟨h5,h6⟩
   ·exact ⟨0,.inl ⟨hx.2 h5,rfl⟩,h6⟩
   ·exact ⟨103,.inr ⟨by rw [← Bool.not_eq_true];exact fun h=>h5 (hx.1 h),rfl⟩,h6⟩
  obtain ⟨e,he,q2⟩:=he
  rw [q2]
  clear q1 q2
  generalize (Df4 X 2 t n).2=Y at *
  (refine Jc ?_;unhygienic intros)
  refine Yn fun b h=>?_
  (refine Jb ?_;unhygienic intros)
  refine J8 [1,1,0] 1 rfl rfl ?_
  exact Yr (Ek1 k c bg b gs hgs t n ht hn Y B e he 6 0 rfl) fun v h q=>q
 | m+1,i,h1,hi=>by
  intro X gs hgs hr A
  have ih:=Eo7 k c bg pb a ro lc l t n m (i+1) (by omega) (by omega)
  obtain ⟨q1,B⟩:=Ie1 (i:=i) (by omega) A
  have R:=fun gr hg h=>G12 k c bg pb a lc l t n i (by omega) ih (A74 X 0).2 gs hgs hr gr hg h B
  have hc:=A.c
  refine CtJ.of Aa5 fun h r=>Tr.eq (Bu3 ..) ?_;refine Je ?_
  refine Yt (by simp;omega) ?_
  refine Yc (Hf1 c k F1 X Dg2 hc 0 (by omega)) ?_;rintro _ h ⟨rfl,o⟩<;>refine Jh o ?_
  rw [q1]
  generalize (A74 X 0).2=Y at *
  have ew:IntKind.wrap .i64 ((i:Int)-1)=((i-1:Nat):Int):=by rw [A6];omega
  rw [ew]
  refine (?_:Tr (cmC c k F1 Y::pt bg (.cells B35 false (gs.map int))::pb::_) _ _ _)
  by_cases hil:i≤l.length
  ·have hx:=Gh5 (l:=l) (i:=i-1) (by omega)
   generalize l.getD (i-1) 0=x at hx
   refine Yb (Yt (by rw [decide_eq_true_iff];omega) ?_)
   (refine Jb ?_;unhygienic intros;repeat(refine Gw ?_;rintro px rfl;refine Jb ?_;unhygienic intros))
   refine Ys fun o=>(?_:Tr _ _ _ _) o;refine Je ?_
   by_cases h2:D6 .i64 x 1=1
   ·refine Yt (by simpa using h2) ?_
    have hb:0≤D6 .i64 (Int.fdiv x (2 ^ 1)) 255:=by rw [Dl9];omega
    have hm:0≤Int.tmod (D6 .i64 (Int.fdiv x (2 ^ 1)) 255) i∧Int.tmod (D6 .i64 (Int.fdiv x (2 ^ 1)) 255) i<i:=by
     rw [Ij4 hb];exact ⟨Int.emod_nonneg _ (by omega),Int.emod_lt_of_pos _ (by omega)⟩
    refine Tr.ck (by omega) ?_
    have hj6:=Ih9 (gs:=gs) (i:=(Int.tmod (D6 .i64 (Int.fdiv x (2 ^ 1)) 255) i).toNat) (by have:=hm.2;omega)
    rw [Int.toNat_of_nonneg hm.1] at hj6
    (refine Jb ?_;unhygienic intros)
    exact Yr (R _ (Ig0 hr _) (.inr ⟨_,hm,rfl⟩)) fun v h q=>q
   ·refine Yf (by simpa using h2) ?_
    exact Yr (R i (by omega) (.inl rfl)) fun v h q=>q
  ·refine Yb (Yf (by rw [decide_eq_false_iff_not];omega) ?_)
   refine Ys fun o=>(?_:Tr _ _ _ _) o;refine Je ?_
   refine Yf rfl ?_
   exact Yr (R i (by omega) (.inl rfl)) fun v h q=>q
theorem Go4 (pb:HP) (a:Option Addr) (ro:Bool) (lc:Nat) (l:List Int) [ks:IsSl pb a ro B3 1 l.length lc (l.map int)] (t n:Int):Ct A7 B6 [.slice a l.length lc,int t,int n] [pb] fun v own=>v=.bool true∧own []:=by
 refine Ct.of Aa5 rfl fun h r=>Tr.eq (En4 ..) ?_;refine Je ?_
 refine Yc (Gz7) ?_;rintro _ h ⟨a1,rfl,o⟩<;>refine Jh o ?_
 (refine Ja ?_;unhygienic intros)
 refine Yc (Hg8 a1) ?_
 rintro _ h ⟨k,c,w,m,K',rfl,o⟩
 refine Jh o ?_
 (refine Jb ?_;unhygienic intros)
 refine J8 [1,0,2] 2 rfl rfl ?_
 refine (?_:Tr (cmC c k F1 X1::pt _ (.cells B35 false (([0,0,0,0,0,0]:List Int).map int))::pb::_) _ _ _)
 exact Yr (Eo7 k c _ pb a ro lc l t n 5 1 (by omega) rfl X1 [0,0,0,0,0,0] rfl (by simp) (G48 gV1 fun j hj=>⟨by rw [show j=0 by omega];rfl,rfl⟩)) fun v h q=>q
end Go.EQ

set_option maxRecDepth 100000
namespace Go.EQ
open Go Go.NN Go.Proofs Go.ChangeShapes Go.WideShapes Go.RowKit
theorem Ia2:∀ f,(cutsOf f).globs=0:=Eh5 H76 (by kernel_rfl)
theorem H94:∀ f,(cutsOf f).globs≤PR.globals.size:=fun f=>by rw [Ia2 f];exact Nat.zero_le _
theorem Ic1:PR.follows .mixedOrders=true:=by kernel_rfl
theorem Ih0:laidOutB PR=true:=by kernel_rfl
theorem Ik1:ownKnob PR.godebug=none:=by kernel_rfl
end Go.EQ

set_option maxRecDepth 100000
namespace Go.EQ
open Go Go.NN Go.Proofs Go.Proofs.YtoegoalficgneaaGreat Go.ChangeShapes Go.WideShapes Go.RowKit
theorem H92 {H:Type} {enc:TypeId × Value→H} {W:World} {v0 v1 v2:Value} {d0 d1 d2:DataW H} {p0 p1 p2:List MemPlace} {b0:Nat} (k0:Value.okWide PR W .any b0 N7 v0) (k1:Value.okWide PR W .any b0 B3 v1) (k2:Value.okWide PR W .any b0 B3 v2)
  (h0:DataW.Trod enc PR W 0 (fun _=>true) true N7 v0 d0 p0) (h1:DataW.Trod enc PR W 0 (fun _=>true) true B3 v1 d1 p1) (h2:DataW.Trod enc PR W 0 (fun _=>true) true B3 v2 d2 p2) :
  Calls PR B6 #[v0,v1,v2] W fun e W'=>e=.returned (.bool true)∧Below W.heap.size W W':=by
 obtain ⟨x0,hl0,i0⟩:=(Af3.ints (P:=PR) (W:=W) B3 Hh4 Hn9 (by kernel_rfl)).arg (Hc9 Hh4 k0) h0
 obtain ⟨x1,_,i1⟩:=Af3.argInt Hn9 k1 h1
 obtain ⟨x2,_,i2⟩:=Af3.argInt Hn9 k2 h2
 refine (i0.app (i1.app i2)).run Ic1 H94 fun vs ps J hh r o=>?_
 obtain ⟨_,_,_,_,hv0,hp0,⟨⟨a0,c0⟩,e0a,e0b⟩,⟨_,_,_,_,hv1,hp1,⟨e1a,e1b⟩,⟨e2a,e2b⟩⟩⟩:=J
 subst e0a
 subst e0b
 subst e1a
 subst e1b
 subst e2a
 subst e2b
 subst hv1
 subst hp1
 subst hv0
 subst hp0
 have O:Own hh ([(slC true B3 1 a0 x0.length c0 (x0.map int))]++r):=by
  exact o
 obtain ⟨v,h',e,rfl,_⟩:=Go4 (slC true B3 1 a0 x0.length c0 (x0.map int)) a0 true c0 x0 x1 x2 hh r O
 exact ⟨h',e⟩
theorem H69 (os:Os) (started:os.Started) (H:Type) (enc:TypeId × Value→H) :
  ReturnsInHanded {} Tryz.checked os B6 .any (Rows.procGroupsSpec.pre6 enc Tryz.prog Tryz.f3 Rows.procGroupsRow.domain false) (Rows.procGroupsSpec.post enc Tryz.prog Tryz.f3 false true false false):=by
 refine returnsInHanded_of_change (C:=Tryz.checked) Ik1 started (by kernel_rfl) Tryz.func3
  (ChangeSpec.witness6 (enc:=enc) (C:=Tryz.checked) false ⟨#[],#[.slice none 0 0,.int .i64 0,.int .i64 0],[]⟩ 8 (by kernel_rfl) (by kernel_rfl) (by kernel_rfl) (by kernel_rfl)) ?_
 intro W base args ds gs before hval hW hcnd _
 have hW':=hW
 obtain ⟨p,q,hA,hV,rfl,hfz,hnd⟩:=hW
 rw [Tryz.params3] at hA hval
 obtain ⟨v0,v1,v2,d0,d1,d2,p0,p1,p2,rfl,rfl,rfl,h0,h1,h2⟩:=trodAll_three hA
 refine (H92 (hval 0 _ v0 rfl rfl) (hval 1 _ v1 rfl rfl) (hval 2 _ v2 rfl rfl) h0 h1 h2).mono fun e W' ⟨he,hb⟩=>?_
 subst he
 refine ⟨_,rfl,Hr0 Ih0 ?_ rfl If6 rfl (fun ds gs hl=>?_) hW' hb⟩
 ·rw [Tryz.params3];intro t ht;simp at ht;rcases ht with rfl|rfl<;>exact ⟨by kernel_rfl,of_decide_eq_true (by kernel_rfl)⟩
 ·replace hl:ds.length=3:=hl
  cases gs with
  | cons _ _=>exact .inr (by simp)
  | nil=>match ds,hl with|[_,_,_],_=>exact .inl rfl
theorem Ii4:Tryz.pinned.checked.prog.funcNamed Rows.procGroupsRow.func=some B6:=by kernel_rfl
theorem A8 {a b:Bool} (x:(a && b)=true):a=true:=by cases a<;>simp_all
theorem Az4 {a b:Bool} (x:(a && b)=true):b=true:=by cases a<;>simp_all
theorem As8 {a b:Bool} (x:a=true) (y:b=true):(a && b)=true:=by rw [x,y];rfl
theorem Il4:(Rows.procGroupsRow.wf (OpenSpec.ofChange Rows.procGroupsSpec) && laidOutB Tryz.pinned.checked.prog && mapsRowed Tryz.pinned.checked.prog && Tryz.f3.params.all (Tryz.pinned.checked.prog.readableRec ·) && namedTie Tryz.pinned.checked.prog Rows.procGroupsRow.named Rows.procGroupsSpec.vars && (Rows.procGroupsRow.stops==[]) && (Tryz.pinned.checked.prog.stops==[]) && (Rows.procGroupsRow.knobs==[]) && (Tryz.pinned.checked.prog.stopKnobs==[]))=true:=by kernel_rfl
theorem Hl8:((Rows.procGroupsRow.inPlace==Tryz.pinned.checked.prog.inPlace B6) && (Rows.procGroupsRow.unfollowed==Tryz.pinned.checked.prog.unfollowed B6) && (Rows.procGroupsRow.recurses==Tryz.pinned.checked.prog.recurses B6) && (Rows.procGroupsRow.named==Tryz.pinned.checked.prog.varsNamed B6))=true:=by kernel_rfl
theorem A59:((Rows.procGroupsRow.maps==(Tryz.f3.params.toList++Rows.procGroupsSpec.plain.varTypes Tryz.pinned.checked.prog).any (Tryz.pinned.checked.prog.mapsRec ·)) && (Rows.procGroupsRow.ifaces==(Tryz.f3.params.toList++Rows.procGroupsSpec.plain.varTypes Tryz.pinned.checked.prog).any (Tryz.pinned.checked.prog.ifacesRec ·)) && (Rows.procGroupsRow.mapsOut==Tryz.pinned.checked.prog.mapsAmong Tryz.f3.resultTypes.toList) && (Rows.procGroupsRow.loops==(Tryz.f3.params.toList++Rows.procGroupsSpec.plain.varTypes Tryz.pinned.checked.prog).any (Tryz.pinned.checked.prog.loopsFrom ·)) && (Rows.procGroupsRow.wideKeys==(Tryz.f3.params.toList++Rows.procGroupsSpec.plain.varTypes Tryz.pinned.checked.prog++Tryz.f3.resultTypes.toList).any (Tryz.pinned.checked.prog.wideKeysFrom ·)) && Rows.procGroupsSpec.vars.all (Tryz.pinned.checked.prog.varReadable ·) && Tryz.f3.resultTypes.all (fun t=>Tryz.pinned.checked.prog.readableRec t && decide (t<Tryz.pinned.checked.prog.types.size)) && (Rows.procGroupsRow.ifacesOut==Tryz.f3.resultTypes.toList.any (Tryz.pinned.checked.prog.ifacesRec ·)) && (Rows.procGroupsRow.loopsOut==Tryz.f3.resultTypes.toList.any (Tryz.pinned.checked.prog.loopsFrom ·)) && (Rows.procGroupsRow.plainKeys==Tryz.pinned.checked.prog.plainKeys) && Rows.procGroupsRow.shortTexts.isNone && Tryz.pinned.checked.prog.stopsHeard && Tryz.pinned.checked.prog.mayEnter && (Rows.procGroupsRow.lifted==Tryz.pinned.checked.prog.liftsFinal) && (Tryz.pinned.checked.prog.make==some Rows.procGroupsRow.make) && (Rows.procGroupsRow.kinds==(if Rows.procGroupsRow.domain.isEmpty then [] else Tryz.f3.params.toList.map fun t=>match Tryz.pinned.checked.prog.underlying t with|some (.int k)=>some k|_=>none)) && (Rows.procGroupsRow.pinned==Rows.procGroupsRow.pinnedBy) && (Rows.procGroupsRow.veiled==(Tryz.f3.params.toList++Rows.procGroupsSpec.plain.varTypes Tryz.pinned.checked.prog++Tryz.f3.resultTypes.toList).any (Tryz.pinned.checked.prog.veiledRec ·)) && Rows.procGroupsRow.veiledFits Tryz.pinned.checked.prog Tryz.f3.params.toList (Tryz.f3.params.toList++Rows.procGroupsSpec.plain.varTypes Tryz.pinned.checked.prog++Tryz.f3.resultTypes.toList))=true:=by kernel_rfl
theorem H28:joinedFacts Tryz.pinned.checked.prog B6 Tryz.f3 Rows.procGroupsSpec Rows.procGroupsRow=true:=by
 unfold joinedFacts
 exact (As8 (As8 (As8 (As8 (As8 (As8 (As8 (As8 (As8 (As8 (As8 (As8 (As8 (As8 (As8 (As8 (As8 (As8 (As8 (As8 (As8 (As8 (As8 Il4 (A8 (A8 (A8 Hl8)))) (Az4 (A8 (A8 Hl8)))) (Az4 (A8 Hl8))) (Az4 Hl8)) (A8 (A8 (A8 (A8 (A8 (A8 (A8 (A8 (A8 (A8 (A8 (A8 (A8 (A8 (A8 (A8 (A8 (A8 A59))))))))))))))))))) (Az4 (A8 (A8 (A8 (A8 (A8 (A8 (A8 (A8 (A8 (A8 (A8 (A8 (A8 (A8 (A8 (A8 (A8 A59))))))))))))))))))) (Az4 (A8 (A8 (A8 (A8 (A8 (A8 (A8 (A8 (A8 (A8 (A8 (A8 (A8 (A8 (A8 (A8 A59)))))))))))))))))) (Az4 (A8 (A8 (A8 (A8 (A8 (A8 (A8 (A8 (A8 (A8 (A8 (A8 (A8 (A8 (A8 A59))))))))))))))))) (Az4 (A8 (A8 (A8 (A8 (A8 (A8 (A8 (A8 (A8 (A8 (A8 (A8 (A8 (A8 A59)))))))))))))))) (Az4 (A8 (A8 (A8 (A8 (A8 (A8 (A8 (A8 (A8 (A8 (A8 (A8 (A8 A59))))))))))))))) (Az4 (A8 (A8 (A8 (A8 (A8 (A8 (A8 (A8 (A8 (A8 (A8 (A8 A59)))))))))))))) (Az4 (A8 (A8 (A8 (A8 (A8 (A8 (A8 (A8 (A8 (A8 (A8 A59))))))))))))) (Az4 (A8 (A8 (A8 (A8 (A8 (A8 (A8 (A8 (A8 (A8 A59)))))))))))) (Az4 (A8 (A8 (A8 (A8 (A8 (A8 (A8 (A8 (A8 A59))))))))))) (Az4 (A8 (A8 (A8 (A8 (A8 (A8 (A8 (A8 A59)))))))))) (Az4 (A8 (A8 (A8 (A8 (A8 (A8 (A8 A59))))))))) (Az4 (A8 (A8 (A8 (A8 (A8 (A8 A59)))))))) (Az4 (A8 (A8 (A8 (A8 (A8 A59))))))) (Az4 (A8 (A8 (A8 (A8 A59)))))) (Az4 (A8 (A8 (A8 A59))))) (Az4 (A8 (A8 A59)))) (Az4 (A8 A59))) (Az4 A59))
theorem Ii9:Tryz.f3.isInstance Tryz.pinned.checked.prog Rows.procGroupsRow.origin Rows.procGroupsRow.targs:=of_decide_eq_true (by kernel_rfl)
theorem Ih2:Tryz.f3.isWrapper Tryz.pinned.checked.prog Rows.procGroupsRow.wrapper Rows.procGroupsRow.mainSum:=by unfold Func.isWrapper;first|(rw [if_pos (by decide +kernel)];kernel_rfl)|(rw [if_neg (by decide +kernel)];exact ⟨rfl,rfl⟩)
theorem ProcGroups_holds:Rows.ProcGroupsSaid :=
 OpenClaim.holds_of_wide B6 Tryz.f3 rfl rfl rfl rfl rfl rfl rfl ⟨rfl,rfl,rfl,rfl,rfl⟩ rfl rfl rfl rfl rfl Ii4 Tryz.func3 H28 Ii9 Ih2
  (fun os started H enc _=>H69 os started H enc)
end Go.EQ
