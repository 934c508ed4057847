/- With the last writer gone what is left is read, then the end is told, again and again; with the last reader gone a write is refused, and its signal raised; no conditions. -/
import Derived.Test.YtnmdbfbjdhgmlaaGreatMh
import Derived.KernelRfl
import Derived.Test.YtnmdbfbjdhgmlaaGreatRows
set_option linter.all false
set_option maxRecDepth 10000
namespace Go.EQ
open Go Go.NN
theorem Gc4 (k:Nat) (S:KS) (A:KA):CtP B2 Am9 [P0 k] [pt k (.cells D14 false (Ex1 S A))] (P0 A.s):=by
 refine CtP.of Ez5 rfl fun h r=>Tr.eq (E04 ..) ?_;refine Je ?_
 exact Jz
theorem Il2 (k:Nat) (S:KS) (N:Nat) (ok:KOk N S) (env:Int):Ct B2 Bs1 [P0 k,int env] [E5 k S] fun v own =>
  (A49 S.tabs env≠[]∧∃ c,v=.tuple ⟨[P0 c,int 0]⟩∧own [W5 c k env (A49 S.tabs env) [],E5 k S])∨(A49 S.tabs env=[]∧v=.tuple ⟨[.pointer none,int 1]⟩∧own [E5 k S]):=by
 refine Ct.of Gu3 rfl fun h r=>Tr.eq (Gw4 ..) ?_;refine Je ?_
 refine B8 (E5 k S) fun ⟨m,s,q,rg,ea,ec,ma,mc,ms,sa,sc,ss⟩=>?_;refine Je ?_
 (refine Jb ?_;unhygienic intros)
 refine Yb (Yf rfl ?_)
 refine Tr.pcall (Gc4 k S ⟨m,s,q,rg,ea,ec,ma,mc,ms,sa,sc,ss⟩) ?_;refine Je ?_;(refine Ja ?_;unhygienic intros)
 try dsimp only
 refine Yc (Gc7 s S.tabs env ok.space) ?_;rintro _ h ⟨a0,c0,rfl,o⟩<;>refine Jh o ?_
 (refine Ja ?_;unhygienic intros)
 refine Ys fun o=>(?_:Tr _ _ _ _) o;refine Je ?_
 by_cases hz:A49 S.tabs env=[]
 ·refine Yt (by simp [hz]) ?_
  refine B6 (E5 k S) ⟨m,s,q,rg,ea,ec,ma,mc,ms,sa,sc,ss⟩ ?_;refine Je ?_
  refine Ys fun o=>?_
  exact .inr ⟨hz,rfl,o.sub⟩
 ·refine Yf ?_ ?_
  ·rw [beq_eq_false_iff_ne]
   intro h0
   exact hz (List.eq_nil_of_length_eq_zero (by omega))
  refine Tr.pcall (Gc4 k S ⟨m,s,q,rg,ea,ec,ma,mc,ms,sa,sc,ss⟩) ?_;refine Je ?_;(refine Ja ?_;unhygienic intros)
  try dsimp only
  refine Yc (Gc7 s S.tabs env ok.space) ?_;rintro _ h ⟨a1,c1,rfl,o⟩<;>refine Jh o ?_
  (refine Jc ?_;unhygienic intros)
  refine Yn fun mb h=>?_
  refine Yn fun c h=>?_
  refine B6 (E5 k S) ⟨m,s,q,rg,ea,ec,ma,mc,ms,sa,sc,ss⟩ ?_;refine Je ?_
  refine E7 (W5 c k env (A49 S.tabs env) []) (a1,c1,mb) [1,2,1] rfl ?_;refine Je ?_
  refine Ys fun o=>?_
  exact .inl ⟨hz,c,rfl,o.sub⟩
def A83:PlanS:=⟨[false,false],[(0,1),(1,0)],5⟩
theorem H77:Ct B2 Bz2 [] [] fun v own=>∃ A,v=.agg ⟨Ey4 A83 A⟩∧own (Dl0 A83 A):=by
 refine Ct.of Hd3 rfl fun h r=>Tr.eq (Hc2 ..) ?_;refine Je ?_
 (refine Jc ?_;unhygienic intros;rename H=>h)
 refine Yn fun b h=>?_
 refine Yn fun b1 h=>?_
 refine Yn fun b2 h=>?_
 (refine Ja ?_;unhygienic intros;rename H=>h)
 refine Aa8 0 rfl 2 2 rfl (by omega) ?_
 refine Aa8 1 rfl 1 2 rfl (by omega) ?_
 refine Je ?_
 refine Ys fun o=>?_
 exact ⟨⟨some ⟨b1,0,none⟩,2,some ⟨b2,0,none⟩,2⟩,rfl,(show Own h (slC false B19 2 (some ⟨b2,0,none⟩) A83.brs.length 2 (A83.brs.flatMap brL)::slC false D63 1 (some ⟨b1,0,none⟩) A83.bad.length 2 (A83.bad.map Value.bool)::_) from o).sub⟩
def Ah8:BootS:=Ep5 A83
theorem G31:Bq2 Ah8=true:=by kernel_rfl
theorem E14:Small Ah8:=by
 have e:Ah8=⟨[20,20],[0,0,0,0,0,0,0,0,0,1,1,1,1,1,1,1,1,1],[[0],[1]],5,[⟨0,0,0,492,[0]⟩,⟨1,0,0,492,[1]⟩,⟨0,8,0,40,[0,1]⟩,⟨1,9,0,40,[1,0]⟩]⟩:=by kernel_rfl
 rw [e]
 exact ⟨by simp [B4],by simp [B4],by simp [B4]⟩
theorem Bu8:Ah8=⟨[20,20],[0,0,0,0,0,0,0,0,0,1,1,1,1,1,1,1,1,1],[[0],[1]],5,[⟨0,0,0,492,[0]⟩,⟨1,0,0,492,[1]⟩,⟨0,8,0,40,[0,1]⟩,⟨1,9,0,40,[1,0]⟩]⟩:=by kernel_rfl
theorem Ih9:RBoot Ah8 (Aj7 Ah8.frames):=by
 rw [Bu8]
 refine ⟨by simp,by simp,by simp,fun x hx=>?_,fun x hx=>?_⟩
 ·simp only [List.mem_cons,List.not_mem_nil,or_false] at hx
  rcases hx with rfl|rfl|rfl|rfl<;>simp [B4]
 ·simp only [List.mem_cons,List.not_mem_nil,or_false] at hx
  rcases hx with rfl|rfl|rfl|rfl<;>simp [Aj7]
def S00:KS:=Dy8 Ah8
theorem G11:KOk 0 S00:=Ik0 G31 E14
def wrS (S:KS) (cap:Int) (b:List UInt8):KS:=(Aa0 S 0 ⟨2,cap,0,0,0,0,b⟩).2
def S0:KS:=wrS S00 256 Ac9
theorem It1:(Aa0 S00 0 ⟨2,256,0,0,0,0,Ac9⟩).1.1=0:=by kernel_rfl
theorem If6:A49 S00.tabs 0=[256,257,258]:=by kernel_rfl
def wrR (K:RKS) (cap:Int) (b:List UInt8):RKS:={ K with R:=(Ai4 K.R 0 cap 0 b).2 }
def K0:RKS:=wrR (Df2 Ah8) 256 Ac9
theorem D73:RKOk (Df2 Ah8)∧(Df2 Ah8).B=Ah8:=Il7 (by rw [Bu8];simp) (by rw [Bu8];simp)
theorem Gb0 {K:RKS} (k:RKOk K) (cap:Int) (b:List UInt8):RKOk (wrR K cap b):=Ih8 k 0 cap 0 b
theorem Id6:By6 K0 0≠[]:=by
 have:By6 K0 0=[256,257,258]:=by kernel_rfl
 rw [this];simp
theorem Ac1:Ac9.length=492:=by kernel_rfl
theorem Ds6 {l:List HP} {h:H} {α:Type} {Q:α→H→Prop} {x:Option (α × H)} (i:Nat) {b n:Nat} {cs:List Value} (hi:l[i]?=some (pt b (.cells A7 false cs))) (hn:cs.length=n) (t:Tr (l.set i (slC false A7 1 (some (L7 b)) n n cs)) h x Q):Tr l h x Q:=fun o=>by
 refine t (Own.back (h:=h) hi ?_)
 have o1:=o.front hi
 refine Own.slShut (pre:=[]) (post:=[]) (by simpa using o1) ⟨by omega,Nat.le_refl _,by simp,by simp,by simp,by omega,by simp⟩
theorem Il9 (A:PlA):Ct B2 Bi4 [.agg ⟨Ey4 A83 A⟩] (Dl0 A83 A) fun v own =>
  ∃ k c w m,v=.tuple ⟨[P0 k,P0 c,P0 w,P0 m]⟩∧own [E5 k S0,W5 c k 0 [256,257,258] [],rkC w K0,rcC m w 0 (By6 K0 0) []]:=by
 have hB:Ep5 A83=Ah8:=rfl
 obtain ⟨ba,bc,ra,rc⟩:=A
 refine Ct.of G96 rfl fun h r=>Tr.eq (Ha6 ..) ?_;refine Je ?_
 refine Yn fun b0 h=>?_
 (refine Ja ?_;unhygienic intros)
 refine Yc (Ih2 A83 ⟨ba,bc,ra,rc⟩ (by simp [A83]) (by simp [A83])) ?_;rintro _ h ⟨A,kA,rfl,o⟩<;>refine Jh o ?_
 rw [hB] at kA ⊢
 obtain ⟨fa,fc,ea,ec,sa,sc,ss,ha,hc,hs⟩:=A
 (refine Jc ?_;unhygienic intros)
 refine Yn fun b1 h=>?_
 (refine Ja ?_;unhygienic intros)
 have J:=Io3 false Ah8 ⟨fa,fc,ea,ec,sa,sc,ss,ha,hc,hs⟩ kA E14
 simp only [G31,if_true] at J
 refine Yc (J) ?_;rintro _ h ⟨k,rfl,o⟩<;>refine Jh o ?_
 (refine Jb ?_;unhygienic intros)
 refine Yb (Yf rfl ?_)
 refine Ys fun o=>(?_:Tr _ _ _ _) o;refine Je ?_
 refine Yf rfl ?_
 (refine Ja ?_;unhygienic intros)
 refine Yc (Hf3 Ah8 ⟨fa,fc,ea,ec,sa,sc,ss,ha,hc,hs⟩ kA (by rw [Bu8];simp) Ih9) ?_;rintro _ h ⟨w,rfl,o⟩<;>refine Jh o ?_
 (refine Ja ?_;unhygienic intros)
 refine Yc (Il2 k (Dy8 Ah8) 0 G11 0) ?_
 rintro v h (⟨hz,c,rfl,o⟩|⟨hz,rfl,o⟩)
 case inr=>exact absurd hz (by rw [show Dy8 Ah8=S00 from rfl,If6];simp)
 rw [show Dy8 Ah8=S00 from rfl,If6] at o
 refine (?_:Tr _ _ _ _) o
 refine Je ?_
 (refine Jb ?_;unhygienic intros)
 refine Yb (Yf rfl ?_)
 refine Ys fun o=>(?_:Tr _ _ _ _) o;refine Je ?_
 refine Yf rfl ?_
 refine Yc (Gs3) ?_;rintro _ h ⟨rfl,o⟩<;>refine Jh o ?_
 (refine Jc ?_;unhygienic intros)
 refine Tr.ck (by rw [A74,Ac1];simp [B4]) ?_
 rw [A74,Ac1]
 refine Yn fun b2 h=>?_
 refine Ds6 (n:=492) 0 rfl (by rw [U9,show (bs Ac9).data.toList=Ac9 from rfl,Ac1]) ?_
 refine Je ?_
 have J2:=D77 k S00 0 G11 (by omega) 0 ⟨2,256,0,0,0,0,Ac9⟩ (some (L7 b2)) 492 false (show ((2:Int)≠5) by decide)
 simp only [Ac1] at J2
 refine Bv1 J2 [2,0] rfl ?_
 rintro _ h ⟨y,d,rfl,o⟩
 rw [It1]
 rw [show (Aa0 S00 0 ⟨2,256,0,0,0,0,Ac9⟩).2=S0 from rfl] at o
 refine (?_:Tr _ _ _ _) o
 refine Je ?_
 (refine Jc ?_;unhygienic intros)
 refine Yf rfl ?_
 refine Tr.ck (by simp [B4]) ?_
 refine Yn fun b3 h=>?_
 refine Ds6 (n:=492) 0 rfl (by rw [U9,Ac1]) ?_
 refine Je ?_
 have J3:=Ew9 w (Df2 Ah8) D73.1 0 (by rw [D73.2,Bu8];simp) ⟨2,256,0,0,0,0,Ac9⟩ rfl (by rw [Ac1];simp [B4]) (slC false A7 1 (some (L7 b3)) Ac9.length 492 (A5 Ac9)) (some (L7 b3)) 492 false
 simp only [Ac1] at J3
 refine Yc J3 ?_
 rintro _ h ⟨rfl,o⟩
 rw [show ({ Df2 Ah8 with R:=(Ai4 (Df2 Ah8).R ((0:Nat):Int) 256 0 Ac9).2 }:RKS)=K0 from rfl] at o
 refine (?_:Tr _ _ _ _) o
 refine Je ?_
 (refine Ja ?_;unhygienic intros)
 refine Yc (Gj6 w K0 (Gb0 D73.1 256 Ac9) 0 (by show (0:Nat)<(Df2 Ah8).B.envs.length;rw [D73.2,Bu8];simp)) ?_
 rintro v h (⟨_,m,rfl,o⟩|⟨hn,rfl,o⟩)
 case inr=>exact absurd hn Id6
 refine (?_:Tr _ _ _ _) o
 refine Je ?_
 (refine Ja ?_;unhygienic intros)
 refine Ys fun o=>?_
 exact ⟨k,c,w,m,rfl,o.sub⟩
def B18 (mem:List UInt8) (rg:Rg):List (List UInt8):=rg.map fun p=>slice mem p.1 p.2
theorem G44 {mem:List UInt8} {rg:Rg} {j lo n:Nat} (h:rg[j]?=some (lo,n)):(B18 mem rg)[j]?=some (slice mem lo n):=by unfold B18;rw [List.getElem?_map,h];rfl
theorem Hb4 {mem:List UInt8} {rg:Rg} (h:∀ (j lo n:Nat),rg[j]?=some (lo,n)→lo+n≤mem.length):Fit mem.length rg (B18 mem rg):=⟨by simp [B18],fun j lo n hj=>⟨h j lo n hj,slice mem lo n,G44 hj,Gt3 (h j lo n hj)⟩⟩
theorem H85 {mem:List UInt8} {rg:Rg} (k:RgOk rg) (h:∀ (j lo n:Nat),rg[j]?=some (lo,n)→lo+n≤mem.length):A19 mem rg (B18 mem rg)=mem:=by
 have f:=Hb4 h
 refine List.ext_getElem? fun i=>?_
 by_cases ho:∃ (j lo n:Nat),rg[j]?=some (lo,n)∧lo≤i∧i<lo+n
 ·obtain ⟨j,lo,n,hj,h1,h2⟩:=ho
  obtain ⟨i',rfl⟩:∃ i',i=lo+i':=⟨i-lo,by omega⟩
  rw [B75 f k j lo n _ hj (G44 hj) i' (by omega),Bw2,if_pos (by omega)]
 ·exact Dn1 f i fun j lo n hj=>by
   by_cases hh:lo≤i∧i<lo+n
   ·exact absurd ⟨j,lo,n,hj,hh.1,hh.2⟩ ho
   ·omega
theorem FrOk.room {F:Fr} {j lo n:Nat} (f:Fit F.S.mem.length F.rg (B18 F.S.mem F.rg)) (h:F.rg[j]?=some (lo,n)):lo+n≤F.S.mem.length:=(f.each j lo n h).1
theorem Fr.at_cut {F:Fr} (k:FrOk F) (h:∀ (j lo n:Nat),F.rg[j]?=some (lo,n)→lo+n≤F.S.mem.length):F.at (B18 F.S.mem F.rg)=F.S:=by
 unfold Fr.at;rw [H85 k.dj h];rfl
theorem Own.cmTake {r:List HP} {h:H} (c k:Nat) (F:Fr) (bad:List RecS) (ok:FrOk F) (hr:∀ (j lo n:Nat),F.rg[j]?=some (lo,n)→lo+n≤F.S.mem.length) (o1:Own h (E5 k F.S::W5 c k F.env F.caps bad::r)):Own h (cmC c k F ⟨B18 F.S.mem F.rg,bad⟩::r):=by
 refine Own.inex (f:=fun u:Unit=>sl (cmF c k F ⟨B18 F.S.mem F.rg,bad⟩)) () (Own.group (l:=cmF c k F ⟨B18 F.S.mem F.rg,bad⟩) ?_)
 show Own h (E5 k (F.at (B18 F.S.mem F.rg))::W5 c k F.env F.caps bad::pu _::r)
 rw [Fr.at_cut ok hr]
 have o2:=Own.inpure (show Fit F.S.mem.length F.rg (B18 F.S.mem F.rg) from Hb4 hr) o1
 exact o2.picks [1,1,0] rfl
theorem Iq2 {l r:List HP} {h:H} {α:Type} {Q:α→H→Prop} {x:Option (α × H)} (c k:Nat) (F:Fr) (X:CX) [tk:Take (cmC c k F X) l r]
  (t:Fit F.S.mem.length F.rg X.m→Tr (E5 k (F.at X.m)::W5 c k F.env F.caps X.bad::r) h x Q):Tr l h x Q:=fun o=>by
 have o1:Own h (cmC c k F X::r):=o.perm tk.pm
 obtain ⟨u,o2⟩:=Own.ex (f:=fun u:Unit=>sl (cmF c k F X)) o1
 have o3:Own h (E5 k (F.at X.m)::W5 c k F.env F.caps X.bad::pu (Fit F.S.mem.length F.rg X.m)::r):=Own.join o2
 have f:=(o3.front (i:=2) rfl).pure
 exact t f (o3.front (i:=2) rfl).tail
theorem Hp0 {S:KS} {env cap obj:Int} {lo n:Nat} {e1 e2:Int} (hg:Bs5 S.tabs env cap=some ⟨obj,3,0,(n:Int),e1,e2⟩) (h0:0≤obj) (hr:S.regs[obj.toNat]?=some ((lo:Int),(n:Int))) (hl:lo+n≤65536) :
  ∀ (a m:Nat) (right:Int),right=1∨right=2→a+m≤n→Q1 S.tabs S.regs env cap right a m=(((lo+a:Nat):Int),0):=by
 intro a m right hri ha
 have hlt:=(List.getElem?_eq_some_iff.1 hr).1
 unfold Q1
 rw [hg]
 have b1:(P3 .i64 3 1==0)=false:=by kernel_rfl
 have b2:(P3 .i64 3 2==0)=false:=by kernel_rfl
 have hb:¬ ((P3 .i64 3 right==0)=true):=by rcases hri with rfl|rfl<;>simp [b1,b2]
 simp only
 have h2:(decide ((a:Int)<0) || decide ((m:Int)<0) || decide ((a:Int)>(n:Int)) || decide ((m:Int)>IntKind.wrap .i64 ((n:Int)-a)) || decide (obj<0) || decide (obj≥S.regs.length))=false:=by
  simp only [Bool.or_eq_false_iff,decide_eq_false_iff_not,B3];omega
 have h3:(decide (IntKind.wrap .i64 (0+(a:Int))>(n:Int)) || decide ((m:Int)>IntKind.wrap .i64 (IntKind.wrap .i64 ((n:Int)-0)-a)))=false:=by
  simp only [Bool.or_eq_false_iff,decide_eq_false_iff_not,B3];omega
 have h4:IntKind.wrap .i64 (IntKind.wrap .i64 ((lo:Int)+0)+a)=((lo+a:Nat):Int):=by simp only [B3];omega
 rw [if_neg hb]
 simp only [h2,hr,h3,h4,Bool.false_eq_true,if_false]
structure Like (S:KS):Prop where
 ok:KOk 0 S
 tabs:S.tabs=S00.tabs
 regs:S.regs=S00.regs
 envs:S.envs=S00.envs
 mem:S.mem.length=2560
theorem D99 {S:KS} (k:Like S) {m:List UInt8} (h:m.length=2560):Like (Bp4 S m) :=
 ⟨⟨k.ok.envs,k.ok.tabs,k.ok.space,k.ok.quota,by show m.length≤65536;omega,k.ok.regs,k.ok.may,k.ok.mayl,k.ok.nsect,k.ok.sects,k.ok.now⟩,k.tabs,k.regs,k.envs,h⟩
theorem Iq0:Like S00:=⟨G11,rfl,rfl,rfl,by kernel_rfl⟩
theorem Im2 (S:KS) (k:Like S) (cap:Int) (b:List UInt8):Like (wrS S cap b):=by
 unfold wrS Aa0
 split
 ·exact k
 ·exact D99 k (by rw [Hp2];exact k.mem)
theorem Dy3:Like S0:=Im2 S00 Iq0 256 Ac9
def rgP (s:Nat):Rg:=[(1280*s,492),(512,40),(1856,40)]
def frP (S:KS) (s:Nat) (env:Int):Fr:=⟨S,0,env,[256,257,258],rgP s⟩
theorem G10:S00.regs=[(0,492),(1280,492),(512,40),(1856,40)]:=by kernel_rfl
theorem Io7:S00.envs.length=18:=by kernel_rfl
structure EnvP (s:Nat) (env:Int):Prop where
 hs:s<2
 he:0≤env∧env<18
 a:Bs5 S00.tabs env 256=some ⟨s,3,0,492,0,0⟩
 b:Bs5 S00.tabs env 257=some ⟨2,3,0,40,0,0⟩
 c:Bs5 S00.tabs env 258=some ⟨3,3,0,40,0,0⟩
theorem G23:EnvP 0 0:=⟨by omega,by omega,by kernel_rfl,by kernel_rfl,by kernel_rfl⟩
theorem D71 {s j lo n:Nat} (h:(rgP s)[j]?=some (lo,n)):(j=0∧lo=1280*s∧n=492)∨(j=1∧lo=512∧n=40)∨(j=2∧lo=1856∧n=40):=by
 unfold rgP at h
 match j,h with
 | 0,h=>simp at h;omega
 | 1,h=>simp at h;omega
 | 2,h=>simp at h;omega
 | j+3,h=>simp at h
theorem D82 {S:KS} (k:Like S) {s:Nat} (hs:s<2) (env:Int):∀ (j lo n:Nat),(frP S s env).rg[j]?=some (lo,n)→lo+n≤(frP S s env).S.mem.length:=by
 intro j lo n h
 have hm:=k.mem
 have:=D71 h
 show lo+n≤S.mem.length
 omega
theorem Ha5 {S:KS} (k:Like S) {s:Nat} {env:Int} (e:EnvP s env):FrOk (frP S s env):=by
 have hs:=e.hs;have he:=e.he
 refine ⟨k.ok,by simp [frP],by simp [frP],by simp [frP],by simp [frP,rgP],?_,?_,?_,⟨1280*s,rfl⟩,?_⟩
 ·show ¬ (env<0∨env≥(S.envs.length:Int))
  rw [k.envs,Io7];omega
 ·intro j cap lo n hc hr
  show ∀ (a m:Nat) (right:Int),right=1∨right=2→a+m≤n→Q1 S.tabs S.regs env cap right a m=_
  have hg:=D71 hr
  rcases hg with ⟨rfl,rfl,rfl⟩|⟨rfl,rfl,rfl⟩|⟨rfl,rfl,rfl⟩
  ·cases hc
   refine Hp0 (obj:=s) (e1:=0) (e2:=0) (by rw [k.tabs];exact e.a) (by omega) ?_ (by omega)
   rw [k.regs,G10,Int.toNat_natCast]
   match s,hs with
   | 0,_=>rfl
   | 1,_=>rfl
  ·cases hc
   exact Hp0 (obj:=2) (e1:=0) (e2:=0) (by rw [k.tabs];exact e.b) (by omega) (by rw [k.regs,G10];rfl) (by omega)
  ·cases hc
   exact Hp0 (obj:=3) (e1:=0) (e2:=0) (by rw [k.tabs];exact e.c) (by omega) (by rw [k.regs,G10];rfl) (by omega)
 ·intro i j lo n lo' n' hij hi hj
  have h1:=D71 hi;have h2:=D71 hj
  omega
 ·intro j lo n h0 h
  have:=D71 h;omega
abbrev F0:Fr:=frP S0 0 0
def X0:CX:=⟨B18 S0.mem (rgP 0),[]⟩
theorem If4:FrOk F0:=Ha5 Dy3 G23
theorem Id1 (A:PlA):Ct B2 Bi4 [.agg ⟨Ey4 A83 A⟩] (Dl0 A83 A) fun v own =>
  ∃ k c w m,v=.tuple ⟨[P0 k,P0 c,P0 w,P0 m]⟩∧own [cmC c k F0 X0,rkC w K0,rcC m w 0 (By6 K0 0) []]:=by
 intro h r o
 obtain ⟨v,h',e,k,c,w,m,hv,o2⟩:=Il9 A h r o
 refine ⟨v,h',e,k,c,w,m,hv,?_⟩
 exact Own.cmTake c k F0 [] If4 (D82 Dy3 (by omega) 0) o2
theorem Hu8 {y m:Int} (h:0≤y):Int.tmod y m=y%m:=Int.tmod_eq_emod_of_nonneg h
theorem Ab6 {x:Int} (h:0≤x∧x<256):((b8 x).toNat:Int)=x:=by rw [← Bh5,Dj3];omega
theorem G74 {p:PipeS} (h:okP p=true):Q8 (I8 p)=(p,1):=by
 have hk:=h
 simp only [okP,Bool.and_eq_true,decide_eq_true_eq] at h
 have e:Be2 (I8 p)=p:=by
  obtain ⟨a,b,c,d,l,hl⟩:=p
  simp only at h
  have h1:=Ab6 (x:=a) (by omega);have h2:=Ab6 (x:=b) (by omega);have h3:=Ab6 (x:=c) (by omega);have h4:=Ab6 (x:=d) (by omega)
  simp [Be2,I8,Ai0,D83 hl]
  exact ⟨h1,h2,h3,h4⟩
 have hz:(I8 p).all (·==0)=false:=by simp [I8,Ai0]
 unfold Q8 isP
 rw [hz,e,hk]
 simp
theorem E99 {l b:List UInt8} {a c n:Nat} (h:a+b.length≤l.length) (hd:c+n≤a∨a+b.length≤c):slice (L6 l a b) c n=slice l c n:=by
 refine List.ext_getElem? fun i=>?_
 rw [Bw2,Bw2]
 split
 ·rw [Bm3 h,if_neg (by omega)]
 ·rfl
theorem Gb7 {l b:List UInt8} {a:Nat} (h:a+b.length≤l.length):slice (L6 l a b) a b.length=b:=by
 refine List.ext_getElem? fun i=>?_
 rw [Bw2]
 split
 ·rw [Bm3 h,if_pos (by omega)];congr 1;omega
 ·rw [List.getElem?_eq_none (by omega)]
abbrev Ig0:List Int:=[256,257,258]
structure InS (p:ProcS):Prop where
 a:0≤p.pending∧p.pending≤65535
 b:0≤p.mask∧p.mask≤65535
 c:0≤p.ignored∧p.ignored≤65535
 d:0≤p.caught∧p.caught≤65535
theorem G91 {p:ProcS} (h:okS p=true) (r:InS p):Z8 (Av9 p)=(p,1):=by
 have hk:=h
 obtain ⟨ra,rb,rc,rd⟩:=r
 have e:Be0 (Av9 p)=p:=by
  obtain ⟨st,pa,gr,co,pe,ma,ig,ca,fds,hl⟩:=p
  simp only at ra rb rc rd
  unfold okS at h
  simp only [Bool.and_eq_true,Bool.not_eq_true',Bool.or_eq_false_iff,decide_eq_false_iff_not,List.any_eq_false] at h
  match fds,hl with
  | [f0,f1,f2,f3,f4,f5,f6,f7],hl =>
   have hf:=h.2.2.1
   simp at hf
   have two_b:∀ n:Int,0≤n∧n≤65535→((hi2 n).toNat:Int)*256+((lo2 n).toNat:Int)=n:=fun n hn=>by
    unfold hi2 lo2
    rw [if_pos hn,if_pos hn,Ab6 (by omega),← Bh5,Dj3];omega
   have g0:=h.1
   simp only [Be0,Av9,Ef6,two]
   simp
   refine ⟨Ab6 (by omega),Ab6 (by omega),Ab6 (by omega),Ab6 (by omega),two_b _ ra,two_b _ rb,two_b _ rc,two_b _ rd,Ab6 (by omega),Ab6 (by omega),Ab6 (by omega),Ab6 (by omega),Ab6 (by omega),Ab6 (by omega),Ab6 (by omega),Ab6 (by omega)⟩
 have hz:(Av9 p).all (·==0)=false:=by
  simp [Av9,Ef6]
 unfold Z8 isS
 rw [hz,e,hk]
 simp
def stR (kind:Int) (l:List UInt8):Int:=if kind=1 then (Z8 l).2 else if kind=2 then (Aa9 l).2 else if kind=5 then (At8 l).2 else (Q8 l).2
def rd (X:CX) (r:RecS):List UInt8 :=
 match H2 X.m.length r with
 | some (j,a,n)=>slice (X.m.getD j []) a n
 | none=>[]
structure Clean (nc:Nat) (X:CX):Prop where
 len:X.m.length=nc
 pos:0<nc
 bad:X.bad=[]
 own:(X.m.getD 0 []).length=492
 brs:∀ j,0<j→j<nc→(X.m.getD j []).length=40
 ok:∀ r:RecS,1≤r.kind→r.kind≤5→0≤r.index→r.index<U8 nc r.kind→stR r.kind (rd X r)≠2
structure Rin (nc:Nat) (r:RecS):Prop where
 a:1≤r.kind
 b:r.kind≤5
 c:0≤r.index
 d:r.index<U8 nc r.kind
theorem Rin.place {nc:Nat} {r:RecS} (h:Rin nc r) (hn:0<nc):∃ j a,H2 nc r=some (j,a,R0 r.kind)∧j<nc∧(j=0→a+R0 r.kind≤492)∧(0<j→a=0∧R0 r.kind=40):=by
 obtain ⟨h1,h2,h3,h4⟩:=h
 obtain ⟨k,i⟩:=r
 simp only at h1 h2 h3 h4
 have hk:k=1∨k=2∨k=3∨k=4∨k=5:=by omega
 unfold H2 R0
 simp only
 rw [if_neg (by omega)]
 rcases hk with rfl|rfl|rfl|rfl|rfl
 ·exact ⟨0,_,rfl,hn,fun _=>by simp [U8] at h4 ⊢;omega,fun h=>by omega⟩
 ·exact ⟨0,_,rfl,hn,fun _=>by simp [U8] at h4 ⊢;omega,fun h=>by omega⟩
 ·simp only [U8] at h4
  by_cases h5:i<4
  ·exact ⟨0,_,by simp [h5];rfl,hn,fun _=>by simp;omega,fun h=>by omega⟩
  ·exact ⟨i.toNat-3,0,by simp [h5],by simp at h4;omega,fun h=>by omega,fun _=>⟨rfl,rfl⟩⟩
 ·exact ⟨0,_,rfl,hn,fun _=>by simp,fun h=>by omega⟩
 ·exact ⟨0,_,rfl,hn,fun _=>by simp,fun h=>by omega⟩
theorem H84 {nc:Nat} {r r':RecS} (h:Rin nc r) (h':Rin nc r') (ne:r≠r') {j a n j' a' n':Nat} (e:H2 nc r=some (j,a,n)) (e':H2 nc r'=some (j',a',n')):j≠j'∨a+n≤a'∨a'+n'≤a:=by
 obtain ⟨h1,h2,h3,h4⟩:=h
 obtain ⟨g1,g2,g3,g4⟩:=h'
 obtain ⟨k,i⟩:=r
 obtain ⟨k',i'⟩:=r'
 simp only at h1 h2 h3 h4 g1 g2 g3 g4
 have ne':k≠k'∨i≠i':=by
  by_cases hk:k=k'
  ·right;intro hi;exact ne (by rw [hk,hi])
  ·exact .inl hk
 unfold H2 at e e'
 simp only at e e'
 rw [if_neg (by omega)] at e e'
 unfold U8 at h4 g4
 have hk:k=1∨k=2∨k=3∨k=4∨k=5:=by omega
 have hk':k'=1∨k'=2∨k'=3∨k'=4∨k'=5:=by omega
 have fin:∀ {x y:Nat × Nat × Nat},some x=some y→x=y:=fun h=>by cases h;rfl
 rcases hk with rfl|rfl|rfl|rfl|rfl<;>rcases hk' with rfl|rfl|rfl|rfl|rfl<;>simp at e e' h4 g4 ne'<;>(try split at e)<;>(try split at e')<;>(try simp at e e')<;>omega
def Bt8 (X:CX) (r:RecS) (b:List UInt8):CX :=
 match H2 X.m.length r with
 | some (j,a,_)=>{ X with m:=X.m.set j (L6 (X.m.getD j []) a b) }
 | none=>X
theorem E52 (l:List (List UInt8)) (j j':Nat) (x:List UInt8) (h:j<l.length):(l.set j x).getD j' []=if j'=j then x else l.getD j' []:=by
 rw [List.getD_eq_getElem?_getD,List.getD_eq_getElem?_getD,List.getElem?_set]
 by_cases hj:j=j'
 ·subst hj;simp [h]
 ·rw [if_neg hj,if_neg (fun e=>hj e.symm)]
section
variable {nc:Nat} {X:CX} (c:Clean nc X) {r r':RecS} (h:Rin nc r) (h':Rin nc r')
include c h
theorem Hy2:rdX X r=some (rd X r):=by
 obtain ⟨j,a,e,_⟩:=h.place c.pos
 unfold rdX rd
 rw [c.len,e]
 simp [c.bad]
theorem Bx0 (b:List UInt8):wrX X r b true=(true,Bt8 X r b):=by
 obtain ⟨j,a,e,_⟩:=h.place c.pos
 unfold wrX Bt8
 rw [c.len,e]
 simp [c.bad]
theorem Eu1 {j a n:Nat} (e:H2 nc r=some (j,a,n)):a+n≤(X.m.getD j []).length∧j<X.m.length∧n=R0 r.kind:=by
 obtain ⟨j',a',e',hj,h0,h1⟩:=h.place c.pos
 rw [e] at e';cases e'
 rw [c.len]
 by_cases hz:j=0
 ·subst hz;rw [c.own];exact ⟨h0 rfl,hj,rfl⟩
 ·rw [c.brs j (by omega) hj]
  have:=h1 (by omega)
  exact ⟨by omega,hj,rfl⟩
include h'
theorem Ak7 {b:List UInt8} (hb:b.length=R0 r.kind):rd (Bt8 X r b) r'=if r'=r then b else rd X r':=by
 obtain ⟨j,a,e,_⟩:=h.place c.pos
 obtain ⟨j',a',e',_⟩:=h'.place c.pos
 have p:=Eu1 c h e
 have p':=Eu1 c h' e'
 have es:Bt8 X r b={ X with m:=X.m.set j (L6 (X.m.getD j []) a b) }:=by unfold Bt8;rw [c.len,e]
 have el:(Bt8 X r b).m.length=nc:=by rw [es];simp [c.len]
 unfold rd
 rw [el,e',c.len,e',es]
 simp only
 rw [E52 _ _ _ _ p.2.1]
 by_cases hr:r'=r
 ·subst hr
  rw [e] at e';cases e'
  rw [if_pos rfl,if_pos rfl]
  have:=Gb7 (l:=X.m.getD j []) (b:=b) (a:=a) (by omega)
  rwa [hb] at this
 ·rw [if_neg hr]
  by_cases hj:j'=j
  ·subst hj
   rw [if_pos rfl]
   have dj:=H84 h' h hr e' e
   exact E99 (by omega) (by omega)
  ·rw [if_neg hj]
end
theorem Db4 {nc:Nat} {X:CX} (c:Clean nc X) {r:RecS} (h:Rin nc r) {b:List UInt8} (hb:b.length=R0 r.kind) (hs:stR r.kind b≠2):Clean nc (Bt8 X r b):=by
 obtain ⟨j,a,e,_⟩:=h.place c.pos
 have p:=Eu1 c h e
 have es:Bt8 X r b={ X with m:=X.m.set j (L6 (X.m.getD j []) a b) }:=by unfold Bt8;rw [c.len,e]
 refine ⟨by rw [es];simp [c.len],c.pos,by rw [es];exact c.bad,?_,?_,?_⟩
 ·rw [es];simp only
  rw [E52 _ _ _ _ p.2.1]
  split
  ·rename_i h0;subst h0;rw [Af7 (by omega)];exact c.own
  ·exact c.own
 ·intro i h0 h1
  rw [es];simp only
  rw [E52 _ _ _ _ p.2.1]
  split
  ·rename_i h2;subst h2;rw [Af7 (by omega)];exact c.brs i h0 h1
  ·exact c.brs i h0 h1
 ·intro r' h1 h2 h3 h4
  rw [Ak7 c h ⟨h1,h2,h3,h4⟩ hb]
  split
  ·rename_i hr;rw [hr];exact hs
  ·exact c.ok r' h1 h2 h3 h4
theorem Bw1 {α:Type} (dec:List UInt8→α × Int) (z:α) {nc:Nat} {X:CX} (c:Clean nc X) {r:RecS} (h:Rin nc r) (hd:(dec (rd X r)).2=stR r.kind (rd X r)):V3 dec z X r=(dec (rd X r),X):=by
 unfold V3
 rw [Hy2 c h]
 simp only
 rw [if_neg (by rw [hd];exact c.ok r h.a h.b h.c h.d)]
abbrev vS (X:CX) (i:Int):ProcS × Int:=Z8 (rd X ⟨1,i⟩)
abbrev vF (X:CX) (i:Int):FileS × Int:=Aa9 (rd X ⟨2,i⟩)
abbrev vP (X:CX) (i:Int):PipeS × Int:=Q8 (rd X ⟨3,i⟩)
theorem Dn8 {nc:Nat} {i:Int} (h:0≤i∧i<8):Rin nc ⟨1,i⟩:=⟨by simp,by simp,h.1,h.2⟩
theorem Bn0 {nc:Nat} {i:Int} (h:0≤i∧i<12):Rin nc ⟨2,i⟩:=⟨by simp,by simp,h.1,h.2⟩
theorem Bi6 {nc:Nat} {i:Int} (h:0≤i∧i<3+nc):Rin nc ⟨3,i⟩:=⟨by simp,by simp,h.1,h.2⟩
theorem E16 {nc:Nat} {X:CX} (c:Clean nc X) {i:Int} (h:0≤i∧i<8):Ed3 X i=(vS X i,X):=Bw1 Z8 .zero c (Dn8 h) rfl
theorem B94 {nc:Nat} {X:CX} (c:Clean nc X) {i:Int} (h:0≤i∧i<12):Eg1 X i=(vF X i,X):=Bw1 Aa9 .zero c (Bn0 h) rfl
theorem B97 {nc:Nat} {X:CX} (c:Clean nc X) {i:Int} (h:0≤i∧i<3+nc):Di1 X i=(vP X i,X):=Bw1 Q8 .zero c (Bi6 h) rfl
theorem Dl3 {f:CX→Int→CX} {X:CX}:∀ (m:Nat) (i:Int),(∀ j,i≤j→j<i+m→f X j=X)→Dk0 f m i X=X
 | 0,_,_=>rfl
 | m+1,i,h=>by
  unfold Dk0
  rw [h i (by omega) (by omega)]
  exact Dl3 m (i+1) fun j h1 h2=>h j (by omega) (by omega)
theorem D94 {nc:Nat} {X:CX} (c:Clean nc X):Gg1 X=X:=by
 have h3:Gg8 X=X:=by
  unfold Gg8
  have e1:Ed9 X=(Q8 (rd X ⟨4,0⟩),X):=Bw1 Q8 .zero c ⟨by simp,by simp,by simp,by simp [U8]⟩ rfl
  have e2:Er2 X=(At8 (rd X ⟨5,0⟩),X):=Bw1 At8 0 c ⟨by simp,by simp,by simp,by simp [U8]⟩ rfl
  rw [e1];simp only;rw [e2]
 have hl:=c.len
 unfold Gg1 lookN G63 Ha3
 rw [Dl3 8 0 (fun j h1 h2=>by rw [E16 c (by omega)])]
 rw [Dl3 12 0 (fun j h1 h2=>by rw [B94 c (by omega)])]
 rw [Dl3 (3+X.m.length) 0 (fun j h1 h2=>by rw [B97 c (by omega)]),h3]
theorem G79 {f:FileS} (h:okF f=true):Aa9 (Aj0 f)=(f,1):=by
 have hk:=h
 simp only [okF,Bool.and_eq_true,Bool.or_eq_true,decide_eq_true_eq,beq_iff_eq,bne_iff_ne] at h
 have e:B81 (Aj0 f)=f:=by
  obtain ⟨a,b,c,d⟩:=f
  simp only at h
  have h1:=Ab6 (x:=a) (by omega);have h2:=Ab6 (x:=b) (by omega);have h3:=Ab6 (x:=c) (by omega);have h4:=Ab6 (x:=d) (by omega)
  simp [B81,Aj0,Ba6]
  exact ⟨h1,h2,h3,h4⟩
 have hz:(Aj0 f).all (·==0)=false:=by simp [Aj0,Ba6]
 unfold Aa9 isF
 rw [hz,e,hk]
 simp
section
variable {nc:Nat} {X:CX} (c:Clean nc X)
include c
abbrev Aw0 (X:CX) (i:Int) (p:ProcS):CX:=Bt8 X ⟨1,i⟩ (Av9 p)
abbrev Au1 (X:CX) (i:Int) (f:FileS):CX:=Bt8 X ⟨2,i⟩ (Aj0 f)
theorem A48 {i:Int} (h:0≤i∧i<8) {p:ProcS} (ok:okS p=true) (r:InS p) :
  Bh3 X i p=(true,Aw0 X i p)∧Clean nc (Aw0 X i p)∧(∀ j:Int,0≤j∧j<8→vS (Aw0 X i p) j=if j=i then (p,1) else vS X j)∧(∀ j:Int,0≤j∧j<12→vF (Aw0 X i p) j=vF X j)∧(∀ j:Int,0≤j∧j<3+nc→vP (Aw0 X i p) j=vP X j):=by
 have hl:(Av9 p).length=R0 (1:Int):=by rw [Ec0];rfl
 refine ⟨by unfold Bh3;rw [ok];exact Bx0 c (Dn8 h) _,Db4 c (Dn8 h) hl (by show (Z8 (Av9 p)).2≠2;rw [G91 ok r];simp),fun j hj=>?_,fun j hj=>?_,fun j hj=>?_⟩
 ·show Z8 (rd _ _)=_
  rw [Ak7 c (Dn8 h) (Dn8 hj) hl]
  by_cases e:j=i
  ·rw [if_pos (by rw [e]),if_pos e];exact G91 ok r
  ·rw [if_neg (by simp [e]),if_neg e]
 ·show Aa9 (rd _ _)=_
  rw [Ak7 c (Dn8 h) (Bn0 hj) hl,if_neg (by simp)]
 ·show Q8 (rd _ _)=_
  rw [Ak7 c (Dn8 h) (Bi6 hj) hl,if_neg (by simp)]
theorem Ai9 {i:Int} (h:0≤i∧i<12) {f:FileS} (ok:okF f=true) :
  Bi3 X i f=(true,Au1 X i f)∧Clean nc (Au1 X i f)∧(∀ j:Int,0≤j∧j<8→vS (Au1 X i f) j=vS X j)∧(∀ j:Int,0≤j∧j<12→vF (Au1 X i f) j=if j=i then (f,1) else vF X j)∧(∀ j:Int,0≤j∧j<3+nc→vP (Au1 X i f) j=vP X j):=by
 have hl:(Aj0 f).length=R0 (2:Int):=by rw [Dn5];rfl
 refine ⟨by unfold Bi3;rw [ok];exact Bx0 c (Bn0 h) _,Db4 c (Bn0 h) hl (by show (Aa9 (Aj0 f)).2≠2;rw [G79 ok];simp),fun j hj=>?_,fun j hj=>?_,fun j hj=>?_⟩
 ·show Z8 (rd _ _)=_
  rw [Ak7 c (Bn0 h) (Dn8 hj) hl,if_neg (by simp)]
 ·show Aa9 (rd _ _)=_
  rw [Ak7 c (Bn0 h) (Bn0 hj) hl]
  by_cases e:j=i
  ·rw [if_pos (by rw [e]),if_pos e];exact G79 ok
  ·rw [if_neg (by simp [e]),if_neg e]
 ·show Q8 (rd _ _)=_
  rw [Ak7 c (Bn0 h) (Bi6 hj) hl,if_neg (by simp)]
theorem Is5 {i:Int} (h:0≤i∧i<8):((vS X i).2=0∧(vS X i).1=.zero)∨((vS X i).2=1∧okS (vS X i).1=true):=by
 have:=c.ok ⟨1,i⟩ (by simp) (by simp) h.1 h.2
 have hk:(vS X i).2≠2:=this
 unfold vS Z8 at hk ⊢
 split
 ·exact .inl ⟨rfl,rfl⟩
 ·split
  ·rename_i h2
   unfold isS at h2
   simp only [Bool.and_eq_true] at h2
   exact .inr ⟨rfl,h2.1⟩
  ·rename_i h1 h2;simp [h1,h2] at hk
theorem Gi1 {i:Int} (h:0≤i∧i<12):((vF X i).2=0∧(vF X i).1=.zero)∨((vF X i).2=1∧okF (vF X i).1=true):=by
 have:=c.ok ⟨2,i⟩ (by simp) (by simp) h.1 h.2
 have hk:(vF X i).2≠2:=this
 unfold vF Aa9 at hk ⊢
 split
 ·exact .inl ⟨rfl,rfl⟩
 ·split
  ·rename_i h2
   unfold isF at h2
   simp only [Bool.and_eq_true] at h2
   exact .inr ⟨rfl,h2.1⟩
  ·rename_i h1 h2;simp [h1,h2] at hk
end
abbrev H7 (n e:Int) (b:Bool):List Value:=[int n,int e,.slice none 0 0,.bool b]
theorem Im1 (e:Int):Ct B2 Da6 [int e] [] fun v own=>v=.agg ⟨H7 0 e false⟩∧own []:=by
 refine Ct.of Hd6 rfl fun h r=>Tr.eq (Hk5 ..) ?_;refine Je ?_
 (refine Ja ?_;unhygienic intros)
 refine Ys fun o=>?_
 exact ⟨rfl,o.sub⟩
theorem Go7 (ok:Bool) (n:Int):Ct B2 Bd4 [.bool ok,int n] [] fun v own=>v=.agg ⟨if ok then H7 n 0 false else H7 0 105 false⟩∧own []:=by
 refine Ct.of Hf2 rfl fun h r=>Tr.eq (Hk4 ..) ?_;refine Je ?_
 cases ok with
 | true =>
  (refine Ja ?_;unhygienic intros)
  refine Ys fun o=>?_
  exact ⟨rfl,o.sub⟩
 | false =>
  (refine Ja ?_;unhygienic intros)
  refine Yc (Im1 105) ?_;rintro _ h ⟨rfl,o⟩<;>(refine Jf o ?_;unhygienic intros)
  refine Ys fun o=>?_
  exact ⟨rfl,o.sub⟩
def O7 (X:CX) (i:Int):ProcS × Int:=if (vS X i).2=1∧(vS X i).1.state=1 then ((vS X i).1,0) else (.zero,105)
theorem B84 (b k:Nat) (F:Fr) (X:CX) (ok:FrOk F) {nc:Nat} (c:Clean nc X) (i:Int) (hi:0≤i∧i<8):Ct B2 Ae4 [P0 b,int i] [cmC b k F X] fun v own=>v=.tuple ⟨[.agg ⟨E2 (O7 X i).1⟩,int (O7 X i).2]⟩∧own [cmC b k F X]:=by
 refine Ct.of Hf4 rfl fun h r=>Tr.eq (Hi9 ..) ?_;refine Je ?_
 (refine Jc ?_;unhygienic intros)
 refine Yn fun b0 h=>?_
 refine Yc (Gj0 b k F X ok) ?_;rintro _ h ⟨rfl,o⟩<;>refine Jh o ?_
 rw [D94 c]
 (refine Ja ?_;unhygienic intros)
 refine Yc (G99 b k F X ok i) ?_;rintro _ h ⟨rfl,o⟩<;>refine Jh o ?_
 rw [E16 c hi]
 dsimp only
 (refine Jc ?_;unhygienic intros)
 refine Yn fun b1 h=>?_
 (refine Jb ?_;unhygienic intros)
 refine Tr.orG (c:=(vS X i).1.state != 1) (fun hb=>?_) ?_
 ·exact Jz
 unfold O7
 by_cases h1:(vS X i).2=1∧(vS X i).1.state=1
 ·rw [if_pos h1]
  refine Yf (by simp [h1.1,h1.2]) ?_
  (refine Ja ?_;unhygienic intros)
  refine Ys fun o=>?_
  exact ⟨rfl,o.sub⟩
 ·rw [if_neg h1]
  refine Yt (by simp;by_cases h2:(vS X i).2=1<;>simp [h2] at h1 ⊢;exact h1) ?_
  (refine Ja ?_;unhygienic intros)
  refine Ys fun o=>?_
  exact ⟨rfl,o.sub⟩
def Gy6 (X:CX):Nat→Int→Int
 | 0,_=>-1
 | m+1,i=>if (vS X i).2=0 then i else Gy6 X m (i+1)
def Ih0:List Int→List Int→List Int
 | [],m=>m
 | f::l,m=>Ih0 l (if f>0 then m.set (f-1).toNat (m.getD (f-1).toNat 0+1) else m)
def Bl1 (n:Int) (m:List Int):Prop:=m.length=12∧∀ x ∈ m,0≤x∧x≤n
theorem Bl1.get {n:Int} {m:List Int} (h:Bl1 n m) {j:Nat} (hj:j<12):0≤m.getD j 0∧m.getD j 0≤n:=by
 have hl:=h.1
 have e:m[j]?=some m[j]:=List.getElem?_eq_getElem (by omega)
 rw [List.getD_eq_getElem?_getD,e]
 exact h.2 _ (List.getElem_mem _)
theorem Bl1.set {n:Int} {m:List Int} (h:Bl1 n m) {j:Nat} (hj:j<12):Bl1 (n+1) (m.set j (m.getD j 0+1)):=by
 refine ⟨by simpa using h.1,fun x hx=>?_⟩
 rcases List.mem_or_eq_of_mem_set hx with h2|rfl
 ·have:=h.2 x h2;omega
 ·have:=h.get hj;omega
theorem Bl1.up {n:Int} {m:List Int} (h:Bl1 n m):Bl1 (n+1) m:=⟨h.1,fun x hx=>by have:=h.2 x hx;omega⟩
def Ib3 (l:List Int):Prop:=∀ f ∈ l,0≤f∧f≤12
theorem Iq3 {l:List Int} {i:Nat} (h:i<l.length):(l.map int)[i]?=some (int (l.getD i 0)):=by rw [List.getElem?_map,O2 0 h];rfl
def D75 (X:CX) (more:List Int):List Int→Int
 | []=>0
 | f::l=>if f=0 then D75 X more l else if (vF X (f-1)).2≠1 then 105 else if (vF X (f-1)).1.refs+more.getD (f-1).toNat 0>64 then 123 else D75 X more l
theorem B69 {f:FileS} (h:okF f=true):1≤f.refs∧f.refs≤64:=by
 simp only [okF,Bool.and_eq_true,Bool.or_eq_true,decide_eq_true_eq,beq_iff_eq,bne_iff_ne] at h
 omega
theorem Ii9 {nc:Nat} {X:CX} (c:Clean nc X) {i:Int} (h:0≤i∧i<12):0≤(vF X i).1.refs∧(vF X i).1.refs≤64:=by
 rcases Gi1 c h with ⟨_,h1⟩|⟨_,h1⟩
 ·rw [h1];simp
 ·have:=B69 h1;omega
abbrev Bv6 (f:FileS) (n:Int):FileS:=⟨f.kind,f.pipe,f.refs+n,f.flags⟩
def Hz7 (more:List Int):Nat→Int→CX→CX
 | 0,_,X=>X
 | m+1,j,X=>Hz7 more m (j+1) (if more.getD j.toNat 0=0 then X else Au1 X j (Bv6 (vF X j).1 (more.getD j.toNat 0)))
def H92 (more:List Int) (X:CX) (j:Int):Prop:=∀ i:Int,j≤i→i<12→more.getD i.toNat 0≠0→(vF X i).2=1∧(vF X i).1.refs+more.getD i.toNat 0≤64
theorem B66 {f:FileS} (h:okF f=true) {n:Int} (hn:1≤f.refs+n∧f.refs+n≤64):okF (Bv6 f n)=true:=by
 simp only [okF,Bool.and_eq_true,Bool.or_eq_true,decide_eq_true_eq,beq_iff_eq,bne_iff_ne] at h ⊢
 omega
theorem H92.step {nc:Nat} {X:CX} (c:Clean nc X) {more:List Int} (hm:Bl1 8 more) {j:Int} (h0:0≤j∧j<12) (s:H92 more X j) (hz:more.getD j.toNat 0≠0) :
  okF (Bv6 (vF X j).1 (more.getD j.toNat 0))=true∧H92 more (Au1 X j (Bv6 (vF X j).1 (more.getD j.toNat 0))) (j+1):=by
 obtain ⟨s1,s2⟩:=s j (by omega) (by omega) hz
 have hg:=hm.get (j:=j.toNat) (by omega)
 have hk:okF (vF X j).1=true:=by
  rcases Gi1 c h0 with ⟨h1,_⟩|⟨_,h1⟩
  ·omega
  ·exact h1
 have hr:=B69 hk
 have k:=B66 hk (n:=more.getD j.toNat 0) (by omega)
 refine ⟨k,fun i h1 h2 hi=>?_⟩
 rw [(Ai9 c h0 k).2.2.2.1 i (by omega),if_neg (by omega)]
 exact s i (by omega) h2 hi
abbrev In3:List Int:=[0,0,0,0,0,0,0,0,0,0,0,0]
abbrev Ex4 (p:ProcS):List Int:=Ih0 p.fds In3
def G28 (X:CX) (p:ProcS):Int × CX:=if D75 X (Ex4 p) p.fds=0 then (0,Hz7 (Ex4 p) 12 0 X) else (D75 X (Ex4 p) p.fds,X)
theorem Hl6 (l:List UInt8) (i:Nat):0≤byI l i∧byI l i<256:=by
 have:=(l.getD i 0).toNat_lt
 unfold byI;omega
theorem Ew7 (l:List UInt8) (j:Nat):0≤two l j∧two l j≤65535:=by
 have:=Hl6 l j;have:=Hl6 l (j+1)
 unfold two;omega
theorem D50 (l:List UInt8):InS (Z8 l).1:=by
 unfold Z8
 split
 ·exact ⟨by simp,by simp,by simp,by simp⟩
 ·split
  ·exact ⟨Ew7 _ _,Ew7 _ _,Ew7 _ _,Ew7 _ _⟩
  ·exact ⟨by simp,by simp,by simp,by simp⟩
theorem Hn1 {p:ProcS} (h:okS p=true):Ib3 p.fds:=fun f hf=>by
 unfold okS at h
 simp only [Bool.and_eq_true,Bool.not_eq_true',List.any_eq_false] at h
 have:=h.2.2.1 f hf
 simp at this;omega
abbrev Ho3 (p:ProcS) (i:Int):ProcS:=⟨p.state,i+1,p.group,p.code,0,p.mask,p.ignored,p.caught,p.fds,p.len⟩
def Ir3 (X:CX) (i:Int):List Value × CX :=
 if (O7 X i).2≠0 then (H7 0 (O7 X i).2 false,X)
 else if Gy6 X 8 0<0 then (H7 0 111 false,X)
 else if (G28 X (O7 X i).1).1≠0 then (H7 0 (G28 X (O7 X i).1).1 false,X)
 else (H7 (Gy6 X 8 0) 0 false,Aw0 (G28 X (O7 X i).1).2 (Gy6 X 8 0) (Ho3 (O7 X i).1 i))
theorem A06 {nc:Nat} {X:CX} (c:Clean nc X) {i:Int} (hi:0≤i∧i<8) (h:(O7 X i).2=0):O7 X i=((vS X i).1,0)∧(vS X i).1.state=1∧okS (vS X i).1=true∧(vS X i).2=1:=by
 unfold O7 at h ⊢
 split
 ·rename_i h1
  refine ⟨rfl,h1.2,?_,h1.1⟩
  rcases Is5 c hi with ⟨h2,_⟩|⟨_,h2⟩
  ·rw [h1.1] at h2;cases h2
  ·exact h2
 ·rename_i h1;rw [if_neg h1] at h;cases h
theorem Ep6 (j:Int) (p:ProcS):(int j::E2 p).length=17:=by simp [Bw3 p,p.len]
instance {j:Int} {p:ProcS}:LenC (int j::E2 p) 17:=⟨Ep6 j p⟩
instance {j:Int} {p:ProcS}:PartC (int j::E2 p) 0 17 (int j::E2 p):=⟨Dc2 (Ep6 j p)⟩
instance {j:Int} {p:ProcS} {cs:List Value} [k:LenC cs 17]:SetsC cs 0 (int j::E2 p) (int j::E2 p):=⟨Bk0 k.ok (Ep6 j p) (by simp [Value.oneCell])⟩
def p0:ProcS:=⟨1,0,0,0,0,0,0,0,[1,0,0,0,0,0,0,0],rfl⟩
def f0:FileS:=⟨3,0,1,0⟩
def Ay7:List UInt8:=L6 (L6 Ac9 0 (Em3 p0)) 192 (Aj0 f0)
theorem B20:Ay7.length=492:=by kernel_rfl
theorem Eq4:(Em3 p0).length=24:=by kernel_rfl
theorem Gs6 (l b:List UInt8) (a:Nat):(A5 l).take a++A5 b++(A5 l).drop (a+(A5 b).length)=A5 (L6 l a b):=by
 rw [U9]
 simp [L6,A5,List.map_take,List.map_drop]
theorem Ig3 {b:List UInt8} (h:0<b.length):A5 b≠[]:=by
 intro e
 have e2:=congrArg List.length e
 rw [U9] at e2
 have e3:b.length=0:=e2
 omega
theorem G09:Ct B2 Bb9 [] [] fun v own=>∃ a,v=.slice a 492 492∧own [slC false A7 1 a 492 492 (A5 Ay7)]:=by
 refine Ct.of Gu5 rfl fun h r=>Tr.eq (Gv7 ..) ?_;refine Je ?_
 refine Yc (Gs3) ?_;rintro _ h ⟨rfl,o⟩<;>refine Jh o ?_
 (refine Jc ?_;unhygienic intros)
 rw [A74,Ac1]
 refine Tr.ck (by simp [B4]) ?_
 refine Yn fun b0 h=>?_
 refine Ds6 (n:=492) 0 rfl (by rw [U9];exact Ac1) ?_
 refine Je ?_
 refine Yn fun b1 h=>?_
 (refine Ja ?_;unhygienic intros)
 rw [show ([int 1,int 0,int 0,int 0,int 0,int 0,int 0,int 0,int 0,int 0,int 0,int 0,int 0,int 0,int 0,int 0]:List Value).set 8 (int 1)=E2 p0 from rfl]
 (refine Ja ?_;unhygienic intros)
 refine Yc (Hx7 p0) ?_;rintro _ h ⟨rfl,o⟩<;>refine Jh o ?_
 (refine Ja ?_;unhygienic intros)
 rw [show List.take (min (bs (Em3 p0)).size 492) (bs (Em3 p0)).data.toList=Em3 p0 by kernel_rfl]
 rw [show B5 (L7 b0)=(B5 (L7 b0)).add 0 from rfl]
 refine Tr.xPAggS (cs':=A5 (L6 Ac9 0 (Em3 p0))) ⟨Ig3 (by rw [Eq4];omega),by rw [U9,U9,Eq4,Ac1];omega,Ag6 _,Gs6 _ _ 0⟩ fun h=>?_
 (refine Ja ?_;unhygienic intros)
 refine Yc (H53 f0) ?_;rintro _ h ⟨rfl,o⟩<;>refine Jh o ?_
 (refine Ja ?_;unhygienic intros)
 rw [show List.take (min (bs (Aj0 f0)).size (492-192)) (bs (Aj0 f0)).data.toList=Aj0 f0 by kernel_rfl]
 rw [Gk8 (by omega),El2]
 refine Tr.xPAggS (cs':=A5 Ay7) ⟨Ig3 (by rw [Dn5];omega),by rw [U9,U9,Af7 (by rw [Eq4,Ac1];omega),Dn5,Ac1];omega,Ag6 _,Gs6 _ _ 192⟩ fun h=>?_
 refine Ys fun o=>?_
 exact ⟨_,rfl,o.sub⟩
theorem Hw1 {S:KS} (kS:Like S) {s:Nat} {env:Int} (e:EnvP s env) {j:Nat} {cap:Int} {lo n:Nat} (hc:Ig0[j]?=some cap) (hr:(rgP s)[j]?=some (lo,n)) {b:List UInt8} (hb:b.length≤n) :
  Aa0 S env ⟨2,cap,0,0,0,0,b⟩=((0,0,[]),Bp4 S (L6 S.mem lo b)):=by
 have F:=Ha5 kS e
 have hroom:lo+n≤S.mem.length:=D82 kS e.hs env j lo n hr
 have hp:=F.pl j cap lo n hc hr 0 b.length 2 (.inr rfl) (by omega)
 have hs:Bb6 S.mem ((lo+0:Nat):Int) b=some (L6 S.mem lo b):=by
  unfold Bb6
  rw [if_pos (by omega),Int.toNat_natCast,Nat.add_zero];rfl
 have ew:Al1 S.tabs S.regs S.mem env cap 0 b=(0,L6 S.mem lo b):=by
  unfold Al1
  rw [show Q1 S.tabs S.regs env cap 2 0 (b.length:Int)=(((lo+0:Nat):Int),0) from hp]
  rw [if_neg (by simp),hs]
 unfold Aa0
 rw [if_neg (show ¬ (env<0∨env≥(S.envs.length:Int)) from F.env)]
 unfold kDo
 rw [if_neg (show ¬ ((2:Int)=1) by decide),if_pos rfl,ew]
def q1:PipeS:=⟨0,0,1,1,List.replicate 32 0,rfl⟩
def S1:KS:=Bp4 S0 (L6 S0.mem 0 Ay7)
def S2:KS:=Bp4 S1 (L6 S1.mem 512 (I8 q1))
def S3:KS:=Bp4 S2 (L6 S2.mem 1856 (I8 q1))
theorem Ax7:(I8 q1).length=40:=A07 q1.len
theorem Gf4:Like S1:=D99 Dy3 (by rw [Af7 (by rw [B20,Dy3.mem];omega)];exact Dy3.mem)
theorem Ge6:Like S2:=D99 Gf4 (by rw [Af7 (by rw [Ax7,Gf4.mem];omega)];exact Gf4.mem)
theorem Ig4:Like S3:=D99 Ge6 (by rw [Af7 (by rw [Ax7,Ge6.mem];omega)];exact Ge6.mem)
theorem It2:Aa0 S0 0 ⟨2,256,0,0,0,0,Ay7⟩=((0,0,[]),S1):=Hw1 Dy3 G23 (j:=0) rfl rfl (by rw [B20];omega)
theorem Ir9:Aa0 S1 0 ⟨2,257,0,0,0,0,I8 q1⟩=((0,0,[]),S2):=Hw1 Gf4 G23 (j:=1) rfl rfl (by rw [Ax7];omega)
theorem It3:Aa0 S2 0 ⟨2,258,0,0,0,0,I8 q1⟩=((0,0,[]),S3):=Hw1 Ge6 G23 (j:=2) rfl rfl (by rw [Ax7];omega)
abbrev F1:Fr:=frP S3 0 0
def X1:CX:=⟨B18 S3.mem (rgP 0),[]⟩
theorem Ai1:FrOk F1:=Ha5 Ig4 G23
theorem E72:Clean 3 X1:=by
 refine ⟨by kernel_rfl,by omega,rfl,by kernel_rfl,fun j h0 h1=>?_,fun r h1 h2 h3 h4=>?_⟩
 ·have:j=1∨j=2:=by omega
  rcases this with rfl|rfl
  ·clear h0 h1;show (_:Nat)=_;kernel_rfl
  ·clear h0 h1;show (_:Nat)=_;kernel_rfl
 ·have all:((List.range 8).all (fun i=>decide (stR 1 (rd X1 ⟨1,(i:Int)⟩)≠2)) && ((List.range 12).all (fun i=>decide (stR 2 (rd X1 ⟨2,(i:Int)⟩)≠2)) && ((List.range 6).all (fun i=>decide (stR 3 (rd X1 ⟨3,(i:Int)⟩)≠2)) && (decide (stR 4 (rd X1 ⟨4,0⟩)≠2) && decide (stR 5 (rd X1 ⟨5,0⟩)≠2)))))=true:=by kernel_rfl
  simp only [Bool.and_eq_true,List.all_eq_true,List.mem_range,decide_eq_true_eq] at all
  obtain ⟨a1,a2,a3,a4,a5⟩:=all
  obtain ⟨k,i⟩:=r
  simp only at h1 h2 h3 h4 ⊢
  obtain ⟨n,rfl⟩:∃ n:Nat,i=n:=⟨i.toNat,by omega⟩
  have hk:k=1∨k=2∨k=3∨k=4∨k=5:=by omega
  rcases hk with rfl|rfl|rfl|rfl|rfl<;>simp [U8] at h4
  ·exact a1 n (by omega)
  ·exact a2 n (by omega)
  ·exact a3 n (by omega)
  ·obtain rfl:n=0:=by omega
   exact a4
  ·obtain rfl:n=0:=by omega
   exact a5
theorem Hs5 (k w m c:Nat) (b1:Nat) (cs:List Value) (hcs:cs.length=7) (K:RKS) (hK:RKOk K) (hB:0<K.B.envs.length) :
  CtJ I2 Af1 Be9 [(6,P0 k),(7,P0 c),(8,P0 w),(9,P0 m),(10,P0 b1),(11,.string (bs (I8 q1))),(12,int 1)] [pt b1 (.cells Az0 false cs),E5 k S1,rkC w K] fun v own =>
   v=.tuple ⟨[P0 k,P0 c,P0 w,P0 m]⟩∧∃ K',own [E5 k S3,rkC w K']:=by
 have hset:∀ xs:List Value,xs.length=7→∀ vs:List Value,vs.length=7→vs.all Value.oneCell=true→Ec8 xs 0 vs=some vs:=fun xs h vs h1 h2=>Bk0 h h1 h2
 refine CtJ.of B16 fun h r=>Tr.eq (B03 ..) ?_;refine Je ?_
 refine Yt rfl ?_
 rw [A74,Ax7]
 refine Tr.ck (by simp [B4]) ?_
 refine Yn fun b2 h=>?_
 refine Ds6 (n:=40) 0 rfl (by rw [U9];exact Ax7) ?_
 refine Je ?_
 rw [show IntKind.wrap .i64 (256+1)=257 by decide]
 refine Gs (fun h=>?_) (by exact hset cs hcs _ rfl rfl)
 (refine Ja ?_;unhygienic intros)
 have J1:=D77 k S1 0 Gf4.ok (by omega) 0 ⟨2,257,0,0,0,0,I8 q1⟩ (some (L7 b2)) 40 false (show ((2:Int)≠5) by decide)
 rw [Ir9] at J1
 simp only [Bk8,Ax7] at J1
 refine Bv1 J1 [2,0] rfl ?_
 rintro _ h ⟨y,z,rfl,o⟩
 refine (?_:Tr _ _ _ _) o
 refine Je ?_
 (refine Ja ?_;unhygienic intros)
 have R1:=Ew9 w K hK 0 hB ⟨2,257,0,0,0,0,I8 q1⟩ rfl (by rw [Ax7];simp [B4]) (slC false A7 1 (some (L7 b2)) (I8 q1).length 40 (A5 (I8 q1))) (some (L7 b2)) 40 false
 simp only [Bk8,Ax7] at R1
 refine Bv1 R1 [4,2] rfl ?_
 rintro _ h ⟨rfl,o⟩
 rw [show ({ K with R:=(Ai4 K.R ((0:Nat):Int) 257 0 (I8 q1)).2 }:RKS)=wrR K 257 (I8 q1) from rfl] at o
 have hK1:=Gb0 hK 257 (I8 q1)
 refine (?_:Tr _ _ _ _) o
 refine Je ?_
 (refine Ja ?_;unhygienic intros)
 refine Tr.jmp B16 (Tr.eq (B03 ..) ?_);(try simp only[Nr,Nl,wl,Nat.reduceAdd,Nat.reduceMul,Int.reduceToNat])
 refine Yt rfl ?_
 rw [A74,Ax7]
 refine Tr.ck (by simp [B4]) ?_
 refine Yn fun b3 h=>?_
 refine Ds6 (n:=40) 0 rfl (by rw [U9];exact Ax7) ?_
 refine Je ?_
 rw [show IntKind.wrap .i64 (256+2)=258 by decide]
 refine Gs (fun h=>?_) (by exact hset _ rfl _ rfl rfl)
 (refine Ja ?_;unhygienic intros)
 have J2:=D77 k S2 0 Ge6.ok (by omega) 0 ⟨2,258,0,0,0,0,I8 q1⟩ (some (L7 b3)) 40 false (show ((2:Int)≠5) by decide)
 rw [It3] at J2
 simp only [Bk8,Ax7] at J2
 refine Bv1 J2 [4,0] rfl ?_
 rintro _ h ⟨y2,z2,rfl,o⟩
 refine (?_:Tr _ _ _ _) o
 refine Je ?_
 (refine Ja ?_;unhygienic intros)
 have R2:=Ew9 w (wrR K 257 (I8 q1)) hK1 0 hB ⟨2,258,0,0,0,0,I8 q1⟩ rfl (by rw [Ax7];simp [B4]) (slC false A7 1 (some (L7 b3)) (I8 q1).length 40 (A5 (I8 q1))) (some (L7 b3)) 40 false
 simp only [Bk8,Ax7] at R2
 refine Bv1 R2 [3,2] rfl ?_
 rintro _ h ⟨rfl,o⟩
 rw [show ({ wrR K 257 (I8 q1) with R:=(Ai4 (wrR K 257 (I8 q1)).R ((0:Nat):Int) 258 0 (I8 q1)).2 }:RKS)=wrR (wrR K 257 (I8 q1)) 258 (I8 q1) from rfl] at o
 refine (?_:Tr _ _ _ _) o
 refine Je ?_
 (refine Ja ?_;unhygienic intros)
 refine Tr.jmp B16 (Tr.eq (B03 ..) ?_);(try simp only[Nr,Nl,wl,Nat.reduceAdd,Nat.reduceMul,Int.reduceToNat])
 refine Yf rfl ?_
 refine Ys fun o=>?_
 exact ⟨rfl,_,o.fin [3,0] 5 rfl rfl⟩
theorem If8:RKOk K0:=Gb0 D73.1 256 Ac9
theorem Ho1:0<K0.B.envs.length:=by show (0:Nat)<(Df2 Ah8).B.envs.length;rw [D73.2,Bu8];simp
theorem Hn6 (a:Option Addr):Ct B2 Af1 [.slice a 492 492] [slC false A7 1 a 492 492 (A5 Ay7)] fun v own=>∃ k c w m K',v=.tuple ⟨[P0 k,P0 c,P0 w,P0 m]⟩∧own [cmC c k F1 X1,rkC w K',rcC m w 0 (By6 K0 0) []]:=by
 refine Ct.of B16 rfl fun h r=>Tr.eq (Hb5 ..) ?_;refine Je ?_
 refine Yc (H77) ?_;rintro _ h ⟨A,rfl,o⟩<;>refine Jh o ?_
 (refine Ja ?_;unhygienic intros)
 refine Yc (Id1 A) ?_
 rintro _ h ⟨k,c,w,m,rfl,o⟩
 refine (?_:Tr _ _ _ _) o
 refine Je ?_
 (refine Jb ?_;unhygienic intros)
 refine Yb (Yf rfl ?_)
 refine Ys fun o=>(?_:Tr _ _ _ _) o;refine Je ?_
 refine Yf rfl ?_
 refine Iq2 c k F0 X0 fun f=>?_
 rw [show F0.at X0.m=S0 from Fr.at_cut If4 (D82 Dy3 (by omega) 0)]
 refine (?_:Tr (E5 k S0::W5 c k 0 Ig0 []::_) _ _ _)
 refine Yn fun b1 h=>?_
 (refine Ja ?_;unhygienic intros)
 refine Yc (Gu0 q1) ?_;rintro _ h ⟨rfl,o⟩<;>refine Jh o ?_
 (refine Ja ?_;unhygienic intros)
 have J1:=D77 k S0 0 Dy3.ok (by omega) 0 ⟨2,256,0,0,0,0,Ay7⟩ a 492 false (show ((2:Int)≠5) by decide)
 rw [It2] at J1
 simp only [Bk8,B20] at J1
 refine Bv1 J1 [1,4] rfl ?_
 rintro _ h ⟨y,z,rfl,o⟩
 refine (?_:Tr _ _ _ _) o
 refine Je ?_
 (refine Ja ?_;unhygienic intros)
 have R1:=Ew9 w K0 If8 0 Ho1 ⟨2,256,0,0,0,0,Ay7⟩ rfl (by rw [B20];simp [B4]) (slC false A7 1 a Ay7.length 492 (A5 Ay7)) a 492 false
 simp only [Bk8,B20] at R1
 refine Bv1 R1 [5,2] rfl ?_
 rintro _ h ⟨rfl,o⟩
 rw [show ({ K0 with R:=(Ai4 K0.R ((0:Nat):Int) 256 0 Ay7).2 }:RKS)=wrR K0 256 Ay7 from rfl] at o
 refine (?_:Tr _ _ _ _) o
 refine Je ?_
 (refine Ja ?_;unhygienic intros)
 refine D61 (Hs5 k w m c b1 _ rfl (wrR K0 256 Ay7) (Gb0 If8 256 Ay7) Ho1) [4,3,0] rfl ?_
 rintro _ h ⟨rfl,K',o⟩
 refine ⟨k,c,w,m,K',rfl,?_⟩
 exact Own.cmTake c k F1 [] Ai1 (D82 Ig4 (by omega) 0) (o.fin [0,3,0,2] 2 rfl rfl)
def X2:CX:=(Ir3 X1 0).2
structure Inv (n:Int) (X:CX):Prop where
 c:Clean 3 X
 h:1≤n∧n≤8
 on:∀ j:Int,0≤j→j<n→(vS X j).2=1∧(vS X j).1.state=1∧(vS X j).1.fds=p0.fds
 off:∀ j:Int,n≤j→j<8→(vS X j).2=0
 fl:(vF X 0).2=1∧(vF X 0).1.refs=n
section
variable {nc:Nat} {X:CX} (c:Clean nc X)
include c
abbrev A04 (X:CX) (i:Int) (p:PipeS):CX:=Bt8 X ⟨3,i⟩ (I8 p)
abbrev D20 (X:CX) (i:Int):CX:=Bt8 X ⟨2,i⟩ (List.replicate 8 0)
abbrev Ga3 (X:CX) (i:Int):CX:=Bt8 X ⟨3,i⟩ (List.replicate 40 0)
theorem As5 {i:Int} (h:0≤i∧i<3+nc) {p:PipeS} (ok:okP p=true) :
  Ba2 X i p=(true,A04 X i p)∧Clean nc (A04 X i p)∧(∀ j:Int,0≤j∧j<8→vS (A04 X i p) j=vS X j)∧(∀ j:Int,0≤j∧j<12→vF (A04 X i p) j=vF X j)∧(∀ j:Int,0≤j∧j<3+nc→vP (A04 X i p) j=if j=i then (p,1) else vP X j):=by
 have hl:(I8 p).length=R0 (3:Int):=by rw [A07 p.len];rfl
 refine ⟨by unfold Ba2;rw [ok];exact Bx0 c (Bi6 h) _,Db4 c (Bi6 h) hl (by show (Q8 (I8 p)).2≠2;rw [G74 ok];simp),fun j hj=>?_,fun j hj=>?_,fun j hj=>?_⟩
 ·show Z8 (rd _ _)=_
  rw [Ak7 c (Bi6 h) (Dn8 hj) hl,if_neg (by simp)]
 ·show Aa9 (rd _ _)=_
  rw [Ak7 c (Bi6 h) (Bn0 hj) hl,if_neg (by simp)]
 ·show Q8 (rd _ _)=_
  rw [Ak7 c (Bi6 h) (Bi6 hj) hl]
  by_cases e:j=i
  ·rw [if_pos (by rw [e]),if_pos e];exact G74 ok
  ·rw [if_neg (by simp [e]),if_neg e]
theorem D76 {i:Int} (h:0≤i∧i<12) :
  B95 X ⟨2,i⟩=(true,D20 X i)∧Clean nc (D20 X i)∧(∀ j:Int,0≤j∧j<8→vS (D20 X i) j=vS X j)∧(∀ j:Int,0≤j∧j<12→vF (D20 X i) j=if j=i then (.zero,0) else vF X j)∧(∀ j:Int,0≤j∧j<3+nc→vP (D20 X i) j=vP X j):=by
 have hl:(List.replicate 8 (0:UInt8)).length=R0 (2:Int):=rfl
 refine ⟨Bx0 c (Bn0 h) _,Db4 c (Bn0 h) hl (by show (Aa9 (List.replicate 8 0)).2≠2;rw [show (Aa9 (List.replicate 8 0))=(.zero,0) from rfl];simp),fun j hj=>?_,fun j hj=>?_,fun j hj=>?_⟩
 ·show Z8 (rd _ _)=_
  rw [Ak7 c (Bn0 h) (Dn8 hj) hl,if_neg (by simp)]
 ·show Aa9 (rd _ _)=_
  rw [Ak7 c (Bn0 h) (Bn0 hj) hl]
  by_cases e:j=i
  ·rw [if_pos (by rw [e]),if_pos e];rfl
  ·rw [if_neg (by simp [e]),if_neg e]
 ·show Q8 (rd _ _)=_
  rw [Ak7 c (Bn0 h) (Bi6 hj) hl,if_neg (by simp)]
theorem D59 {i:Int} (h:0≤i∧i<3+nc) :
  B95 X ⟨3,i⟩=(true,Ga3 X i)∧Clean nc (Ga3 X i)∧(∀ j:Int,0≤j∧j<8→vS (Ga3 X i) j=vS X j)∧(∀ j:Int,0≤j∧j<12→vF (Ga3 X i) j=vF X j)∧(∀ j:Int,0≤j∧j<3+nc→vP (Ga3 X i) j=if j=i then (.zero,0) else vP X j):=by
 have hl:(List.replicate 40 (0:UInt8)).length=R0 (3:Int):=rfl
 refine ⟨Bx0 c (Bi6 h) _,Db4 c (Bi6 h) hl (by show (Q8 (List.replicate 40 0)).2≠2;rw [show (Q8 (List.replicate 40 0))=(.zero,0) from rfl];simp),fun j hj=>?_,fun j hj=>?_,fun j hj=>?_⟩
 ·show Z8 (rd _ _)=_
  rw [Ak7 c (Bi6 h) (Dn8 hj) hl,if_neg (by simp)]
 ·show Aa9 (rd _ _)=_
  rw [Ak7 c (Bi6 h) (Bn0 hj) hl,if_neg (by simp)]
 ·show Q8 (rd _ _)=_
  rw [Ak7 c (Bi6 h) (Bi6 hj) hl]
  by_cases e:j=i
  ·rw [if_pos (by rw [e]),if_pos e];rfl
  ·rw [if_neg (by simp [e]),if_neg e]
theorem Gx9 {i:Int} (h:0≤i∧i<3+nc):((vP X i).2=0∧(vP X i).1=.zero)∨((vP X i).2=1∧okP (vP X i).1=true):=by
 have:=c.ok ⟨3,i⟩ (by simp) (by simp) h.1 h.2
 have hk:(vP X i).2≠2:=this
 unfold vP Q8 at hk ⊢
 split
 ·exact .inl ⟨rfl,rfl⟩
 ·split
  ·rename_i h2
   unfold isP at h2
   simp only [Bool.and_eq_true] at h2
   exact .inr ⟨rfl,h2.1⟩
  ·rename_i h1 h2;simp [h1,h2] at hk
end
abbrev Gl0 (q:PipeS):PipeS:=⟨q.head,q.count,max (q.readers-1) 0,q.writers,q.data,q.len⟩
abbrev Hx5 (q:PipeS):PipeS:=⟨q.head,q.count,q.readers,max (q.writers-1) 0,q.data,q.len⟩
def Er0 (kind:Int) (q:PipeS):PipeS:=if kind=1 then Gl0 q else Hx5 q
theorem Hm9 {q:PipeS} (h:okP q=true) (kind:Int):okP (Er0 kind q)=true:=by
 unfold Er0
 split<;>(simp only [okP,Bool.and_eq_true,decide_eq_true_eq] at h ⊢;omega)
def Gd3 (X:CX) (i:Int) (q:PipeS):CX:=if q.readers+q.writers=0∧i<4 then Ga3 X i else A04 X i q
def By7 (nc:Nat) (X:CX) (f:Int):Int × CX :=
 if (vF X f).2≠1 then (105,X)
 else if (vF X f).1.refs-1>0 then (0,Au1 X f (Bv6 (vF X f).1 (-1)))
 else if (vF X f).1.kind=3 then (0,D20 X f)
 else if ¬ ((vF X f).1.pipe<3+nc∧(vP X (vF X f).1.pipe).2=1) then (105,D20 X f)
 else (0,Gd3 (D20 X f) (vF X f).1.pipe (Er0 (vF X f).1.kind (vP X (vF X f).1.pipe).1))
theorem H68 {nc:Nat} {X:CX} (c:Clean nc X) {i:Int} (h:¬ i<3+nc):Di1 X i=((.zero,2),X):=by
 have hp:H2 X.m.length ⟨3,i⟩=none:=by
  unfold H2
  rw [c.len,if_pos (by simp [U8];omega)]
 unfold Di1 V3 rdX
 rw [hp]
theorem Hc5 {f:FileS} (h:okF f=true):0≤f.pipe:=by
 simp only [okF,Bool.and_eq_true,Bool.or_eq_true,decide_eq_true_eq,beq_iff_eq,bne_iff_ne] at h
 omega
theorem E12 (b k:Nat) (F:Fr) (ok:FrOk F) {nc:Nat} {X:CX} (c:Clean nc X) (b1 b2:Nat) (g:FileS) (q:PipeS) (hi:0≤g.pipe∧g.pipe<3+nc) (hq:okP q=true) :
  CtJ I2 W6 Av3 [(0,P0 b),(5,P0 b1),(7,P0 b2)] [pt b1 (.cells D5 false (Af4 g)),pt b2 (.cells D1 false (E3 q)),cmC b k F X] fun v own=>v=int 0∧own [cmC b k F (Gd3 X g.pipe q)]:=by
 have hr:0≤q.readers∧q.readers≤8∧0≤q.writers∧q.writers≤8:=by
  simp only [okP,Bool.and_eq_true,decide_eq_true_eq] at hq;omega
 have e1:IntKind.wrap .i64 (q.readers+q.writers)=q.readers+q.writers:=by rw [B3];omega
 obtain ⟨f1,_⟩:=D59 c hi
 obtain ⟨w1,_⟩:=As5 c hi hq
 unfold Gd3
 refine CtJ.of Dp2 fun h r=>Tr.eq (Ek0 ..) ?_;refine Je ?_
 (refine Jb ?_;unhygienic intros)
 rw [e1]
 refine Tr.andG (c:=decide (g.pipe<4)) (fun hb=>?_) ?_
 ·exact Jz
 by_cases h:q.readers+q.writers=0∧g.pipe<4
 ·rw [if_pos h]
  refine Yt (by simp [h.1,h.2]) ?_
  (refine Ja ?_;unhygienic intros)
  refine Yc (G70 b k F X ok g.pipe) ?_;rintro _ h ⟨rfl,o⟩<;>refine Jh o ?_
  rw [f1]
  dsimp only
  (refine Ja ?_;unhygienic intros)
  refine Yc (Go7 true 0) ?_;rintro _ h ⟨rfl,o⟩<;>refine Jh o ?_
  rw [if_pos trivial]
  (refine Ja ?_;unhygienic intros)
  refine Ys fun o=>?_
  exact ⟨rfl,o.sub⟩
 ·rw [if_neg h]
  refine Yf (by simp;omega) ?_
  (refine Ja ?_;unhygienic intros)
  refine Yc (Dy9 b k F X ok g.pipe q) ?_;rintro _ h ⟨rfl,o⟩<;>refine Jh o ?_
  rw [w1]
  dsimp only
  (refine Ja ?_;unhygienic intros)
  refine Yc (Go7 true 0) ?_;rintro _ h ⟨rfl,o⟩<;>refine Jh o ?_
  rw [if_pos trivial]
  (refine Ja ?_;unhygienic intros)
  refine Ys fun o=>?_
  exact ⟨rfl,o.sub⟩
theorem Hb0 (b k:Nat) (F:Fr) (X:CX) (ok:FrOk F) {nc:Nat} (c:Clean nc X) (f:Int) (hf:0≤f∧f<12):Ct B2 W6 [P0 b,int f] [cmC b k F X] fun v own=>v=int (By7 nc X f).1∧own [cmC b k F (By7 nc X f).2]:=by
 have hrf:=Ii9 c hf
 have e1:IntKind.wrap .i64 ((vF X f).1.refs-1)=(vF X f).1.refs+-1:=by rw [B3];omega
 obtain ⟨z1,z2,z3,z4,z5⟩:=D76 c hf
 unfold By7
 refine Ct.of Dp2 rfl fun h r=>Tr.eq (Ga6 ..) ?_;refine Je ?_
 refine Yc (Gj0 b k F X ok) ?_;rintro _ h ⟨rfl,o⟩<;>refine Jh o ?_
 rw [D94 c]
 (refine Ja ?_;unhygienic intros)
 refine Yc (Ea8 b k F X ok f) ?_;rintro _ h ⟨rfl,o⟩<;>refine Jh o ?_
 rw [B94 c hf]
 dsimp only
 (refine Jc ?_;unhygienic intros)
 refine Yn fun b1 h=>?_
 (refine Ja ?_;unhygienic intros)
 by_cases h1:(vF X f).2=1
 case neg =>
  rw [if_pos h1]
  refine Yt (by simpa using h1) ?_
  refine Ys fun o=>?_
  exact ⟨rfl,o.sub⟩
 rw [if_neg (by simpa using h1)]
 refine Yf (by simpa using h1) ?_
 have hk:okF (vF X f).1=true:=by
  rcases Gi1 c hf with ⟨h2,_⟩|⟨_,h2⟩
  ·rw [h1] at h2;cases h2
  ·exact h2
 have hr:=B69 hk
 have hpp:=Hc5 hk
 generalize hg:(vF X f).1=g at hrf e1 hk hr hpp
 (refine Ja ?_;unhygienic intros)
 simp only [e1,List.set_cons_succ,List.set_cons_zero]
 (refine Ja ?_;unhygienic intros)
 by_cases h2:g.refs-1>0
 ·rw [if_pos h2]
  refine Yt (by simp;omega) ?_
  have hk2:=B66 hk (n:=-1) (by omega)
  obtain ⟨w1,_⟩:=Ai9 c hf hk2
  (refine Ja ?_;unhygienic intros)
  simp only [List.drop_zero,List.take]
  refine Yc (B96 b k F X ok f (Bv6 g (-1))) ?_;rintro _ h ⟨rfl,o⟩<;>refine Jh o ?_
  rw [w1]
  dsimp only
  (refine Ja ?_;unhygienic intros)
  refine Yc (Go7 true 0) ?_;rintro _ h ⟨rfl,o⟩<;>refine Jh o ?_
  rw [if_pos trivial]
  (refine Ja ?_;unhygienic intros)
  refine Ys fun o=>?_
  exact ⟨rfl,o.sub⟩
 rw [if_neg h2]
 refine Yf (by simp;omega) ?_
 refine Yc (Gz5 b k F X ok f) ?_;rintro _ h ⟨rfl,o⟩<;>refine Jh o ?_
 rw [z1]
 dsimp only
 (refine Ja ?_;unhygienic intros)
 by_cases h3:g.kind=3
 ·rw [if_pos h3]
  refine Yt (by simpa using h3) ?_
  refine Ys fun o=>?_
  exact ⟨rfl,o.sub⟩
 rw [if_neg h3]
 refine Yf (by simpa using h3) ?_
 (refine Ja ?_;unhygienic intros)
 refine Yc (Ea0 b k F (D20 X f) ok g.pipe) ?_;rintro _ h ⟨rfl,o⟩<;>refine Jh o ?_
 by_cases h4:g.pipe<3+(nc:Int)
 case neg =>
  rw [if_pos (fun h=>h4 h.1),H68 z2 h4]
  dsimp only
  (refine Jc ?_;unhygienic intros)
  refine Yn fun b2 h=>?_
  (refine Ja ?_;unhygienic intros)
  refine Ys fun o=>?_
  exact ⟨rfl,o.sub⟩
 rw [B97 z2 ⟨hpp,h4⟩,z5 _ ⟨hpp,h4⟩]
 dsimp only
 (refine Jc ?_;unhygienic intros)
 refine Yn fun b2 h=>?_
 (refine Ja ?_;unhygienic intros)
 by_cases h5:(vP X g.pipe).2=1
 case neg =>
  rw [if_pos (fun h=>h5 h.2)]
  refine Yt (by simpa using h5) ?_
  refine Ys fun o=>?_
  exact ⟨rfl,o.sub⟩
 rw [if_neg (fun h=>h ⟨h4,h5⟩)]
 refine Yf (by simpa using h5) ?_
 have hq:okP (vP X g.pipe).1=true:=by
  rcases Gx9 c ⟨hpp,h4⟩ with ⟨h6,_⟩|⟨_,h6⟩
  ·rw [h5] at h6;cases h6
  ·exact h6
 have hq2:=Hm9 hq g.kind
 generalize (vP X g.pipe).1=q at hq hq2
 have hqr:0≤q.readers∧q.readers≤8∧0≤q.writers∧q.writers≤8:=by
  simp only [okP,Bool.and_eq_true,decide_eq_true_eq] at hq;omega
 have e2:IntKind.wrap .i64 (q.readers-1)=q.readers-1:=by rw [B3];omega
 have e3:IntKind.wrap .i64 (q.writers-1)=q.writers-1:=by rw [B3];omega
 (refine Ja ?_;unhygienic intros)
 by_cases h6:g.kind=1
 ·refine Yt (by simpa using h6) ?_
  have ee:Er0 g.kind q=Gl0 q:=by unfold Er0;rw [if_pos h6]
  rw [ee] at hq2 ⊢
  (refine Ja ?_;unhygienic intros)
  rw [e2,V6,show (E3 q).set 2 (int (max (q.readers-1) 0))=E3 (Gl0 q) from rfl]
  refine D61 (E12 b k F ok z2 b1 b2 (Bv6 g (-1)) (Gl0 q) ⟨hpp,h4⟩ hq2) [2,0,0] rfl ?_
  intro v h q
  exact q
 ·refine Yf (by simpa using h6) ?_
  have ee:Er0 g.kind q=Hx5 q:=by unfold Er0;rw [if_neg h6]
  rw [ee] at hq2 ⊢
  (refine Ja ?_;unhygienic intros)
  rw [e3,V6,show (E3 q).set 3 (int (max (q.writers-1) 0))=E3 (Hx5 q) from rfl]
  refine D61 (E12 b k F ok z2 b1 b2 (Bv6 g (-1)) (Hx5 q) ⟨hpp,h4⟩ hq2) [2,0,0] rfl ?_
  intro v h q
  exact q
def SlOk (L:List (Int × ProcS)):Prop:=∀ s ∈ L,(0≤s.1∧s.1<8)∧okS s.2=true∧InS s.2
theorem Am4 (e:Int):Ct B2 P9 [int e] [] fun v own=>v=.agg ⟨H7 0 e false⟩∧own []:=by
 refine Ct.of Hq5 rfl fun h r=>Tr.eq (Hv6 ..) ?_;refine Je ?_
 (refine Ja ?_;unhygienic intros)
 refine Ys fun o=>?_
 exact ⟨rfl,o.tail⟩
theorem Ha1 (ok:Bool) (n:Int):Ct B2 Bz0 [.bool ok,int n] [] fun v own=>v=.agg ⟨if ok then H7 n 0 false else H7 0 105 false⟩∧own []:=by
 refine Ct.of Hp8 rfl fun h r=>Tr.eq (Hs0 ..) ?_;refine Je ?_
 refine Yn fun b1 h=>?_
 cases ok
 ·refine Yt rfl ?_
  refine Yc (Am4 105) ?_;rintro _ h ⟨rfl,o⟩<;>(refine Jf o ?_;unhygienic intros)
  refine Ys fun o=>?_
  exact ⟨rfl,o.tail⟩
 ·refine Yf rfl ?_
  (refine Ja ?_;unhygienic intros)
  refine Ys fun o=>?_
  exact ⟨rfl,o.tail⟩
theorem Dw0 (p:ProcS) {j:Nat} (h:j<8):(E2 p)[8+j]?=some (int (p.fds.getD j 0)):=by
 have:=Iq3 (l:=p.fds) (i:=j) (by rw [p.len];exact h)
 rw [show 8+j=j+8 by omega]
 exact this
abbrev setFd (p:ProcS) (j:Nat) (f:Int):ProcS:=⟨p.state,p.parent,p.group,p.code,p.pending,p.mask,p.ignored,p.caught,p.fds.set j f,by rw [List.length_set];exact p.len⟩
theorem Dv5 (p:ProcS) {j:Nat} (h:j<8) (f:Int):D09 (E2 p) (8+j) (int f)=some (E2 (setFd p j f)):=by
 have e:Nat.blt (8+j) (E2 p).length=true:=by rw [Bw3 p];exact Nat.ble_eq_true_of_le (by have:=p.len;omega)
 unfold D09
 rw [e,show 8+j=j+8 by omega]
 show some ((E2 p).set (j+8) (int f))=_
 simp only [E2,List.set_cons_succ,List.map_set]
def Z3 (p:ProcS) (fd:Int):Bool:=decide (0≤fd∧fd<8) && decide (p.fds.getD fd.toNat 0>0)
theorem G51 (p:ProcS) (fd:Int):Ct B2 Bq7 [.agg ⟨E2 p⟩,int fd] [] fun v own=>v=.bool (Z3 p fd)∧own []:=by
 refine Ct.of He8 rfl fun h r=>Tr.eq (Hd7 ..) ?_;refine Je ?_
 refine Yn fun b1 h=>?_
 by_cases h0:0≤fd
 case neg =>
  refine Yb (Yf (by simpa using h0) ?_)
  refine Ys fun o=>(?_:Tr _ _ _ _) o;refine Je ?_
  refine Yb (Yf rfl ?_)
  refine Ys fun o=>(?_:Tr _ _ _ _) o;refine Je ?_
  refine Ys fun o=>?_
  refine ⟨?_,o.tail⟩
  rw [show Z3 p fd=false by simp [Z3];omega]
 refine Yb (Yt (by simpa using h0) ?_)
 refine Ys fun o=>(?_:Tr _ _ _ _) o;refine Je ?_
 by_cases h1:fd<8
 case neg =>
  refine Yb (Yf (by simpa using h1) ?_)
  refine Ys fun o=>(?_:Tr _ _ _ _) o;refine Je ?_
  refine Ys fun o=>?_
  refine ⟨?_,o.tail⟩
  rw [show Z3 p fd=false by simp [Z3];omega]
 have hg:=Dw0 p (j:=fd.toNat) (by omega)
 refine Yb (Yt (by simpa using h1) ?_)
 (refine Ja ?_;unhygienic intros)
 refine Ys fun o=>(?_:Tr _ _ _ _) o;refine Je ?_
 refine Ys fun o=>?_
 refine ⟨?_,o.tail⟩
 rw [show Z3 p fd=decide (p.fds.getD fd.toNat 0>0) by simp [Z3,h0,h1]]
theorem Ih3 (b k:Nat) (F:Fr) (X:CX) (ok:FrOk F) {nc:Nat} (c:Clean nc X) (f:Int) (hf:0≤f∧f<12) (x:FileS) (hx:okF x=true) (h64:x.refs<64) :
  Ct B2 Dm3 [P0 b,int f,.agg ⟨Af4 x⟩] [cmC b k F X] fun v own=>v=.bool true∧own [cmC b k F (Au1 X f (Bv6 x 1))]:=by
 have hr:=B69 hx
 have e1:IntKind.wrap .i64 (x.refs+1)=x.refs+1:=by rw [B3];omega
 obtain ⟨w1,_⟩:=Ai9 c hf (B66 hx (n:=1) (by omega))
 refine Ct.of Hu2 rfl fun h r=>Tr.eq (Hv7 ..) ?_;refine Je ?_
 (refine Ja ?_;unhygienic intros)
 rw [e1]
 (refine Ja ?_;unhygienic intros)
 simp only [List.set_cons_succ,List.set_cons_zero,List.drop_zero,List.take]
 refine Yc (B96 b k F X ok f (Bv6 x 1)) ?_;rintro _ h ⟨rfl,o⟩<;>refine Jh o ?_
 rw [w1]
 dsimp only
 (refine Ja ?_;unhygienic intros)
 refine Ys fun o=>?_
 exact ⟨rfl,o.sub⟩
theorem Do9 {p:ProcS} (h:okS p=true) (h1:p.state=1) (j:Nat) {f:Int} (hf:0≤f∧f≤12):okS (setFd p j f)=true:=by
 have hd:=Hn1 h
 have hd2:Ib3 (setFd p j f).fds:=fun x hx=>by
  rcases List.mem_or_eq_of_mem_set hx with h2|rfl
  ·exact hd x h2
  ·exact hf
 unfold okS at h ⊢
 rw [if_neg (by rw [h1];decide)] at h
 rw [if_neg (show ¬ (setFd p j f).state=2 by show ¬ p.state=2;rw [h1];decide)]
 simp only [Bool.and_eq_true] at h ⊢
 refine ⟨h.1,h.2.1,?_,h.2.2.2⟩
 rw [Bool.not_eq_true',List.any_eq_false]
 intro x hx
 have:=hd2 x hx
 simp;omega
def Dj8 (X:CX) (i fd f:Int):List Value × CX :=
 if (O7 X i).2≠0 then (H7 0 (O7 X i).2 false,X) else (H7 fd 0 false,Aw0 X i (setFd (vS X i).1 fd.toNat (f+1)))
theorem Ic0 (b k:Nat) (F:Fr) (X:CX) (ok:FrOk F) {nc:Nat} (c:Clean nc X) (i fd f:Int) (hi:0≤i∧i<8) (hd:0≤fd∧fd<8) (hf:0≤f∧f<12) :
  Ct B2 Dl1 [P0 b,int i,int fd,int f] [cmC b k F X] fun v own=>v=.agg ⟨(Dj8 X i fd f).1⟩∧own [cmC b k F (Dj8 X i fd f).2]:=by
 have e1:IntKind.wrap .i64 (f+1)=f+1:=by rw [B3];omega
 unfold Dj8
 refine Ct.of Ho6 rfl fun h r=>Tr.eq (Hx1 ..) ?_;refine Je ?_
 refine Yn fun b0 h=>?_
 refine Yc (B84 b k F X ok c i hi) ?_;rintro _ h ⟨rfl,o⟩<;>refine Jh o ?_
 (refine Jc ?_;unhygienic intros)
 refine Yn fun b1 h=>?_
 (refine Jb ?_;unhygienic intros)
 by_cases h1:(O7 X i).2=0
 case neg =>
  rw [if_pos h1]
  refine Yt (by simpa using h1) ?_
  refine Yc (Am4 (O7 X i).2) ?_;rintro _ h ⟨rfl,o⟩<;>(refine Jf o ?_;unhygienic intros)
  refine Ys fun o=>?_
  exact ⟨rfl,o.sub⟩
 rw [if_neg (by simpa using h1)]
 refine Yf (by simpa using h1) ?_
 obtain ⟨s1,s2,s3,s4⟩:=A06 c hi h1
 rw [s1,e1]
 generalize hp:(vS X i).1=p at s2 s3
 have hin:=D50 (rd X ⟨1,i⟩)
 rw [show (Z8 (rd X ⟨1,i⟩)).1=p from hp] at hin
 have hs:=Dv5 p (j:=fd.toNat) (by omega) (f+1)
 obtain ⟨w1,_⟩:=A48 c hi (Do9 s3 s2 fd.toNat (f:=f+1) (by omega)) ⟨hin.a,hin.b,hin.c,hin.d⟩
 generalize setFd p fd.toNat (f+1)=q at hs w1
 dsimp only
 (refine Ja ?_;unhygienic intros)
 refine Yc (Da5 b k F X ok i q) ?_;rintro _ h ⟨rfl,o⟩<;>refine Jh o ?_
 rw [w1]
 dsimp only
 (refine Ja ?_;unhygienic intros)
 refine Yc (Ha1 true fd) ?_;rintro _ h ⟨rfl,o⟩<;>refine Jh o ?_
 rw [if_pos trivial]
 (refine Ja ?_;unhygienic intros)
 refine Ys fun o=>?_
 exact ⟨rfl,o.sub⟩
def N5 (q:Int→Bool):Nat→Int→Nat→List Int
 | 0,_,_=>[]
 | _+1,_,0=>[]
 | m+1,i,w+1=>if q i=true then i::N5 q m (i+1) w else N5 q m (i+1) (w+1)
theorem Bx3 (q:Int→Bool):∀ (m:Nat) (i:Int) (w:Nat),(N5 q m i w).length≤w
 | 0,_,_=>by simp [N5]
 | _+1,_,0=>by simp [N5]
 | m+1,i,w+1=>by
  have h1:=Bx3 q m (i+1) w
  have h2:=Bx3 q m (i+1) (w+1)
  unfold N5;split<;>simp<;>omega
theorem Ar5 (q:Int→Bool):∀ (m:Nat) (i:Int) (w:Nat),∀ x ∈ N5 q m i w,i≤x∧x<i+m∧q x=true
 | 0,_,_,x,hx=>by simp [N5] at hx
 | _+1,_,0,x,hx=>by simp [N5] at hx
 | m+1,i,w+1,x,hx=>by
  unfold N5 at hx
  split at hx
  ·rename_i hq
   rcases List.mem_cons.1 hx with rfl|h
   ·exact ⟨by omega,by omega,hq⟩
   ·have:=Ar5 q m (i+1) w x h
    exact ⟨by omega,by omega,this.2.2⟩
  ·have:=Ar5 q m (i+1) (w+1) x hx
   exact ⟨by omega,by omega,this.2.2⟩
theorem D28 (pr:HP) (g:FuncId) (cp:List Value) (n:Int) (hn:n≤100) (q:Int→Bool) (hq:∀ j:Int,0≤j∧j<n→Ct B2 g (int j::cp) [pr] fun v own=>v=.bool (q j)∧own [pr]):∀ (m:Nat) (i:Int) (acc:List Int) (w:Nat) (a:Option Addr) (ac:Nat),0≤i→i+m=n→acc.length≤i →
  CtJ I2 Y8 Bb8 [(0,int n),(1,int ((acc.length+w:Nat):Int)),(2,.func (.func g) ⟨[]⟩ ⟨cp⟩),(7,.slice a acc.length ac),(8,int i)] [slC false B7 1 a acc.length ac (acc.map int),pr] fun v own =>
   ∃ a' c',v=.slice a' (acc++N5 q m i w).length c'∧own [slC false B7 1 a' (acc++N5 q m i w).length c' ((acc++N5 q m i w).map int),pr]
 | 0,i,acc,w,a,ac,h0,hi,ha=>by
  refine CtJ.of Dh8 fun h r=>Tr.eq (Dg2 ..) ?_;refine Je ?_
  refine Yb (Yf (by simp;omega) ?_)
  refine Ys fun o=>(?_:Tr _ _ _ _) o;refine Je ?_
  refine Yf rfl ?_
  refine Ys fun o=>?_
  rw [show N5 q 0 i w=[] by unfold N5;rfl,List.append_nil]
  exact ⟨a,ac,rfl,o.sub⟩
 | m+1,i,acc,0,a,ac,h0,hi,ha=>by
  refine CtJ.of Dh8 fun h r=>Tr.eq (Dg2 ..) ?_;refine Je ?_
  refine Yb (Yt (by simp;omega) ?_)
  refine Ys fun o=>(?_:Tr _ _ _ _) o;refine Je ?_
  refine Yf (by simp) ?_
  refine Ys fun o=>?_
  rw [show N5 q (m+1) i 0=[] by unfold N5;rfl,List.append_nil]
  exact ⟨a,ac,rfl,o.sub⟩
 | m+1,i,acc,w+1,a,ac,h0,hi,ha=>by
  have e1:IntKind.wrap .i64 (i+1)=i+1:=by rw [B3];omega
  rw [show N5 q (m+1) i (w+1)=if q i=true then i::N5 q m (i+1) w else N5 q m (i+1) (w+1) by rw [N5]]
  refine CtJ.of Dh8 fun h r=>Tr.eq (Dg2 ..) ?_;refine Je ?_
  refine Yb (Yt (by simp;omega) ?_)
  refine Ys fun o=>(?_:Tr _ _ _ _) o;refine Je ?_
  refine Yt (by simp;omega) ?_
  rw [e1]
  refine U6 0 rfl fun hl hc _=>?_
  (refine Ja ?_;unhygienic intros)
  simp only [List.nil_append,List.singleton_append]
  refine Yc (hq i (by omega)) ?_;rintro _ h ⟨rfl,o⟩<;>refine Jh o ?_
  (refine Ja ?_;unhygienic intros)
  by_cases h2:q i=true
  ·rw [if_pos h2]
   refine Yt h2 ?_
   (refine Ja ?_;unhygienic intros)
   refine Tr.xApd (new:=[int i]) ⟨rfl,rfl,by simp only [B4];omega⟩ fun a' c' h=>?_
   have H:=D28 pr g cp n hn q hq m (i+1) (acc++[i]) w a' c' (by omega) (by omega) (by simp;omega)
   rw [show acc++i::N5 q m (i+1) w=acc++[i]++N5 q m (i+1) w by simp,show acc.length+(w+1)=(acc++[i]).length+w by simp;omega]
   refine (?_:Tr (_::pr::slC false B7 1 a' (acc.length+1) c' (acc.map int++[int i])::_) _ _ _)
   rw [show acc.map int++[int i]=(acc++[i]).map int by simp,show acc.length+1=(acc++[i]).length by simp]
   refine At1 [2,1] 1 rfl rfl ?_
   exact Yr H fun v h q=>q
  ·rw [if_neg h2]
   refine Yf (by simpa using h2) ?_
   refine At1 [1,0] 0 rfl rfl ?_
   exact Yr (D28 pr g cp n hn q hq m (i+1) acc (w+1) a ac (by omega) (by omega) (by omega)) fun v h q=>q
theorem E48 (pr:HP) (g:FuncId) (cp:List Value) (n:Nat) (hn:n≤100) (w:Nat) (q:Int→Bool) (hq:∀ j:Int,0≤j∧j<n→Ct B2 g (int j::cp) [pr] fun v own=>v=.bool (q j)∧own [pr]) :
  Ct B2 Y8 [int n,int w,.func (.func g) ⟨[]⟩ ⟨cp⟩] [pr] fun v own=>∃ a' c',v=.slice a' (N5 q n 0 w).length c'∧own [slC false B7 1 a' (N5 q n 0 w).length c' ((N5 q n 0 w).map int),pr]:=by
 refine Ct.of Dh8 rfl fun h r=>Tr.eq (Ht0 ..) ?_;refine Je ?_
 refine H1 false B7 1 (by omega) ?_
 have J:=D28 pr g cp n (by omega) q hq n 0 [] w none 0 (by omega) (by omega) (by simp)
 simp only [List.nil_append,List.length_nil,List.map_nil,Nat.zero_add] at J
 exact Yr J fun v h q=>q
theorem H25 (b:Nat) (p:ProcS) (j:Int) (hj:0≤j∧j<8):Ct B2 Bb1 [int j,P0 b] [pt b (.cells D3 false (E2 p))] fun v own=>v=.bool (p.fds.getD j.toNat 0==0)∧own [pt b (.cells D3 false (E2 p))]:=by
 have hg:=Dw0 p (j:=j.toNat) (by omega)
 refine Ct.of Gx2 rfl fun h r=>Tr.eq (Gw9 ..) ?_;refine Je ?_
 (refine Ja ?_;unhygienic intros)
 refine Ys fun o=>?_
 exact ⟨rfl,o.sub⟩
abbrev M6 (p:ProcS) (w:Nat):List Int:=N5 (fun j=>p.fds.getD j.toNat 0==0) 8 0 w
theorem G17 (p:ProcS) (w:Nat):Ct B2 Br0 [.agg ⟨E2 p⟩,int w] [] fun v own=>∃ a' c',v=.slice a' (M6 p w).length c'∧own [slC false B7 1 a' (M6 p w).length c' ((M6 p w).map int)]:=by
 refine Ct.of Hj6 rfl fun h r=>Tr.eq (He1 ..) ?_;refine Je ?_
 refine Yn fun b1 h=>?_
 refine Yc (E48 _ Bb1 [P0 b1] 8 (by omega) w _ fun j hj=>H25 b1 p j (by omega)) ?_
 rintro _ h ⟨a',c',rfl,o⟩
 refine Jh o ?_
 (refine Ja ?_;unhygienic intros)
 refine Ys fun o=>?_
 exact ⟨a',c',rfl,o.sub⟩
def hcC (bh b k:Nat) (F:Fr) (X:CX):HP:=hex fun _:Unit=>sl [pt bh (.cells P8 false [P0 b]),cmC b k F X]
instance {bh b k:Nat} {F:Fr} {X:CX}:Chk (hcC bh b k F X) (fun _:Unit=>[pt bh (.cells P8 false [P0 b]),cmC b k F X]):=⟨rfl⟩
theorem H97 (bh b k:Nat) (F:Fr) (X:CX) (ok:FrOk F) {nc:Nat} (c:Clean nc X) (j:Int) (hj:0≤j∧j<12):Ct B2 A69 [int j,P0 bh] [hcC bh b k F X] fun v own=>v=.bool ((vF X j).2==0)∧own [hcC bh b k F X]:=by
 refine Ct.of G53 rfl fun h r=>Tr.eq (Hb1 ..) ?_;refine Je ?_
 refine B8 (hcC bh b k F X) fun u=>?_;refine Je ?_
 (refine Ja ?_;unhygienic intros)
 refine Yc (Ea8 b k F X ok j) ?_;rintro _ h ⟨rfl,o⟩<;>refine Jh o ?_
 rw [B94 c hj]
 dsimp only
 (refine Jc ?_;unhygienic intros)
 refine Yn fun b1 h=>?_
 (refine Ja ?_;unhygienic intros)
 refine B6 (hcC bh b k F X) () ?_;refine Je ?_
 refine Ys fun o=>?_
 exact ⟨rfl,o.sub⟩
theorem Id5 (bh b k:Nat) (F:Fr) (X:CX) (ok:FrOk F) {nc:Nat} (c:Clean nc X) (j:Int) (hj:0≤j∧j<3+nc):Ct B2 A58 [int j,P0 bh] [hcC bh b k F X] fun v own=>v=.bool ((vP X j).2==0)∧own [hcC bh b k F X]:=by
 refine Ct.of G29 rfl fun h r=>Tr.eq (G26 ..) ?_;refine Je ?_
 refine B8 (hcC bh b k F X) fun u=>?_;refine Je ?_
 (refine Ja ?_;unhygienic intros)
 refine Yc (Ea0 b k F X ok j) ?_;rintro _ h ⟨rfl,o⟩<;>refine Jh o ?_
 rw [B97 c hj]
 dsimp only
 (refine Jc ?_;unhygienic intros)
 refine Yn fun b1 h=>?_
 (refine Ja ?_;unhygienic intros)
 refine B6 (hcC bh b k F X) () ?_;refine Je ?_
 refine Ys fun o=>?_
 exact ⟨rfl,o.sub⟩
def ofV (X:CX) (i fd:Int):(Int × FileS) × Int :=
 if (O7 X i).2≠0 then ((0,.zero),(O7 X i).2)
 else if Z3 (vS X i).1 fd=false then ((0,.zero),109)
 else if (vF X ((vS X i).1.fds.getD fd.toNat 0-1)).2≠1 then ((0,.zero),105)
 else (((vS X i).1.fds.getD fd.toNat 0-1,(vF X ((vS X i).1.fds.getD fd.toNat 0-1)).1),0)
theorem Es6 {nc:Nat} {X:CX} (c:Clean nc X) {i:Int} (hi:0≤i∧i<8) (h:(O7 X i).2=0) (j:Nat):0≤(vS X i).1.fds.getD j 0∧(vS X i).1.fds.getD j 0≤12:=by
 obtain ⟨s1,s2,s3,s4⟩:=A06 c hi h
 by_cases hj:j<(vS X i).1.fds.length
 ·rw [List.getD_eq_getElem?_getD,List.getElem?_eq_getElem hj];exact Hn1 s3 _ (List.getElem_mem _)
 ·rw [List.getD_eq_getElem?_getD,List.getElem?_eq_none (by omega)];simp
theorem Gy4 (b k:Nat) (F:Fr) (X:CX) (ok:FrOk F) {nc:Nat} (c:Clean nc X) (i fd:Int) (hi:0≤i∧i<8) :
  Ct B2 B71 [P0 b,int i,int fd] [cmC b k F X] fun v own=>v=.tuple ⟨[int (ofV X i fd).1.1,.agg ⟨Af4 (ofV X i fd).1.2⟩,int (ofV X i fd).2]⟩∧own [cmC b k F X]:=by
 unfold ofV
 refine Ct.of H80 rfl fun h r=>Tr.eq (Ib7 ..) ?_;refine Je ?_
 refine Yn fun b0 h=>?_
 refine Yc (B84 b k F X ok c i hi) ?_;rintro _ h ⟨rfl,o⟩<;>refine Jh o ?_
 (refine Jc ?_;unhygienic intros)
 refine Yn fun b1 h=>?_
 (refine Jb ?_;unhygienic intros)
 by_cases h1:(O7 X i).2=0
 case neg =>
  rw [if_pos h1]
  refine Yt (by simpa using h1) ?_
  (refine Ja ?_;unhygienic intros)
  refine Ys fun o=>?_
  exact ⟨rfl,o.sub⟩
 rw [if_neg (by simpa using h1)]
 refine Yf (by simpa using h1) ?_
 obtain ⟨s1,s2,s3,s4⟩:=A06 c hi h1
 have hr:=fun j=>Es6 c hi h1 j
 rw [s1]
 generalize hp:(vS X i).1=p at s2 s3 hr
 (refine Ja ?_;unhygienic intros)
 refine Yc (G51 p fd) ?_;rintro _ h ⟨rfl,o⟩<;>(refine Jf o ?_;unhygienic intros)
 by_cases h2:Z3 p fd=true
 case neg =>
  rw [if_pos (by simpa using h2)]
  refine Yt (by simpa using h2) ?_
  (refine Ja ?_;unhygienic intros)
  refine Ys fun o=>?_
  exact ⟨rfl,o.sub⟩
 rw [if_neg (by simpa using h2)]
 refine Yf (by simpa using h2) ?_
 simp only [Z3,Bool.and_eq_true,decide_eq_true_eq] at h2
 have hg:=Dw0 p (j:=fd.toNat) (by omega)
 have hf:=hr fd.toNat
 generalize p.fds.getD fd.toNat 0=f at hg hf h2
 have e1:IntKind.wrap .i64 (f-1)=f-1:=by rw [B3];omega
 (refine Ja ?_;unhygienic intros)
 rw [e1]
 refine Yc (Ea8 b k F X ok (f-1)) ?_;rintro _ h ⟨rfl,o⟩<;>refine Jh o ?_
 rw [B94 c (by omega)]
 dsimp only
 (refine Ja ?_;unhygienic intros)
 by_cases h3:(vF X (f-1)).2=1
 case neg =>
  rw [if_pos h3]
  refine Yt (by simpa using h3) ?_
  (refine Ja ?_;unhygienic intros)
  refine Ys fun o=>?_
  exact ⟨rfl,o.sub⟩
 rw [if_neg (by simpa using h3)]
 refine Yf (by simpa using h3) ?_
 (refine Ja ?_;unhygienic intros)
 rw [e1]
 refine Ys fun o=>?_
 exact ⟨rfl,o.sub⟩
def Am3 (nc:Nat) (X:CX) (i fd:Int):List Value × CX :=
 if (O7 X i).2≠0 then (H7 0 (O7 X i).2 false,X)
 else if Z3 (vS X i).1 fd=false then (H7 0 109 false,X)
 else (H7 0 (By7 nc (Aw0 X i (setFd (vS X i).1 fd.toNat 0)) ((vS X i).1.fds.getD fd.toNat 0-1)).1 false,(By7 nc (Aw0 X i (setFd (vS X i).1 fd.toNat 0)) ((vS X i).1.fds.getD fd.toNat 0-1)).2)
theorem Du9 {p:ProcS} {fd:Int} (h:Z3 p fd=true):(0≤fd∧fd<8)∧p.fds.getD fd.toNat 0>0:=by
 simp only [Z3,Bool.and_eq_true,decide_eq_true_eq] at h;exact h
theorem He5 {nc:Nat} {X:CX} (c:Clean nc X) {i:Int} (hi:0≤i∧i<8) (h:(O7 X i).2=0) (j:Nat) {f:Int} (hf:0≤f∧f≤12) :
  Bh3 X i (setFd (vS X i).1 j f)=(true,Aw0 X i (setFd (vS X i).1 j f))∧Clean nc (Aw0 X i (setFd (vS X i).1 j f))∧(∀ n:Int,0≤n∧n<8→vS (Aw0 X i (setFd (vS X i).1 j f)) n=if n=i then (setFd (vS X i).1 j f,1) else vS X n)∧(∀ n:Int,0≤n∧n<12→vF (Aw0 X i (setFd (vS X i).1 j f)) n=vF X n)∧(∀ n:Int,0≤n∧n<3+nc→vP (Aw0 X i (setFd (vS X i).1 j f)) n=vP X n):=by
 obtain ⟨s1,s2,s3,s4⟩:=A06 c hi h
 have hin:=D50 (rd X ⟨1,i⟩)
 exact A48 c hi (Do9 s3 s2 j hf) ⟨hin.a,hin.b,hin.c,hin.d⟩
theorem Bw0 (b k:Nat) (F:Fr) (X:CX) (ok:FrOk F) {nc:Nat} (c:Clean nc X) (i fd:Int) (hi:0≤i∧i<8) :
  Ct B2 Ar6 [P0 b,int i,int fd] [cmC b k F X] fun v own=>v=.agg ⟨(Am3 nc X i fd).1⟩∧own [cmC b k F (Am3 nc X i fd).2]:=by
 unfold Am3
 refine Ct.of Hf9 rfl fun h r=>Tr.eq (Hl1 ..) ?_;refine Je ?_
 refine Yn fun b0 h=>?_
 refine Yc (B84 b k F X ok c i hi) ?_;rintro _ h ⟨rfl,o⟩<;>refine Jh o ?_
 (refine Jc ?_;unhygienic intros)
 refine Yn fun b1 h=>?_
 (refine Jb ?_;unhygienic intros)
 by_cases h1:(O7 X i).2=0
 case neg =>
  rw [if_pos h1]
  refine Yt (by simpa using h1) ?_
  refine Yc (Am4 (O7 X i).2) ?_;rintro _ h ⟨rfl,o⟩<;>(refine Jf o ?_;unhygienic intros)
  refine Ys fun o=>?_
  exact ⟨rfl,o.sub⟩
 rw [if_neg (by simpa using h1)]
 refine Yf (by simpa using h1) ?_
 obtain ⟨s1,s2,s3,s4⟩:=A06 c hi h1
 have hr:=Es6 c hi h1 fd.toNat
 have hW:=fun hf=>He5 c hi h1 fd.toNat (f:=0) hf
 rw [s1]
 generalize (vS X i).1=p at s2 s3 hr hW
 (refine Ja ?_;unhygienic intros)
 refine Yc (G51 p fd) ?_;rintro _ h ⟨rfl,o⟩<;>(refine Jf o ?_;unhygienic intros)
 by_cases h2:Z3 p fd=true
 case neg =>
  rw [if_pos (by simpa using h2)]
  refine Yt (by simpa using h2) ?_
  refine Yc (Am4 109) ?_;rintro _ h ⟨rfl,o⟩<;>(refine Jf o ?_;unhygienic intros)
  refine Ys fun o=>?_
  exact ⟨rfl,o.sub⟩
 rw [if_neg (by simpa using h2)]
 refine Yf (by simpa using h2) ?_
 have hn:=Du9 h2
 have hg:=Dw0 p (j:=fd.toNat) (by omega)
 have hs:=Dv5 p (j:=fd.toNat) (by omega) 0
 obtain ⟨w1,w2,_⟩:=hW (by omega)
 generalize p.fds.getD fd.toNat 0=f at hg hr hn
 have e1:IntKind.wrap .i64 (f-1)=f-1:=by rw [B3];omega
 generalize setFd p fd.toNat 0=q at hs w1 w2
 (refine Ja ?_;unhygienic intros)
 refine Yc (Da5 b k F X ok i q) ?_;rintro _ h ⟨rfl,o⟩<;>refine Jh o ?_
 rw [w1]
 (refine Ja ?_;unhygienic intros)
 rw [e1]
 refine Yc (Hb0 b k F _ ok w2 (f-1) (by omega)) ?_;rintro _ h ⟨rfl,o⟩<;>(refine Jf o ?_;unhygienic intros)
 refine Yc (Am4 (By7 nc (Aw0 X i q) (f-1)).1) ?_;rintro _ h ⟨rfl,o⟩<;>(refine Jf o ?_;unhygienic intros)
 refine Ys fun o=>?_
 exact ⟨rfl,o.sub⟩
def E80 (X:CX) (i fd:Int):List Value × CX :=
 if (ofV X i fd).2≠0 then (H7 0 (ofV X i fd).2 false,X)
 else if (M6 (vS X i).1 1).length=0 then (H7 0 124 false,X)
 else if (ofV X i fd).1.2.refs≥64 then (H7 0 123 false,X)
 else Dj8 (Au1 X (ofV X i fd).1.1 (Bv6 (ofV X i fd).1.2 1)) i ((M6 (vS X i).1 1).getD 0 0) (ofV X i fd).1.1
theorem H21 {nc:Nat} {X:CX} (c:Clean nc X) {i fd:Int} (hi:0≤i∧i<8) (h:(ofV X i fd).2=0) :
  (O7 X i).2=0∧Z3 (vS X i).1 fd=true∧(ofV X i fd).1.1=(vS X i).1.fds.getD fd.toNat 0-1∧(0≤(ofV X i fd).1.1∧(ofV X i fd).1.1<12)∧vF X (ofV X i fd).1.1=((ofV X i fd).1.2,1)∧okF (ofV X i fd).1.2=true:=by
 unfold ofV at h ⊢
 by_cases h1:(O7 X i).2=0
 case neg=>rw [if_pos h1] at h;exact absurd h h1
 rw [if_neg (by simpa using h1)] at h ⊢
 by_cases h2:Z3 (vS X i).1 fd=true
 case neg=>rw [if_pos (by simpa using h2)] at h;cases h
 rw [if_neg (by simpa using h2)] at h ⊢
 have hn:=Du9 h2
 have hr:=Es6 c hi h1 fd.toNat
 by_cases h3:(vF X ((vS X i).1.fds.getD fd.toNat 0-1)).2=1
 case neg=>rw [if_pos h3] at h;cases h
 rw [if_neg (by simpa using h3)]
 have hk:okF (vF X ((vS X i).1.fds.getD fd.toNat 0-1)).1=true:=by
  rcases Gi1 c (i:=(vS X i).1.fds.getD fd.toNat 0-1) (by omega) with ⟨h4,_⟩|⟨_,h4⟩
  ·rw [h3] at h4;cases h4
  ·exact h4
 exact ⟨h1,h2,rfl,by simp only;omega,Prod.ext rfl h3,hk⟩
theorem Ir4 {l:List Int} (h:l.length≠0):(l.map int)[0]?=some (int (l.getD 0 0)):=Iq3 (by omega)
theorem H49 (X:CX) (i d f:Int):∃ n e:Int,(Dj8 X i d f).1=H7 n e false:=by
 unfold Dj8;split
 ·exact ⟨_,_,rfl⟩
 ·exact ⟨_,_,rfl⟩
theorem Ik1 (b k:Nat) (F:Fr) (X:CX) (ok:FrOk F) {nc:Nat} (c:Clean nc X) (i fd:Int) (hi:0≤i∧i<8) :
  Ct B2 Dw8 [P0 b,int i,int fd] [cmC b k F X] fun v own=>v=.agg ⟨(E80 X i fd).1⟩∧own [cmC b k F (E80 X i fd).2]:=by
 unfold E80
 refine Ct.of H22 rfl fun h r=>Tr.eq (H65 ..) ?_;refine Je ?_
 refine Yn fun b0 h=>?_
 refine Yc (Gy4 b k F X ok c i fd hi) ?_;rintro _ h ⟨rfl,o⟩<;>refine Jh o ?_
 (refine Jc ?_;unhygienic intros)
 refine Yn fun b1 h=>?_
 (refine Jb ?_;unhygienic intros)
 by_cases h1:(ofV X i fd).2=0
 case neg =>
  rw [if_pos h1]
  refine Yt (by simpa using h1) ?_
  refine Yc (Am4 (ofV X i fd).2) ?_;rintro _ h ⟨rfl,o⟩<;>(refine Jf o ?_;unhygienic intros)
  refine Ys fun o=>?_
  exact ⟨rfl,o.sub⟩
 rw [if_neg (by simpa using h1)]
 refine Yf (by simpa using h1) ?_
 obtain ⟨o1,o2,o3,o4,o5,o6⟩:=H21 c hi h1
 obtain ⟨s1,s2,s3,s4⟩:=A06 c hi o1
 generalize (ofV X i fd).1.1=f at o3 o4 o5
 generalize (ofV X i fd).1.2=x at o5 o6
 refine Yc (B84 b k F X ok c i hi) ?_;rintro _ h ⟨rfl,o⟩<;>refine Jh o ?_
 rw [s1]
 (refine Jc ?_;unhygienic intros)
 refine Yn fun b2 h=>?_
 generalize hp:(vS X i).1=p
 (refine Ja ?_;unhygienic intros)
 refine Yc (G17 p 1) ?_
 rintro _ h ⟨a,ac,rfl,o⟩
 refine Jh o ?_
 have hm:=Ar5 (fun j=>p.fds.getD j.toNat 0==0) 8 0 1
 have hl:=Bx3 (fun j=>p.fds.getD j.toNat 0==0) 8 0 1
 show Tr (slC false B7 1 a (M6 p 1).length ac ((M6 p 1).map int)::_) _ _ _
 generalize hL:M6 p 1=L
 replace hm:∀ y ∈ L,0≤y∧y<8:=by rw [← hL];exact fun y hy=>⟨(hm y hy).1,(hm y hy).2.1⟩
 by_cases h2:L.length=0
 ·rw [if_pos h2]
  (refine Ja ?_;unhygienic intros)
  refine Yt (by simpa using h2) ?_
  refine Yc (Am4 124) ?_;rintro _ h ⟨rfl,o⟩<;>(refine Jf o ?_;unhygienic intros)
  refine Ys fun o=>?_
  exact ⟨rfl,o.sub⟩
 rw [if_neg h2]
 (refine Ja ?_;unhygienic intros)
 refine Yf (by simpa using h2) ?_
 (refine Ja ?_;unhygienic intros)
 have hr:=B69 o6
 by_cases h3:x.refs≥64
 ·rw [if_pos h3]
  refine Yt (by simpa using h3) ?_
  refine Yc (Am4 123) ?_;rintro _ h ⟨rfl,o⟩<;>(refine Jf o ?_;unhygienic intros)
  refine Ys fun o=>?_
  exact ⟨rfl,o.sub⟩
 rw [if_neg h3]
 refine Yf (by simpa using h3) ?_
 (refine Ja ?_;unhygienic intros)
 refine Yc (Ih3 b k F X ok c f o4 x o6 (by omega)) ?_;rintro _ h ⟨rfl,o⟩<;>refine Jh o ?_
 have hd:=Ir4 h2
 have hd8:0≤L.getD 0 0∧L.getD 0 0<8:=hm _ (by
  rw [List.getD_eq_getElem?_getD,List.getElem?_eq_getElem (by omega)];exact List.getElem_mem _)
 generalize L.getD 0 0=d at hd hd8
 have c2:=(Ai9 c o4 (B66 o6 (n:=1) (by omega))).2.1
 (refine Ja ?_;unhygienic intros;repeat(refine Gw ?_;rintro px rfl;refine Ja ?_;unhygienic intros))
 refine Yc (Ic0 b k F _ ok c2 i d f hi hd8 o4) ?_;rintro _ h ⟨rfl,o⟩<;>refine Jh o ?_
 obtain ⟨y,z,he⟩:=H49 (Au1 X f (Bv6 x 1)) i d f
 rw [he]
 (refine Ja ?_;unhygienic intros)
 refine Ys fun o=>?_
 exact ⟨rfl,o.sub⟩
def A18:PipeS:=⟨0,0,1,1,[0,0,0,0,0,0,0,0,0,0,0,0,0,0,0,0,0,0,0,0,0,0,0,0,0,0,0,0,0,0,0,0],rfl⟩
abbrev Bd8 (X:CX):List Int:=N5 (fun j=>(vF X j).2==0) 12 0 2
abbrev Bk4 (X:CX):List Int:=N5 (fun j=>(vP X j).2==0) 4 0 1
def Bq3 (X:CX) (i d0 d1 f0 f1 r0:Int):CX :=
 Aw0 (Au1 (Au1 (A04 X r0 A18) f0 ⟨1,r0,1,0⟩) f1 ⟨2,r0,1,0⟩) i (setFd (setFd (vS X i).1 d0.toNat (f0+1)) d1.toNat (f1+1))
def Ax0 (X:CX) (i:Int):List Value × CX :=
 if (O7 X i).2≠0 then (H7 0 (O7 X i).2 false,X)
 else if (M6 (vS X i).1 2).length<2 then (H7 0 124 false,X)
 else if (Bd8 X).length<2∨(Bk4 X).length=0 then (H7 0 123 false,X)
 else (H7 ((M6 (vS X i).1 2).getD 0 0+16*(M6 (vS X i).1 2).getD 1 0) 0 false,Bq3 X i ((M6 (vS X i).1 2).getD 0 0) ((M6 (vS X i).1 2).getD 1 0) ((Bd8 X).getD 0 0) ((Bd8 X).getD 1 0) ((Bk4 X).getD 0 0))
theorem H05 {l:List Int} (h:l.length≤2) (h2:¬ l.length<2):∃ a b,l=[a,b]:=by
 match l,h,h2 with
 | [a,b],_,_=>exact ⟨a,b,rfl⟩
 | [],_,h2=>simp at h2
 | [_],_,h2=>simp at h2
 | _::_::_::_,h,_=>simp at h
theorem Gt4 {nc:Nat} {X:CX} (c:Clean nc X) {i:Int} (hi:0≤i∧i<8) (hs:(O7 X i).2=0) {d0 d1 f0 f1 r0:Int} (hd0:0≤d0∧d0<8) (hd1:0≤d1∧d1<8) (hf0:0≤f0∧f0<12) (hf1:0≤f1∧f1<12) (hr:0≤r0∧r0<4) (hn:r0<3+(nc:Int)) :
  Ba2 X r0 A18=(true,A04 X r0 A18)∧Bi3 (A04 X r0 A18) f0 ⟨1,r0,1,0⟩=(true,Au1 (A04 X r0 A18) f0 ⟨1,r0,1,0⟩) ∧
  Bi3 (Au1 (A04 X r0 A18) f0 ⟨1,r0,1,0⟩) f1 ⟨2,r0,1,0⟩=(true,Au1 (Au1 (A04 X r0 A18) f0 ⟨1,r0,1,0⟩) f1 ⟨2,r0,1,0⟩) ∧
  Bh3 (Au1 (Au1 (A04 X r0 A18) f0 ⟨1,r0,1,0⟩) f1 ⟨2,r0,1,0⟩) i (setFd (setFd (vS X i).1 d0.toNat (f0+1)) d1.toNat (f1+1))=(true,Bq3 X i d0 d1 f0 f1 r0) ∧
  Clean nc (Bq3 X i d0 d1 f0 f1 r0)∧(∀ j:Int,0≤j∧j<8→vS (Bq3 X i d0 d1 f0 f1 r0) j=if j=i then (setFd (setFd (vS X i).1 d0.toNat (f0+1)) d1.toNat (f1+1),1) else vS X j) ∧
  (∀ j:Int,0≤j∧j<12→vF (Bq3 X i d0 d1 f0 f1 r0) j=if j=f1 then (⟨2,r0,1,0⟩,1) else if j=f0 then (⟨1,r0,1,0⟩,1) else vF X j) ∧
  (∀ j:Int,0≤j∧j<3+nc→vP (Bq3 X i d0 d1 f0 f1 r0) j=if j=r0 then (A18,1) else vP X j):=by
 obtain ⟨s1,s2,s3,s4⟩:=A06 c hi hs
 have hin:=D50 (rd X ⟨1,i⟩)
 obtain ⟨a1,a2,a3,a4,a5⟩:=As5 c (i:=r0) (by omega) (p:=A18) rfl
 obtain ⟨b1,b2,b3,b4,b5⟩:=Ai9 a2 hf0 (f:=⟨1,r0,1,0⟩) (by simp [okF];omega)
 obtain ⟨c1,c2,c3,c4,c5⟩:=Ai9 b2 hf1 (f:=⟨2,r0,1,0⟩) (by simp [okF];omega)
 have hq:=Do9 (Do9 s3 s2 d0.toNat (f:=f0+1) (by omega)) s2 d1.toNat (f:=f1+1) (by omega)
 obtain ⟨e1,e2,e3,e4,e5⟩:=A48 c2 hi hq ⟨hin.a,hin.b,hin.c,hin.d⟩
 refine ⟨a1,b1,c1,e1,e2,fun j hj=>?_,fun j hj=>?_,fun j hj=>?_⟩
 ·rw [show Bq3 X i d0 d1 f0 f1 r0=Aw0 _ _ _ from rfl,e3 j hj,c3 j hj,b3 j hj,a3 j hj]
 ·rw [show Bq3 X i d0 d1 f0 f1 r0=Aw0 _ _ _ from rfl,e4 j hj,c4 j hj,b4 j hj,a4 j hj]
 ·rw [show Bq3 X i d0 d1 f0 f1 r0=Aw0 _ _ _ from rfl,e5 j hj,c5 j hj,b5 j hj,a5 j hj]
theorem Ie1 (bh b k:Nat) (F:Fr) (X:CX) (ok:FrOk F) {nc:Nat} (c:Clean nc X):Ct B2 Y8 [int 12,int 2,.func (.func A69) ⟨[]⟩ ⟨[P0 bh]⟩] [hcC bh b k F X] fun v own =>
  ∃ a' c',v=.slice a' (Bd8 X).length c'∧own [slC false B7 1 a' (Bd8 X).length c' ((Bd8 X).map int),hcC bh b k F X] :=
 E48 _ A69 [P0 bh] 12 (by omega) 2 _ fun j hj=>H97 bh b k F X ok c j (by omega)
theorem Ie4 (bh b k:Nat) (F:Fr) (X:CX) (ok:FrOk F) {nc:Nat} (c:Clean nc X):Ct B2 Y8 [int 4,int 1,.func (.func A58) ⟨[]⟩ ⟨[P0 bh]⟩] [hcC bh b k F X] fun v own =>
  ∃ a' c',v=.slice a' (Bk4 X).length c'∧own [slC false B7 1 a' (Bk4 X).length c' ((Bk4 X).map int),hcC bh b k F X] :=
 E48 _ A58 [P0 bh] 4 (by omega) 1 _ fun j hj=>Id5 bh b k F X ok c j (by have:=c.pos;omega)
theorem Ip1 {l:List Int} (h:l.length≤1) (h2:¬ l.length=0):∃ a,l=[a]:=by
 match l,h,h2 with
 | [a],_,_=>exact ⟨a,rfl⟩
 | [],_,h2=>simp at h2
 | _::_::_,h,_=>simp at h
theorem E70 (b k:Nat) (F:Fr) (X:CX) (ok:FrOk F) {nc:Nat} (c:Clean nc X) (i:Int) (hi:0≤i∧i<8) :
  Ct B2 Bl7 [P0 b,int i] [cmC b k F X] fun v own=>v=.agg ⟨(Ax0 X i).1⟩∧own [cmC b k F (Ax0 X i).2]:=by
 unfold Ax0
 refine Ct.of Hu4 rfl fun h r=>Tr.eq (Hq4 ..) ?_;refine Je ?_
 refine Yn fun bh h=>?_
 refine Yn fun b0 h=>?_
 (refine Ja ?_;unhygienic intros)
 refine Yc (B84 b k F X ok c i hi) ?_;rintro _ h ⟨rfl,o⟩<;>refine Jh o ?_
 (refine Jc ?_;unhygienic intros)
 refine Yn fun b1 h=>?_
 (refine Jb ?_;unhygienic intros)
 by_cases h1:(O7 X i).2=0
 case neg =>
  rw [if_pos h1]
  refine Yt (by simpa using h1) ?_
  refine Yc (Am4 (O7 X i).2) ?_;rintro _ h ⟨rfl,o⟩<;>(refine Jf o ?_;unhygienic intros)
  refine Ys fun o=>?_
  exact ⟨rfl,o.sub⟩
 rw [if_neg (by simpa using h1)]
 refine Yf (by simpa using h1) ?_
 have hM:=fun d0 d1 f0 f1 r0=>Gt4 c hi h1 (d0:=d0) (d1:=d1) (f0:=f0) (f1:=f1) (r0:=r0)
 obtain ⟨s1,s2,s3,s4⟩:=A06 c hi h1
 rw [s1]
 unfold Bq3 at hM ⊢
 generalize (vS X i).1=p at hM
 (refine Ja ?_;unhygienic intros)
 refine Yc (G17 p 2) ?_
 rintro _ h ⟨a,ac,rfl,o⟩
 refine Jh o ?_
 have hm:=Ar5 (fun j=>p.fds.getD j.toNat 0==0) 8 0 2
 have hl:=Bx3 (fun j=>p.fds.getD j.toNat 0==0) 8 0 2
 change ∀ x ∈ M6 p 2,_ at hm
 change (M6 p 2).length≤2 at hl
 refine (?_:Tr (slC false B7 1 a (M6 p 2).length ac ((M6 p 2).map int)::_) _ _ _)
 generalize M6 p 2=L at hm hl
 by_cases h2:L.length<2
 ·(refine Ja ?_;unhygienic intros)
  refine Yt (by simp;omega) ?_
  refine Yc (Am4 124) ?_;rintro _ h ⟨rfl,o⟩<;>(refine Jf o ?_;unhygienic intros)
  refine Ys fun o=>?_
  rw [if_pos h2]
  exact ⟨rfl,o.sub⟩
 rw [if_neg h2]
 obtain ⟨d0,d1,rfl⟩:=H05 hl h2
 have hd0:=hm d0 (by simp)
 have hd1:=hm d1 (by simp)
 (refine Ja ?_;unhygienic intros)
 refine Yf (by simp) ?_
 refine B6 (hcC bh b k F X) () ?_;refine Je ?_
 refine Yc (Ie1 bh b k F X ok c) ?_
 rintro _ h ⟨a2,ac2,rfl,o⟩
 refine Jh o ?_
 have hmF:=Ar5 (fun j=>(vF X j).2==0) 12 0 2
 have hlF:=Bx3 (fun j=>(vF X j).2==0) 12 0 2
 change ∀ x ∈ Bd8 X,_ at hmF
 change (Bd8 X).length≤2 at hlF
 generalize Bd8 X=Fl at hmF hlF
 (refine Ja ?_;unhygienic intros)
 refine Yc (Ie4 bh b k F X ok c) ?_
 rintro _ h ⟨a3,ac3,rfl,o⟩
 refine Jh o ?_
 have hmR:=Ar5 (fun j=>(vP X j).2==0) 4 0 1
 have hlR:=Bx3 (fun j=>(vP X j).2==0) 4 0 1
 change ∀ x ∈ Bk4 X,_ at hmR
 change (Bk4 X).length≤1 at hlR
 generalize Bk4 X=Rl at hmR hlR
 refine B8 (hcC bh b k F X) fun u=>?_;refine Je ?_
 by_cases h3:Fl.length<2
 ·rw [if_pos (.inl h3)]
  (refine Jb ?_;unhygienic intros)
  refine Yb (Yt (by simp;omega) ?_)
  refine Ys fun o=>(?_:Tr _ _ _ _) o;refine Je ?_
  refine Yt rfl ?_
  refine Yc (Am4 123) ?_;rintro _ h ⟨rfl,o⟩<;>(refine Jf o ?_;unhygienic intros)
  refine Ys fun o=>?_
  exact ⟨rfl,o.sub⟩
 obtain ⟨f0,f1,rfl⟩:=H05 hlF h3
 by_cases h4:Rl.length=0
 ·rw [if_pos (.inr h4)]
  (refine Jb ?_;unhygienic intros)
  refine Yb (Yf rfl ?_)
  refine Ys fun o=>(?_:Tr _ _ _ _) o;refine Je ?_
  refine Yt (by simpa using h4) ?_
  refine Yc (Am4 123) ?_;rintro _ h ⟨rfl,o⟩<;>(refine Jf o ?_;unhygienic intros)
  refine Ys fun o=>?_
  exact ⟨rfl,o.sub⟩
 rw [if_neg (fun h=>h.elim h3 h4)]
 obtain ⟨r0,rfl⟩:=Ip1 hlR h4
 have hf0:=hmF f0 (by simp)
 have hf1:=hmF f1 (by simp)
 have hr0:=hmR r0 (by simp)
 obtain ⟨w1,w2,w3,w4,_⟩:=hM d0 d1 f0 f1 r0 (by omega) (by omega) (by omega) (by omega) (by omega) (by have:=c.pos;omega)
 (refine Jb ?_;unhygienic intros)
 refine Yb (Yf rfl ?_)
 refine Ys fun o=>(?_:Tr _ _ _ _) o;refine Je ?_
 refine Yf rfl ?_
 (refine Ja ?_;unhygienic intros;repeat(refine Gw ?_;rintro px rfl;refine Ja ?_;unhygienic intros))
 refine Yc (Dy9 b k F X ok r0 A18) ?_;rintro _ h ⟨rfl,o⟩<;>refine Jh o ?_
 rw [w1]
 dsimp only
 (refine Jb ?_;unhygienic intros)
 refine Yb (Yt rfl ?_)
 (refine Jb ?_;unhygienic intros;repeat(refine Gw ?_;rintro px rfl;refine Jb ?_;unhygienic intros))
 refine Yc (B96 b k F (A04 X r0 A18) ok f0 ⟨1,r0,1,0⟩) ?_;rintro _ h ⟨rfl,o⟩<;>refine Jh o ?_
 rw [w2]
 dsimp only
 (refine Jb ?_;unhygienic intros)
 refine Ys fun o=>(?_:Tr _ _ _ _) o;refine Je ?_
 refine Yb (Yt rfl ?_)
 (refine Jb ?_;unhygienic intros;repeat(refine Gw ?_;rintro px rfl;refine Jb ?_;unhygienic intros))
 refine Yc (B96 b k F (Au1 (A04 X r0 A18) f0 ⟨1,r0,1,0⟩) ok f1 ⟨2,r0,1,0⟩) ?_;rintro _ h ⟨rfl,o⟩<;>refine Jh o ?_
 rw [w3]
 dsimp only
 (refine Jb ?_;unhygienic intros)
 refine Ys fun o=>(?_:Tr _ _ _ _) o;refine Je ?_
 have hs:D09 (E2 p) (8+d0.toNat) (int (IntKind.wrap .i64 (f0+1)))=some (E2 (setFd p d0.toNat (f0+1))):=by
  rw [show IntKind.wrap .i64 (f0+1)=f0+1 by rw [B3];omega];exact Dv5 p (by omega) _
 have hs2:D09 (E2 (setFd p d0.toNat (f0+1))) (8+d1.toNat) (int (IntKind.wrap .i64 (f1+1)))=some (E2 (setFd (setFd p d0.toNat (f0+1)) d1.toNat (f1+1))):=by
  rw [show IntKind.wrap .i64 (f1+1)=f1+1 by rw [B3];omega];exact Dv5 _ (by omega) _
 have hx:IntKind.wrap .i64 (d0+IntKind.wrap .i64 (16*d1))=d0+16*d1:=by simp only [B3];omega
 simp only [List.getD_cons_zero,List.getD_cons_succ]
 generalize setFd (setFd p d0.toNat (f0+1)) d1.toNat (f1+1)=q at hs2 w4
 (refine Jb ?_;unhygienic intros;repeat(refine Gw ?_;rintro px rfl;refine Jb ?_;unhygienic intros))
 rw [hx]
 refine Yb (Yt rfl ?_)
 (refine Jb ?_;unhygienic intros)
 refine Yc (Da5 b k F (Au1 (Au1 (A04 X r0 A18) f0 ⟨1,r0,1,0⟩) f1 ⟨2,r0,1,0⟩) ok i q) ?_;rintro _ h ⟨rfl,o⟩<;>refine Jh o ?_
 rw [w4]
 dsimp only
 (refine Jb ?_;unhygienic intros)
 refine Ys fun o=>(?_:Tr _ _ _ _) o;refine Je ?_
 refine Yc (Ha1 true (d0+16*d1)) ?_;rintro _ h ⟨rfl,o⟩<;>refine Jh o ?_
 rw [if_pos trivial]
 (refine Ja ?_;unhygienic intros)
 refine Ys fun o=>?_
 exact ⟨rfl,o.sub⟩
structure VW where
 S:Int→ProcS × Int
 F:Int→FileS × Int
 P:Int→PipeS × Int
structure See (X:CX) (V:VW):Prop where
 c:Clean 3 X
 s:∀ j:Int,0≤j∧j<8→vS X j=V.S j
 f:∀ j:Int,0≤j∧j<12→vF X j=V.F j
 p:∀ j:Int,0≤j∧j<6→vP X j=V.P j
theorem See.to {X:CX} {V V':VW} (A:See X V) (hs:∀ j:Int,0≤j∧j<8→V.S j=V'.S j) (hf:∀ j:Int,0≤j∧j<12→V.F j=V'.F j) (hp:∀ j:Int,0≤j∧j<6→V.P j=V'.P j):See X V' :=
 ⟨A.c,fun j h=>(A.s j h).trans (hs j h),fun j h=>(A.f j h).trans (hf j h),fun j h=>(A.p j h).trans (hp j h)⟩
def wS (V:VW) (i:Int) (p:ProcS):VW:=⟨fun j=>if j=i then (p,1) else V.S j,V.F,V.P⟩
def wF (V:VW) (i:Int) (x:FileS):VW:=⟨V.S,fun j=>if j=i then (x,1) else V.F j,V.P⟩
def wP (V:VW) (i:Int) (x:PipeS):VW:=⟨V.S,V.F,fun j=>if j=i then (x,1) else V.P j⟩
def oF (V:VW) (i:Int):VW:=⟨V.S,fun j=>if j=i then (.zero,0) else V.F j,V.P⟩
def oP (V:VW) (i:Int):VW:=⟨V.S,V.F,fun j=>if j=i then (.zero,0) else V.P j⟩
section
variable {X:CX} {V:VW} (A:See X V)
include A
theorem See.ws {i:Int} (hi:0≤i∧i<8) {p:ProcS} (ok:okS p=true) (r:InS p):See (Aw0 X i p) (wS V i p):=by
 obtain ⟨_,w2,w3,w4,w5⟩:=A48 A.c hi ok r
 exact ⟨w2,fun j h=>by rw [w3 j h,A.s j h];rfl,fun j h=>by rw [w4 j h];exact A.f j h,fun j h=>by rw [w5 j (by omega)];exact A.p j h⟩
theorem See.wf {i:Int} (hi:0≤i∧i<12) {x:FileS} (ok:okF x=true):See (Au1 X i x) (wF V i x):=by
 obtain ⟨_,w2,w3,w4,w5⟩:=Ai9 A.c hi ok
 exact ⟨w2,fun j h=>by rw [w3 j h];exact A.s j h,fun j h=>by rw [w4 j h,A.f j h];rfl,fun j h=>by rw [w5 j (by omega)];exact A.p j h⟩
theorem See.wp {i:Int} (hi:0≤i∧i<6) {x:PipeS} (ok:okP x=true):See (A04 X i x) (wP V i x):=by
 obtain ⟨_,w2,w3,w4,w5⟩:=As5 A.c (i:=i) (by omega) ok
 exact ⟨w2,fun j h=>by rw [w3 j h];exact A.s j h,fun j h=>by rw [w4 j h];exact A.f j h,fun j h=>by rw [w5 j (by omega),A.p j h];rfl⟩
theorem See.of {i:Int} (hi:0≤i∧i<12):See (D20 X i) (oF V i):=by
 obtain ⟨_,w2,w3,w4,w5⟩:=D76 A.c hi
 exact ⟨w2,fun j h=>by rw [w3 j h];exact A.s j h,fun j h=>by rw [w4 j h,A.f j h];rfl,fun j h=>by rw [w5 j (by omega)];exact A.p j h⟩
theorem See.op {i:Int} (hi:0≤i∧i<6):See (Ga3 X i) (oP V i):=by
 obtain ⟨_,w2,w3,w4,w5⟩:=D59 A.c (i:=i) (by omega)
 exact ⟨w2,fun j h=>by rw [w3 j h];exact A.s j h,fun j h=>by rw [w4 j h];exact A.f j h,fun j h=>by rw [w5 j (by omega),A.p j h];rfl⟩
end
def Ac5 (V:VW) (i:Int):ProcS × Int:=if (V.S i).2=1∧(V.S i).1.state=1 then ((V.S i).1,0) else (.zero,105)
theorem See.self {X:CX} {V:VW} (A:See X V) {i:Int} (hi:0≤i∧i<8):O7 X i=Ac5 V i:=by unfold O7 Ac5;rw [A.s i hi]
def clP (V:VW) (i:Int) (q:PipeS):VW:=if q.readers+q.writers=0∧i<4 then oP V i else wP V i q
def Ep7 (V:VW) (f:Int):Int × VW :=
 if (V.F f).2≠1 then (105,V)
 else if (V.F f).1.refs-1>0 then (0,wF V f (Bv6 (V.F f).1 (-1)))
 else if (V.F f).1.kind=3 then (0,oF V f)
 else if ¬ ((V.F f).1.pipe<6∧(V.P (V.F f).1.pipe).2=1) then (105,oF V f)
 else (0,clP (oF V f) (V.F f).1.pipe (Er0 (V.F f).1.kind (V.P (V.F f).1.pipe).1))
theorem See.close {X:CX} {V:VW} (A:See X V) {f:Int} (hf:0≤f∧f<12):(By7 3 X f).1=(Ep7 V f).1∧See (By7 3 X f).2 (Ep7 V f).2:=by
 have e:=A.f f hf
 have hk:(V.F f).2=1→okF (V.F f).1=true:=fun h=>by
  rcases Gi1 A.c hf with ⟨h2,_⟩|⟨_,h2⟩
  ·rw [e,h] at h2;cases h2
  ·rw [e] at h2;exact h2
 unfold By7 Ep7
 rw [e]
 by_cases h1:(V.F f).2=1
 case neg=>rw [if_pos h1,if_pos h1];exact ⟨rfl,A⟩
 have n1:¬ (V.F f).2≠1:=by simpa using h1
 rw [if_neg n1,if_neg n1]
 replace hk:=hk h1
 have hr:=B69 hk
 have hp:=Hc5 hk
 by_cases h2:(V.F f).1.refs-1>0
 ·rw [if_pos h2,if_pos h2]
  exact ⟨rfl,A.wf hf (B66 hk (n:=-1) (by omega))⟩
 rw [if_neg h2,if_neg h2]
 by_cases h3:(V.F f).1.kind=3
 ·rw [if_pos h3,if_pos h3];exact ⟨rfl,A.of hf⟩
 rw [if_neg h3,if_neg h3]
 by_cases h4:(V.F f).1.pipe<6
 case neg =>
  have n4:¬ ((V.F f).1.pipe<3+((3:Nat):Int)∧(vP X (V.F f).1.pipe).2=1):=fun h=>h4 (by have:=h.1;omega)
  have n5:¬ ((V.F f).1.pipe<6∧(V.P (V.F f).1.pipe).2=1):=fun h=>h4 h.1
  rw [if_pos n4,if_pos n5];exact ⟨rfl,A.of hf⟩
 have ep:=A.p (V.F f).1.pipe ⟨hp,h4⟩
 rw [ep]
 by_cases h5:(V.P (V.F f).1.pipe).2=1
 case neg =>
  have n4:¬ ((V.F f).1.pipe<3+((3:Nat):Int)∧(V.P (V.F f).1.pipe).2=1):=fun h=>h5 h.2
  have n5:¬ ((V.F f).1.pipe<6∧(V.P (V.F f).1.pipe).2=1):=fun h=>h5 h.2
  rw [if_pos n4,if_pos n5];exact ⟨rfl,A.of hf⟩
 have n4:¬ ¬ ((V.F f).1.pipe<3+((3:Nat):Int)∧(V.P (V.F f).1.pipe).2=1):=fun h=>h ⟨by omega,h5⟩
 have n5:¬ ¬ ((V.F f).1.pipe<6∧(V.P (V.F f).1.pipe).2=1):=fun h=>h ⟨h4,h5⟩
 rw [if_neg n4,if_neg n5]
 have hq:okP (V.P (V.F f).1.pipe).1=true:=by
  rcases Gx9 A.c (i:=(V.F f).1.pipe) (by omega) with ⟨h6,_⟩|⟨_,h6⟩
  ·rw [ep,h5] at h6;cases h6
  ·rw [ep] at h6;exact h6
 refine ⟨rfl,?_⟩
 unfold Gd3 clP
 split
 ·exact (A.of hf).op ⟨hp,h4⟩
 ·exact (A.of hf).wp ⟨hp,h4⟩ (Hm9 hq _)
def ofW (V:VW) (i fd:Int):(Int × FileS) × Int :=
 if (Ac5 V i).2≠0 then ((0,.zero),(Ac5 V i).2)
 else if Z3 (V.S i).1 fd=false then ((0,.zero),109)
 else if (V.F ((V.S i).1.fds.getD fd.toNat 0-1)).2≠1 then ((0,.zero),105)
 else (((V.S i).1.fds.getD fd.toNat 0-1,(V.F ((V.S i).1.fds.getD fd.toNat 0-1)).1),0)
theorem See.ofv {X:CX} {V:VW} (A:See X V) {i:Int} (hi:0≤i∧i<8) (fd:Int):ofV X i fd=ofW V i fd:=by
 have es:=A.self hi
 have hr:=fun h=>Es6 A.c (i:=i) hi h fd.toNat
 unfold ofV ofW
 rw [es] at hr ⊢
 rw [A.s i hi] at hr ⊢
 by_cases h1:(Ac5 V i).2≠0
 ·rw [if_pos h1,if_pos h1]
 rw [if_neg h1,if_neg h1]
 by_cases h2:Z3 (V.S i).1 fd=false
 ·rw [if_pos h2,if_pos h2]
 have hn:=Du9 (show Z3 (V.S i).1 fd=true by simpa using h2)
 have hr:=hr (by simpa using h1)
 rw [if_neg h2,if_neg h2,A.f _ (by omega)]
def Gy8 (V:VW) (i fd f:Int):List Value × VW :=
 if (Ac5 V i).2≠0 then (H7 0 (Ac5 V i).2 false,V) else (H7 fd 0 false,wS V i (setFd (V.S i).1 fd.toNat (f+1)))
theorem See.setFd {X:CX} {V:VW} (A:See X V) {i:Int} (hi:0≤i∧i<8) (h:(Ac5 V i).2=0) (j:Nat) {f:Int} (hf:0≤f∧f≤12):See (Aw0 X i (EQ.setFd (vS X i).1 j f)) (wS V i (EQ.setFd (V.S i).1 j f)):=by
 have es:=A.self hi
 obtain ⟨s1,s2,s3,s4⟩:=A06 A.c hi (by rw [es];exact h)
 have hin:=D50 (rd X ⟨1,i⟩)
 have:=A.ws hi (Do9 s3 s2 j hf) ⟨hin.a,hin.b,hin.c,hin.d⟩
 have e:EQ.setFd (V.S i).1 j f=EQ.setFd (vS X i).1 j f:=by rw [A.s i hi]
 rw [e];exact this
theorem See.name {X:CX} {V:VW} (A:See X V) {i:Int} (hi:0≤i∧i<8) (fd:Int) {f:Int} (hf:0≤f∧f<12):(Dj8 X i fd f).1=(Gy8 V i fd f).1∧See (Dj8 X i fd f).2 (Gy8 V i fd f).2:=by
 have es:=A.self hi
 unfold Dj8 Gy8
 rw [es]
 by_cases h1:(Ac5 V i).2=0
 case neg=>rw [if_pos h1,if_pos h1];exact ⟨rfl,A⟩
 have n1:¬ (Ac5 V i).2≠0:=by simpa using h1
 rw [if_neg n1,if_neg n1]
 exact ⟨rfl,A.setFd hi h1 fd.toNat (by omega)⟩
def N8 (V:VW) (i fd:Int):List Value × VW :=
 if (Ac5 V i).2≠0 then (H7 0 (Ac5 V i).2 false,V)
 else if Z3 (V.S i).1 fd=false then (H7 0 109 false,V)
 else (H7 0 (Ep7 (wS V i (setFd (V.S i).1 fd.toNat 0)) ((V.S i).1.fds.getD fd.toNat 0-1)).1 false,(Ep7 (wS V i (setFd (V.S i).1 fd.toNat 0)) ((V.S i).1.fds.getD fd.toNat 0-1)).2)
theorem See.closeFd {X:CX} {V:VW} (A:See X V) {i:Int} (hi:0≤i∧i<8) (fd:Int):(Am3 3 X i fd).1=(N8 V i fd).1∧See (Am3 3 X i fd).2 (N8 V i fd).2:=by
 have es:=A.self hi
 unfold Am3 N8
 have hr0:=fun h=>Es6 A.c (i:=i) hi h fd.toNat
 rw [es] at hr0 ⊢
 by_cases h1:(Ac5 V i).2=0
 case neg=>rw [if_pos h1,if_pos h1];exact ⟨rfl,A⟩
 have n1:¬ (Ac5 V i).2≠0:=by simpa using h1
 have hr:=hr0 h1
 have B:=A.setFd hi h1 fd.toNat (f:=0) (by omega)
 rw [if_neg n1,if_neg n1]
 rw [A.s i hi] at hr B ⊢
 by_cases h2:Z3 (V.S i).1 fd=false
 ·rw [if_pos h2,if_pos h2];exact ⟨rfl,A⟩
 have hn:=Du9 (show Z3 (V.S i).1 fd=true by simpa using h2)
 rw [if_neg h2,if_neg h2]
 have C:=B.close (f:=(V.S i).1.fds.getD fd.toNat 0-1) (by omega)
 exact ⟨by rw [C.1],C.2⟩
def G95 (V:VW) (i fd:Int):List Value × VW :=
 if (ofW V i fd).2≠0 then (H7 0 (ofW V i fd).2 false,V)
 else if (M6 (V.S i).1 1).length=0 then (H7 0 124 false,V)
 else if (ofW V i fd).1.2.refs≥64 then (H7 0 123 false,V)
 else Gy8 (wF V (ofW V i fd).1.1 (Bv6 (ofW V i fd).1.2 1)) i ((M6 (V.S i).1 1).getD 0 0) (ofW V i fd).1.1
theorem See.dup {X:CX} {V:VW} (A:See X V) {i:Int} (hi:0≤i∧i<8) (fd:Int):(E80 X i fd).1=(G95 V i fd).1∧See (E80 X i fd).2 (G95 V i fd).2:=by
 have eo:=A.ofv hi fd
 unfold E80 G95
 have ho:=H21 A.c (fd:=fd) hi
 rw [eo] at ho ⊢
 by_cases h1:(ofW V i fd).2=0
 case neg=>rw [if_pos h1,if_pos h1];exact ⟨rfl,A⟩
 obtain ⟨o1,o2,o3,o4,o5,o6⟩:=ho h1
 have n1:¬ (ofW V i fd).2≠0:=by simpa using h1
 rw [if_neg n1,if_neg n1,A.s i hi]
 by_cases h2:(M6 (V.S i).1 1).length=0
 ·rw [if_pos h2,if_pos h2];exact ⟨rfl,A⟩
 rw [if_neg h2,if_neg h2]
 have hr:=B69 o6
 by_cases h3:(ofW V i fd).1.2.refs≥64
 ·rw [if_pos h3,if_pos h3];exact ⟨rfl,A⟩
 rw [if_neg h3,if_neg h3]
 exact (A.wf o4 (B66 o6 (n:=1) (by omega))).name hi _ o4
theorem B93 {q q':Int→Bool}:∀ (m:Nat) (i:Int) (w:Nat),(∀ j:Int,i≤j→j<i+m→q j=q' j)→N5 q m i w=N5 q' m i w
 | 0,_,_,_=>rfl
 | _+1,_,0,_=>rfl
 | m+1,i,w+1,h=>by
  rw [N5,N5,h i (by omega) (by omega),B93 m (i+1) w fun j h1 h2=>h j (by omega) (by omega),B93 m (i+1) (w+1) fun j h1 h2=>h j (by omega) (by omega)]
abbrev D92 (V:VW):List Int:=N5 (fun j=>(V.F j).2==0) 12 0 2
abbrev Go0 (V:VW):List Int:=N5 (fun j=>(V.P j).2==0) 4 0 1
def mkW (V:VW) (i d0 d1 f0 f1 r0:Int):VW:=wS (wF (wF (wP V r0 A18) f0 ⟨1,r0,1,0⟩) f1 ⟨2,r0,1,0⟩) i (setFd (setFd (V.S i).1 d0.toNat (f0+1)) d1.toNat (f1+1))
def Gb8 (V:VW) (i:Int):List Value × VW :=
 if (Ac5 V i).2≠0 then (H7 0 (Ac5 V i).2 false,V)
 else if (M6 (V.S i).1 2).length<2 then (H7 0 124 false,V)
 else if (D92 V).length<2∨(Go0 V).length=0 then (H7 0 123 false,V)
 else (H7 ((M6 (V.S i).1 2).getD 0 0+16*(M6 (V.S i).1 2).getD 1 0) 0 false,mkW V i ((M6 (V.S i).1 2).getD 0 0) ((M6 (V.S i).1 2).getD 1 0) ((D92 V).getD 0 0) ((D92 V).getD 1 0) ((Go0 V).getD 0 0))
theorem Do4 {l:List Int} {j:Nat} (h:j<l.length):l.getD j 0 ∈ l:=by
 rw [List.getD_eq_getElem?_getD,List.getElem?_eq_getElem h];exact List.getElem_mem _
theorem See.pipe {X:CX} {V:VW} (A:See X V) {i:Int} (hi:0≤i∧i<8):(Ax0 X i).1=(Gb8 V i).1∧See (Ax0 X i).2 (Gb8 V i).2:=by
 have es:=A.self hi
 have e1:Bd8 X=D92 V:=B93 12 0 2 fun j h1 h2=>by rw [A.f j (by omega)]
 have e2:Bk4 X=Go0 V:=B93 4 0 1 fun j h1 h2=>by rw [A.p j (by omega)]
 unfold Ax0 Gb8
 rw [e1,e2,es]
 by_cases h1:(Ac5 V i).2=0
 case neg=>rw [if_pos h1,if_pos h1];exact ⟨rfl,A⟩
 have n1:¬ (Ac5 V i).2≠0:=by simpa using h1
 rw [if_neg n1,if_neg n1,A.s i hi]
 by_cases h2:(M6 (V.S i).1 2).length<2
 ·rw [if_pos h2,if_pos h2];exact ⟨rfl,A⟩
 rw [if_neg h2,if_neg h2]
 by_cases h3:(D92 V).length<2∨(Go0 V).length=0
 ·rw [if_pos h3,if_pos h3];exact ⟨rfl,A⟩
 rw [if_neg h3,if_neg h3]
 have hm:=Ar5 (fun j=>(V.S i).1.fds.getD j.toNat 0==0) 8 0 2
 have hd0:=hm _ (Do4 (l:=M6 (V.S i).1 2) (j:=0) (by omega))
 have hd1:=hm _ (Do4 (l:=M6 (V.S i).1 2) (j:=1) (by omega))
 have hf0:=Ar5 (fun j=>(V.F j).2==0) 12 0 2 _ (Do4 (l:=D92 V) (j:=0) (by omega))
 have hf1:=Ar5 (fun j=>(V.F j).2==0) 12 0 2 _ (Do4 (l:=D92 V) (j:=1) (by omega))
 have hr:=Ar5 (fun j=>(V.P j).2==0) 4 0 1 _ (Do4 (l:=Go0 V) (j:=0) (by omega))
 generalize (M6 (V.S i).1 2).getD 0 0=d0 at hd0 ⊢
 generalize (M6 (V.S i).1 2).getD 1 0=d1 at hd1 ⊢
 generalize (D92 V).getD 0 0=f0 at hf0 ⊢
 generalize (D92 V).getD 1 0=f1 at hf1 ⊢
 generalize (Go0 V).getD 0 0=r0 at hr ⊢
 obtain ⟨_,_,_,_,m1,m2,m3,m4⟩:=Gt4 A.c hi (by rw [es];exact h1) (d0:=d0) (d1:=d1) (f0:=f0) (f1:=f1) (r0:=r0) (by omega) (by omega) (by omega) (by omega) (by omega) (by omega)
 refine ⟨rfl,m1,fun j hj=>?_,fun j hj=>?_,fun j hj=>?_⟩
 ·rw [m2 j hj,A.s i hi,A.s j hj];rfl
 ·rw [m3 j hj,A.f j hj];rfl
 ·rw [m4 j (by omega),A.p j hj];rfl
def Gy1 (V:VW):Nat→Int→Int
 | 0,_=>-1
 | m+1,i=>if (V.S i).2=0 then i else Gy1 V m (i+1)
def D54 (V:VW) (more:List Int):List Int→Int
 | []=>0
 | f::l=>if f=0 then D54 V more l else if (V.F (f-1)).2≠1 then 105 else if (V.F (f-1)).1.refs+more.getD (f-1).toNat 0>64 then 123 else D54 V more l
theorem See.share {X:CX} {V:VW} (A:See X V) (more:List Int):∀ l:List Int,Ib3 l→D75 X more l=D54 V more l
 | [],_=>rfl
 | f::l,h=>by
  have hf:=h f (by simp)
  rw [D75,D54,A.share more l fun x hx=>h x (by simp [hx])]
  by_cases h0:f=0
  ·rw [if_pos h0,if_pos h0]
  ·rw [if_neg h0,if_neg h0,A.f (f-1) (by omega)]
def It5 (V:VW) (more:List Int):VW:=⟨V.S,fun j=>if more.getD j.toNat 0≠0 then (Bv6 (V.F j).1 (more.getD j.toNat 0),1) else V.F j,V.P⟩
def Is7 (V:VW) (i:Int):List Value × VW :=
 if (Ac5 V i).2≠0 then (H7 0 (Ac5 V i).2 false,V)
 else if Gy1 V 8 0<0 then (H7 0 111 false,V)
 else if D54 V (Ex4 (V.S i).1) (V.S i).1.fds≠0 then (H7 0 (D54 V (Ex4 (V.S i).1) (V.S i).1.fds) false,V)
 else (H7 (Gy1 V 8 0) 0 false,wS (It5 V (Ex4 (V.S i).1)) (Gy1 V 8 0) (Ho3 (V.S i).1 i))
def V1:VW:=⟨fun j=>if j=0 then (p0,1) else (.zero,0),fun j=>if j=0 then (f0,1) else (.zero,0),fun j=>if j<4 then (.zero,0) else vP X1 j⟩
theorem Io9:See X1 V1:=by
 refine ⟨E72,fun j hj=>?_,fun j hj=>?_,fun j hj=>?_⟩
 ·have:j=0∨j=1∨j=2∨j=3∨j=4∨j=5∨j=6∨j=7:=by omega
  rcases this with rfl|rfl|rfl|rfl|rfl|rfl|rfl|rfl<;>(clear hj;show (_:ProcS × Int)=_;kernel_rfl)
 ·have:j=0∨j=1∨j=2∨j=3∨j=4∨j=5∨j=6∨j=7∨j=8∨j=9∨j=10∨j=11:=by omega
  rcases this with rfl|rfl|rfl|rfl|rfl|rfl|rfl|rfl|rfl|rfl|rfl|rfl<;>(clear hj;show (_:FileS × Int)=_;kernel_rfl)
 ·by_cases h4:j<4
  ·have:j=0∨j=1∨j=2∨j=3:=by omega
   rcases this with rfl|rfl|rfl|rfl<;>(clear hj h4;show (_:PipeS × Int)=_;kernel_rfl)
  ·show _=if j<4 then _ else vP X1 j
   rw [if_neg h4]
abbrev Is8 (ow:List Int) (h:ow.length=8):ProcS:=⟨1,0,0,0,0,0,0,0,ow,h⟩
def kd (j:Int):Int:=if j=0 then 3 else j
def Iu2 (j n:Int):FileS × Int:=if n>0 then (⟨kd j,0,n,0⟩,1) else (.zero,0)
def pO (a b:Int):PipeS:=⟨0,0,min a 1,min b 1,[0,0,0,0,0,0,0,0,0,0,0,0,0,0,0,0,0,0,0,0,0,0,0,0,0,0,0,0,0,0,0,0],rfl⟩
def It9 (a b:Int):PipeS × Int:=if a>0∨b>0 then (pO a b,1) else (.zero,0)
def It4 (ow:List Int) (h:ow.length=8) (r:Int→Int):VW :=
 ⟨fun j=>if j=0 then (Is8 ow h,1) else (.zero,0),fun j=>if 0≤j∧j<3 then Iu2 j (r (j+1)) else (.zero,0),fun j=>if j=0 then It9 (r 2) (r 3) else if j<4 then (.zero,0) else vP X1 j⟩
abbrev rr (r:Int→Int) (v d:Int):Int→Int:=fun k=>if k=v then r k+d else r k
theorem VW.ext' {V V':VW} (h1:∀ j,V.S j=V'.S j) (h2:∀ j,V.F j=V'.F j) (h3:∀ j,V.P j=V'.P j):V=V':=by
 obtain ⟨a,b,c⟩:=V
 obtain ⟨a',b',c'⟩:=V'
 have e1:a=a':=funext h1
 have e2:b=b':=funext h2
 have e3:c=c':=funext h3
 rw [e1,e2,e3]
section
variable {ow:List Int} {h:ow.length=8} {r:Int→Int}
end
def cnt (v:Int):List Int→Int
 | []=>0
 | x::l=>(if x=v then 1 else 0)+cnt v l
theorem Gi9 (v:Int):∀ l:List Int,0≤cnt v l∧cnt v l≤l.length
 | []=>by simp [cnt]
 | x::l=>by
  have:=Gi9 v l
  unfold cnt;rw [List.length_cons];split<;>omega
theorem Hn7 (v:Int):∀ (l:List Int) (j:Nat),j<l.length→l.getD j 0=v→1≤cnt v l
 | [],j,h,_=>by simp at h
 | x::l,0,_,e=>by
  have:=Gi9 v l
  rw [List.getD_cons_zero] at e
  unfold cnt;rw [if_pos e];omega
 | x::l,j+1,h,e=>by
  rw [List.getD_cons_succ] at e
  have:=Hn7 v l j (by simpa using h) e
  unfold cnt;split<;>omega
theorem Hm7 (v w:Int):∀ (l:List Int) (j:Nat),j<l.length→cnt v (l.set j w)=cnt v l-(if l.getD j 0=v then 1 else 0)+(if w=v then 1 else 0)
 | [],j,h=>by simp at h
 | x::l,0,_=>by
  rw [List.set_cons_zero,List.getD_cons_zero,cnt,cnt];omega
 | x::l,j+1,h=>by
  have:=Hm7 v w l j (by simpa using h)
  rw [List.set_cons_succ,List.getD_cons_succ,cnt,cnt,this];omega
theorem H04 (l:List Int) (j n:Nat) (w:Int) (h:j<l.length):(l.set j w).getD n 0=if n=j then w else l.getD n 0:=by
 rw [List.getD_eq_getElem?_getD,List.getD_eq_getElem?_getD,List.getElem?_set]
 by_cases hj:j=n
 ·subst hj;simp [h]
 ·rw [if_neg hj,if_neg (fun e=>hj e.symm)]
structure Own8 (ow:List Int) (r:Int→Int):Prop where
 len:ow.length=8
 rng:∀ j:Nat,0≤ow.getD j 0∧ow.getD j 0≤3
 ct:∀ v:Int,1≤v→v≤3→r v=cnt v ow
theorem Own8.pos {ow:List Int} {r:Int→Int} (I:Own8 ow r) {j:Nat} (hj:j<8) (h:ow.getD j 0>0):1≤r (ow.getD j 0):=by
 rw [I.ct _ (by omega) (I.rng j).2];exact Hn7 _ _ j (by rw [I.len];exact hj) rfl
theorem Own8.nn {ow:List Int} {r:Int→Int} (I:Own8 ow r) {v:Int} (h:1≤v∧v≤3):0≤r v∧r v≤8:=by
 rw [I.ct v h.1 h.2];have:=Gi9 v ow;have:=I.len;omega
theorem Own8.set {ow:List Int} {r:Int→Int} (I:Own8 ow r) {j:Nat} (hj:j<8) {w:Int} (hw:0≤w∧w≤3) {r':Int→Int} (hr:∀ v:Int,1≤v→v≤3→r' v=r v-(if ow.getD j 0=v then 1 else 0)+(if w=v then 1 else 0)):Own8 (ow.set j w) r':=by
 refine ⟨by rw [List.length_set];exact I.len,fun n=>?_,fun v h1 h2=>?_⟩
 ·rw [H04 _ _ _ _ (by rw [I.len];exact hj)]
  split
  ·exact hw
  ·exact I.rng n
 ·rw [hr v h1 h2,Hm7 _ _ _ _ (by rw [I.len];exact hj),I.ct v h1 h2]
section
variable {ow:List Int} {h:ow.length=8} {r:Int→Int} (I:Own8 ow r)
include I
def r2 (r:Int→Int) (w v:Int):Int→Int:=rr (if w>0 then rr r w (-1) else r) v 1
end
def ow0:List Int:=[1,2,3,0,0,0,0,0]
def VD:VW:=It4 ow0 rfl (fun _=>1)
theorem Is4:(Gb8 V1 0).1=H7 33 0 false:=by kernel_rfl
theorem It7:See (Ax0 X1 0).2 VD:=by
 refine (Io9.pipe (i:=0) (by omega)).2.to (fun j hj=>?_) (fun j hj=>?_) fun j hj=>?_
 ·have:j=0∨j=1∨j=2∨j=3∨j=4∨j=5∨j=6∨j=7:=by omega
  rcases this with rfl|rfl|rfl|rfl|rfl|rfl|rfl|rfl<;>(clear hj;show (_:ProcS × Int)=_;kernel_rfl)
 ·have:j=0∨j=1∨j=2∨j=3∨j=4∨j=5∨j=6∨j=7∨j=8∨j=9∨j=10∨j=11:=by omega
  rcases this with rfl|rfl|rfl|rfl|rfl|rfl|rfl|rfl|rfl|rfl|rfl|rfl<;>(clear hj;show (_:FileS × Int)=_;kernel_rfl)
 ·have:j=0∨j=1∨j=2∨j=3∨j=4∨j=5:=by omega
  rcases this with rfl|rfl|rfl|rfl|rfl|rfl<;>(clear hj;show (_:PipeS × Int)=_;kernel_rfl)
theorem H02:(Ax0 X1 0).1=H7 33 0 false:=(Io9.pipe (i:=0) (by omega)).1.trans Is4
def XD:CX:=(Ax0 X1 0).2
theorem In1:See XD VD:=It7
theorem Ir8 {h:H} {ro:Bool} {e:TypeId} {sz:Nat} {a:Option Addr} {n c:Nat} {cs:List Value} {r:List HP} (m:Nat) (hm:m≤n) (o:Own h (slC ro e sz a n c cs::r)):Own h (slC ro e sz a m c (cs.take (m*sz))::r):=by
 cases a with
 | none =>
  obtain ⟨rfl,rfl,rfl,hs⟩:=o.slNone
  obtain rfl:m=0:=by omega
  simpa using o
 | some x =>
  obtain ⟨b,o',sp⟩:=x
  obtain ⟨pre,post,o2,h1,h2,h3,h4,h5,h6,h7⟩:=o.slOpen
  have hl:m*sz≤cs.length:=by rw [← h1];exact Nat.mul_le_mul_right _ hm
  have e1:pre++cs++post=pre++cs.take (m*sz)++(cs.drop (m*sz)++post):=by rw [List.append_assoc pre cs,List.append_assoc pre,← List.append_assoc (cs.take _),List.take_append_drop]
  rw [e1] at o2
  refine Own.slShut (b:=b) (o:=o') (sp:=sp) o2 ⟨by rw [List.length_take];omega,by omega,?_,h4,h5,h6,h7⟩
  rw [List.length_append,List.length_drop,← h1]
  have:(c-m)*sz=(c-n)*sz+(n*sz-m*sz):=by rw [← Nat.sub_mul,← Nat.add_mul];congr 1;omega
  omega
theorem Ir2 {h:H} {e:TypeId} {sz:Nat} {a:Option Addr} {n c:Nat} {cs:List Value} {r:List HP} (o:Own h (slC false e sz a n c cs::r)):Own h (slC false e sz (Bz9 a) n n cs::r):=by
 cases a with
 | none=>obtain ⟨rfl,rfl,rfl,hs⟩:=o.slNone;exact o
 | some x =>
  obtain ⟨b,o',sp⟩:=x
  obtain ⟨pre,post,o2,h1,h2,h3,h4,h5,h6,h7⟩:=o.slOpen
  refine Own.slShut (b:=b) (o:=o') (sp:=none) o2 ⟨h1,by omega,by simp,fun h=>h4 (by omega),fun h=>absurd rfl h,h6,fun h=>?_⟩
  rcases Nat.eq_zero_or_pos c with hc|hc
  ·exact h7 hc
  ·have:=h4 hc;omega
theorem H28 {l:List HP} {h:H} {α:Type} {Q:α→H→Prop} {ro:Bool} {e:TypeId} {sz:Nat} {a:Option Addr} {n c:Nat} {cs:List Value} {z:Option (α × H)} (i:Nat) (hi:l[i]?=some (slC ro e sz a n c cs)) (m:Nat) (cs':List Value) (hm:m≤n) (hc:cs.take (m*sz)=cs')
  (k:Tr (l.set i (slC ro e sz a m c cs')) h z Q):Tr l h z Q:=fun o=>by
 subst hc;exact k (Own.back (h:=h) hi (Ir8 m hm (o.front hi)))
theorem Hn3 (a:Option Addr) (n c:Nat) (cs:List Value):Ct B2 V0 [.slice a n c] [slC false A7 1 a n c cs] fun v own=>v=.slice (Bz9 a) n n∧own [slC false A7 1 (Bz9 a) n n cs]:=by
 refine Ct.of Dk3 rfl fun h r=>Tr.eq (Dl4 ..) ?_;refine Je ?_
 refine U6 0 rfl fun hl hc _=>?_
 simp only [Int.toNat_natCast]
 (refine Ja ?_;unhygienic intros)
 refine Ys fun o=>?_
 refine ⟨?_,Ir2 o⟩
 simp
abbrev bytesN (p:PipeS) (i:Nat):List UInt8:=(List.range i).map fun (j:Nat)=>p.data.getD (((p.head+j)%32).toNat) 0
abbrev G5 (p:PipeS):List UInt8:=bytesN p p.count.toNat
theorem V5 {p:PipeS} (h:okP p=true):(0≤p.head∧p.head≤31)∧(0≤p.count∧p.count≤32)∧(0≤p.readers∧p.readers≤8)∧(0≤p.writers∧p.writers≤8):=by
 simp only [okP,Bool.and_eq_true,decide_eq_true_eq] at h;omega
theorem Hn2 {l:List UInt8} {j:Nat} (h:j<l.length):(A5 l)[j]?=some (.int .u8 (l.getD j 0).toNat):=by
 unfold A5
 rw [List.getElem?_map,List.getElem?_eq_getElem h,List.getD_eq_getElem?_getD,List.getElem?_eq_getElem h];rfl
theorem H40 (p:PipeS) {j:Nat} (h:j<32):(E3 p)[4+j]?=some (.int .u8 (p.data.getD j 0).toNat):=by
 rw [show 4+j=j+4 by omega]
 exact Hn2 (by rw [p.len];exact h)
theorem Eq1 (b:Nat) (p:PipeS) (hp:okP p=true):∀ (m i:Nat) (a:Option Addr) (ac:Nat),(i:Int)+m=p.count→CtJ I2 Ak9 Bg6 [(1,P0 b),(3,.slice a i ac),(9,int p.count),(10,int i)] [pt b (.cells D1 false (E3 p)),slC false A7 1 a i ac (A5 (bytesN p i))] fun v own =>
  ∃ a' c',v=.slice a' p.count.toNat c'∧own [slC false A7 1 a' p.count.toNat c' (A5 (G5 p))]
 | 0,i,a,ac,hi=>by
  obtain rfl:i=p.count.toNat:=by omega
  refine CtJ.of Dn0 fun h r=>Tr.eq (Dx3 ..) ?_;refine Je ?_
  refine Yf (by simp;omega) ?_
  refine Ys fun o=>?_
  exact ⟨a,ac,rfl,o.sub⟩
 | m+1,i,a,ac,hi=>by
  obtain ⟨r1,r2,r3,r4⟩:=V5 hp
  have e1:IntKind.wrap .i64 ((i:Int)+1)=((i+1:Nat):Int):=by rw [B3];omega
  have e2:IntKind.wrap .i64 (p.head+i)=p.head+i:=by rw [B3];omega
  have hg:=H40 p (j:=((p.head+i)%32).toNat) (by omega)
  refine CtJ.of Dn0 fun h r=>Tr.eq (Dx3 ..) ?_;refine Je ?_
  refine Yt (by simp;omega) ?_
  rw [e1]
  (refine Ja ?_;unhygienic intros)
  rw [e2,Hu8 (show 0≤p.head+(i:Int) by omega)]
  (refine Ja ?_;unhygienic intros)
  refine U6 2 rfl fun hl hc _=>?_
  refine Tr.xApd (new:=A5 [p.data.getD (((p.head+i)%32).toNat) 0]) ⟨rfl,rfl,by simp only [B4];omega⟩ fun a2 c2 h=>?_
  have H:=Eq1 b p hp m (i+1) a2 c2 (by omega)
  refine (?_:Tr (pt b_1 _::pt b _::slC false A7 1 a2 (i+1) c2 (A5 (bytesN p i)++A5 [p.data.getD (((p.head+i)%32).toNat) 0])::_) _ _ _)
  rw [← Io8,show bytesN p i++[p.data.getD (((p.head+i)%32).toNat) 0]=bytesN p (i+1) by unfold bytesN;rw [List.range_succ,List.map_append];rfl]
  refine At1 [1,1] 1 rfl rfl ?_
  exact Yr H fun v h q=>q
theorem A84 (p:PipeS):(G5 p).length=p.count.toNat:=by simp [G5]
theorem H39 (p:PipeS) (hp:okP p=true):Ct B2 Ak9 [.agg ⟨E3 p⟩] [] fun v own=>∃ a c,v=.slice a p.count.toNat c∧own [slC false A7 1 a p.count.toNat c (A5 (G5 p))]:=by
 refine Ct.of Dn0 rfl fun h r=>Tr.eq (G77 ..) ?_;refine Je ?_
 (refine Ja ?_;unhygienic intros)
 refine Yc (G57 p) ?_;rintro _ h ⟨rfl,o⟩<;>refine Jh o ?_
 rw [hp]
 (refine Ja ?_;unhygienic intros)
 refine H1 false A7 1 (by omega) ?_
 have H:=fun b=>Eq1 b p hp p.count.toNat 0 none 0 (by have:=V5 hp;omega)
 refine (?_:Tr (slC false A7 1 none 0 0 (A5 (bytesN p 0))::_) _ _ _)
 exact Yr (H _) fun v h q=>q
abbrev A38 (p:PipeS) (m:Nat):PipeS:=if 0<m then ⟨(p.head+m)%32,p.count-m,p.readers,p.writers,p.data,p.len⟩ else p
theorem H98 (p:PipeS) (hp:okP p=true) (n:Int) (hn:0≤n∧n≤32):Ct B2 Da2 [.agg ⟨E3 p⟩,int n] [] fun v own=>∃ a c,v=.tuple ⟨[.agg ⟨E3 (A38 p (min n.toNat p.count.toNat))⟩,.slice a (min n.toNat p.count.toNat) c]⟩∧own [slC false A7 1 a (min n.toNat p.count.toNat) c (A5 ((G5 p).take (min n.toNat p.count.toNat)))]:=by
 obtain ⟨r1,r2,r3,r4⟩:=V5 hp
 refine Ct.of Hg4 rfl fun h r=>Tr.eq (Hg1 ..) ?_;refine Je ?_
 (refine Ja ?_;unhygienic intros)
 refine Yc (H39 p hp) ?_
 rintro _ h ⟨a,c,rfl,o⟩
 refine Jh o ?_
 refine Tr.dx ?_
 simp only [V6,Aa7]
 have e:min (max n 0) ((p.count.toNat:Nat):Int)=((min n.toNat p.count.toNat:Nat):Int):=by omega
 have hle:min n.toNat p.count.toNat≤p.count.toNat:=by omega
 rw [e]
 simp only [Int.toNat_natCast]
 generalize min n.toNat p.count.toNat=m at hle
 refine U6 0 rfl fun hl hc _=>?_
 (refine Ja ?_;unhygienic intros)
 refine H28 0 rfl m (A5 ((G5 p).take m)) hle (by rw [Nat.mul_one,Ih4]) ?_
 refine (?_:Tr (slC false A7 1 a m c (A5 ((G5 p).take m))::_::_::_) _ _ _)
 by_cases hm:0<m
 ·rw [show A38 p m=⟨(p.head+m)%32,p.count-m,p.readers,p.writers,p.data,p.len⟩ from if_pos hm]
  refine Yt (by simpa using hm) ?_
  (refine Ja ?_;unhygienic intros)
  rw [show Int.tmod (IntKind.wrap .i64 (p.head+m)) 32=(p.head+m)%32 by rw [show IntKind.wrap .i64 (p.head+m)=p.head+m by rw [B3];omega,Hu8 (show 0≤p.head+(m:Int) by omega)],show IntKind.wrap .i64 (p.count-m)=p.count-m by rw [B3];omega]
  refine (?_:Tr (_::_::pt _ (.cells D1 false (E3 ⟨(p.head+m)%32,p.count-m,p.readers,p.writers,p.data,p.len⟩))::_) _ _ _)
  generalize (⟨(p.head+m)%32,p.count-m,p.readers,p.writers,p.data,p.len⟩:PipeS)=q
  (refine Ja ?_;unhygienic intros)
  refine Yc (Hn3 a m c (A5 ((G5 p).take m))) ?_;rintro _ h ⟨rfl,o⟩<;>refine Jh o ?_
  (refine Ja ?_;unhygienic intros)
  refine Ys fun o=>?_
  exact ⟨Bz9 a,m,rfl,o.sub⟩
 ·rw [show A38 p m=p from if_neg hm]
  refine Yf (by simpa using hm) ?_
  (refine Ja ?_;unhygienic intros)
  refine Yc (Hn3 a m c (A5 ((G5 p).take m))) ?_;rintro _ h ⟨rfl,o⟩<;>refine Jh o ?_
  (refine Ja ?_;unhygienic intros)
  refine Ys fun o=>?_
  exact ⟨Bz9 a,m,rfl,o.sub⟩
theorem H06 (p:PipeS) {j:Nat} (h:j<32) (x:UInt8):D09 (E3 p) (4+j) (.int .u8 x.toNat)=some (E3 ⟨p.head,p.count,p.readers,p.writers,p.data.set j x,by rw [List.length_set];exact p.len⟩):=by
 have e:Nat.blt (4+j) (E3 p).length=true:=by rw [Ad2 p.len];exact Nat.ble_eq_true_of_le (by omega)
 unfold D09
 rw [e,show 4+j=j+4 by omega]
 show some ((E3 p).set (j+4) _)=_
 simp only [E3,List.set_cons_succ,A5,List.map_set]
abbrev Av1 (p:PipeS) (b:UInt8):PipeS:=⟨p.head,p.count+1,p.readers,p.writers,p.data.set (((p.head+p.count)%32).toNat) b,by rw [List.length_set];exact p.len⟩
def I4:PipeS→List UInt8→PipeS × Int
 | p,[]=>(p,0)
 | p,b::l=>if p.count=32 then (p,0) else ((I4 (Av1 p b) l).1,(I4 (Av1 p b) l).2+1)
theorem Gt5:∀ (l:List UInt8) (p:PipeS),0≤(I4 p l).2∧(I4 p l).2≤l.length
 | [],p=>by simp [I4]
 | b::l,p=>by
  have:=Gt5 l (Av1 p b)
  unfold I4;split<;>simp<;>omega
theorem E76 {p:PipeS} (h:okP p=true) (hc:p.count≠32) (b:UInt8):okP (Av1 p b)=true:=by
 have:=V5 h
 simp only [okP,Bool.and_eq_true,decide_eq_true_eq] at h ⊢;omega
theorem Gf6 (b1 b2:Nat) (pb:HP) (a:Option Addr) (ro:Bool) (cc:Nat) (l:List UInt8) (hl:l.length≤1000) [ks:IsSl pb a ro A7 1 l.length cc (A5 l)] (z:PipeS):∀ (m i:Nat) (n:Int) (p:PipeS),okP p=true→i+m=l.length→0≤n→n≤i →
  CtJ I2 Ao5 Br9 [(2,P0 b1),(4,P0 b2),(6,int n),(13,.slice a l.length cc),(14,int l.length),(15,int i)] [pt b1 (.cells D1 false (E3 p)),pt b2 (.cells D1 false (E3 z)),pb] fun v own =>
   v=.tuple ⟨[.agg ⟨E3 (I4 p (l.drop i)).1⟩,int (n+(I4 p (l.drop i)).2)]⟩∧own [pb]
 | 0,i,n,p,hp,hi,h0,hn=>by
  rw [List.drop_eq_nil_of_le (by omega),show I4 p []=(p,0) from rfl,Int.add_zero]
  refine CtJ.of Ef9 fun h r=>Tr.eq (Ej5 ..) ?_;refine Je ?_
  refine Yf (by simp;omega) ?_
  (refine Ja ?_;unhygienic intros)
  refine Ys fun o=>?_
  exact ⟨rfl,o.sub⟩
 | m+1,i,n,p,hp,hi,h0,hn=>by
  obtain ⟨r1,r2,r3,r4⟩:=V5 hp
  have hil:i<l.length:=by omega
  have hg:=Hn2 hil
  have hd:l.drop i=l.getD i 0::l.drop (i+1):=by
   rw [List.drop_eq_getElem_cons hil,List.getD_eq_getElem?_getD,List.getElem?_eq_getElem hil];rfl
  rw [hd,I4]
  generalize l.getD i 0=x at hg
  have e1:IntKind.wrap .i64 ((i:Int)+1)=((i+1:Nat):Int):=by rw [B3];omega
  have e2:IntKind.wrap .i64 (n+1)=n+1:=by rw [B3];omega
  refine CtJ.of Ef9 fun h r=>Tr.eq (Ej5 ..) ?_;refine Je ?_
  refine Yt (by simp;omega) ?_
  rw [e1,e2]
  simp only [Int.toNat_natCast]
  (refine Ja ?_;unhygienic intros;repeat(refine Gw ?_;rintro px rfl;refine Ja ?_;unhygienic intros))
  by_cases hc:p.count=32
  ·rw [if_pos hc]
   refine Yt (by simpa using hc) ?_
   (refine Ja ?_;unhygienic intros)
   refine Ys fun o=>?_
   rw [Int.add_zero]
   exact ⟨rfl,o.sub⟩
  rw [if_neg hc]
  refine Yf (by simpa using hc) ?_
  have e3:Int.tmod (IntKind.wrap .i64 (p.head+p.count)) 32=(p.head+p.count)%32:=by
   rw [show IntKind.wrap .i64 (p.head+p.count)=p.head+p.count by rw [B3];omega,Hu8 (show 0≤p.head+p.count by omega)]
  have hs:=H06 p (j:=((p.head+p.count)%32).toNat) (by omega) x
  have H:=Gf6 b1 b2 pb (some px) ro cc l hl z m (i+1) (n+1) (Av1 p x) (E76 hp hc x) (by omega) (by omega) (by omega)
  (refine Ja ?_;unhygienic intros)
  rw [e3]
  (refine Ja ?_;unhygienic intros)
  dsimp only
  rw [show IntKind.wrap .i64 (p.count+1)=p.count+1 by rw [B3];omega]
  refine (?_:Tr (pt b1 (.cells D1 false (E3 (Av1 p x)))::pt b2 (.cells D1 false (E3 z))::pb::_) _ _ _)
  refine Yr H ?_
  intro v h q
  obtain ⟨rfl,o⟩:=q
  exact ⟨by rw [Int.add_right_comm,Int.add_assoc],o⟩
theorem Gl7 (p:PipeS) (hp:okP p=true) (pb:HP) (a:Option Addr) (ro:Bool) (cc:Nat) (l:List UInt8) (hl:l.length≤1000) [ks:IsSl pb a ro A7 1 l.length cc (A5 l)] :
  Ct B2 Ao5 [.agg ⟨E3 p⟩,.slice a l.length cc] [pb] fun v own=>v=.tuple ⟨[.agg ⟨E3 (I4 p l).1⟩,int (I4 p l).2]⟩∧own [pb]:=by
 refine Ct.of Ef9 rfl fun h r=>Tr.eq (Ho9 ..) ?_;refine Je ?_
 (refine Ja ?_;unhygienic intros)
 refine Yc (G57 p) ?_;rintro _ h ⟨rfl,o⟩<;>refine Jh o ?_
 rw [hp]
 (refine Ja ?_;unhygienic intros)
 have H:=fun b1 b2=>Gf6 b1 b2 pb a ro cc l hl .zero l.length 0 0 p hp (by omega) (by omega) (by omega)
 rw [List.drop_zero,Int.zero_add] at H
 refine (?_:Tr (pt _ (.cells D1 false (E3 .zero))::pt _ (.cells D1 false (E3 p))::pb::_) _ _ _)
 exact Yr (H _ _) fun v h q=>q
abbrev vT (X:CX):PipeS × Int:=Q8 (rd X ⟨4,0⟩)
theorem Ie0 {nc:Nat}:Rin nc ⟨4,0⟩:=⟨by simp,by simp,by simp,by simp [U8]⟩
theorem Gj8 {nc:Nat} {X:CX} (c:Clean nc X) {i:Int} (h:0≤i∧i<3+nc) {q:PipeS} (ok:okP q=true):vT (A04 X i q)=vT X:=by
 have hl:(I8 q).length=R0 (3:Int):=by rw [A07 q.len];rfl
 show Q8 (rd _ _)=_
 rw [Ak7 c (Bi6 h) Ie0 hl,if_neg (by simp)]
theorem Bk2 (e:Int):Ct B2 M0 [int e] [] fun v own=>v=.agg ⟨H7 0 e false⟩∧own []:=by
 refine Ct.of Hd1 rfl fun h r=>Tr.eq (G00 ..) ?_;refine Je ?_
 (refine Ja ?_;unhygienic intros)
 refine Ys fun o=>?_
 exact ⟨rfl,o.tail⟩
theorem E77 (f:FileS):Ct B2 Aw7 [.agg ⟨Af4 f⟩] [] fun v own=>v=.agg ⟨if f.flags=1 then H7 0 111 false else H7 0 0 true⟩∧own []:=by
 refine Ct.of Gx4 rfl fun h r=>Tr.eq (Gw1 ..) ?_;refine Je ?_
 (refine Jb ?_;unhygienic intros)
 by_cases h1:f.flags=1
 ·rw [if_pos h1]
  refine Yt (by simpa using h1) ?_
  refine Yc (Bk2 111) ?_;rintro _ h ⟨rfl,o⟩<;>(refine Jf o ?_;unhygienic intros)
  refine Ys fun o=>?_
  exact ⟨rfl,o.sub⟩
 ·rw [if_neg h1]
  refine Yf (by simpa using h1) ?_
  (refine Ja ?_;unhygienic intros)
  refine Ys fun o=>?_
  exact ⟨rfl,o.sub⟩
abbrev Dk4 (b b1:Nat):Value:=.func (.func A44) ⟨[]⟩ ⟨[P0 b,P0 b1]⟩
theorem Gn1 (c k b b1:Nat) (F:Fr) (X:CX) (ok:FrOk F) (f:FileS) (q:PipeS):Ct B2 A44 [.agg ⟨E3 q⟩,P0 b,P0 b1] [cmC c k F X,pt b (.cells P8 false [P0 c]),pt b1 (.cells D5 false (Af4 f))] fun v own =>
  v=.bool (Ba2 X f.pipe q).1∧own [cmC c k F (Ba2 X f.pipe q).2,pt b (.cells P8 false [P0 c]),pt b1 (.cells D5 false (Af4 f))]:=by
 refine Ct.of G73 rfl fun h r=>Tr.eq (G49 ..) ?_;refine Je ?_
 (refine Ja ?_;unhygienic intros)
 refine Yc (Dy9 c k F X ok f.pipe q) ?_;rintro _ h ⟨rfl,o⟩<;>(refine Jf o ?_;unhygienic intros)
 refine Ys fun o=>?_
 exact ⟨rfl,o.sub⟩
def Al4 (q:PipeS) (v:Value):List Value:=E3 q++[v]
theorem Dr3 (q:PipeS) (v:Value):(Al4 q v).length=37:=by unfold Al4;rw [List.length_append,Ad2 q.len];rfl
theorem Ic9 (q:PipeS) (x:Fn) (y z:Array Value):(Al4 q (.func x y z)).all Value.oneCell=true:=by unfold Al4;rw [List.all_append,Gs7];rfl
instance {q:PipeS} {v:Value}:LenC (Al4 q v) 37:=⟨Dr3 q v⟩
instance {q:PipeS} {v:Value}:PartC (Al4 q v) 0 37 (Al4 q v):=⟨Dc2 (Dr3 q v)⟩
instance {q:PipeS} {v:Value}:PartC (Al4 q v) 0 36 (E3 q):=⟨by
 unfold Di6
 rw [Nat.ble_eq_true_of_le (by rw [Dr3];omega),List.drop_zero]
 unfold Al4
 rw [List.take_left' (Ad2 q.len)];rfl⟩
instance {q:PipeS} {x:Fn} {y z:Array Value} {cs:List Value} [k:LenC cs 37]:SetsC cs 0 (Al4 q (.func x y z)) (Al4 q (.func x y z)):=⟨Bk0 k.ok (Dr3 q _) (Ic9 q x y z)⟩
theorem Hd2 (c k:Nat) (F:Fr) (X:CX) (ok:FrOk F) {nc:Nat} (cl:Clean nc X) (f:FileS) (h3:f.kind≠3) (hp:0≤f.pipe∧f.pipe<3+nc):Ct B2 By5 [P0 c,.agg ⟨Af4 f⟩] [cmC c k F X] fun v own =>
  ∃ b b1,v=.tuple ⟨[.agg ⟨Al4 (vP X f.pipe).1 (Dk4 b b1)⟩,.bool ((vP X f.pipe).2==1)]⟩∧own [cmC c k F X,pt b (.cells P8 false [P0 c]),pt b1 (.cells D5 false (Af4 f))]:=by
 refine Ct.of Hv4 rfl fun h r=>Tr.eq (Hr3 ..) ?_;refine Je ?_
 refine Yn fun b h=>?_
 refine Yn fun b1 h=>?_
 refine Yn fun b2 h=>?_
 (refine Ja ?_;unhygienic intros)
 refine Yf (by simpa using h3) ?_
 (refine Ja ?_;unhygienic intros)
 refine Yc (Ea0 c k F X ok f.pipe) ?_;rintro _ h ⟨rfl,o⟩<;>refine Jh o ?_
 rw [B97 cl hp]
 dsimp only
 generalize (vP X f.pipe).1=q
 (refine Jc ?_;unhygienic intros)
 refine Yn fun b3 h=>?_
 (refine Jc ?_;unhygienic intros)
 refine Tr.ck (Dr3 q _) ?_
 refine (?_:Tr _ _ (pAgg ⟨b2,0,none⟩ (Al4 q (Dk4 b b1)) _ _) _)
 (refine Ja ?_;unhygienic intros)
 refine Ys fun o=>?_
 exact ⟨b,b1,rfl,o.sub⟩
def Z5 (V:VW) (i fd n:Int):FileS × Int :=
 if (ofW V i fd).2≠0 then ((ofW V i fd).1.2,(ofW V i fd).2)
 else if (ofW V i fd).1.2.kind=2 then ((ofW V i fd).1.2,109)
 else if n<0∨n>32 then ((ofW V i fd).1.2,122)
 else ((ofW V i fd).1.2,0)
theorem Ip4 (c k:Nat) (F:Fr) (X:CX) (ok:FrOk F) (V:VW) (A:See X V) (i fd n:Int) (hi:0≤i∧i<8) (h3:(ofW V i fd).1.2.kind≠3):Ct B2 Da0 [P0 c,int i,int fd,int n] [cmC c k F X] fun v own=>v=.tuple ⟨[.agg ⟨Af4 (Z5 V i fd n).1⟩,int (Z5 V i fd n).2]⟩∧own [cmC c k F X]:=by
 have eo:=A.ofv hi fd
 unfold Z5
 refine Ct.of Hg7 rfl fun h r=>Tr.eq (Hg8 ..) ?_;refine Je ?_
 refine Yn fun b0 h=>?_
 refine Yc (Gy4 c k F X ok A.c i fd hi) ?_;rintro _ h ⟨rfl,o⟩<;>refine Jh o ?_
 rw [eo]
 (refine Jc ?_;unhygienic intros)
 refine Yn fun b1 h=>?_
 (refine Jb ?_;unhygienic intros)
 generalize (ofW V i fd).1.2=x at *
 generalize (ofW V i fd).2=e at *
 by_cases h1:e=0
 case neg =>
  rw [if_pos h1]
  refine Yt (by simpa using h1) ?_
  (refine Ja ?_;unhygienic intros)
  refine Ys fun o=>?_
  exact ⟨rfl,o.sub⟩
 have n1:¬ e≠0:=by simpa using h1
 rw [if_neg n1]
 refine Yf (by simpa using h1) ?_
 (refine Ja ?_;unhygienic intros)
 by_cases h2:x.kind=2
 ·rw [if_pos h2]
  refine Yt (by simpa using h2) ?_
  (refine Ja ?_;unhygienic intros)
  refine Ys fun o=>?_
  exact ⟨rfl,o.sub⟩
 rw [if_neg h2]
 refine Yf (by simpa using h2) ?_
 by_cases h4:n<0
 ·rw [if_pos (.inl h4)]
  refine Yb (Yt (by simpa using h4) ?_)
  refine Ys fun o=>(?_:Tr _ _ _ _) o;refine Je ?_
  refine Yt rfl ?_
  (refine Ja ?_;unhygienic intros)
  refine Ys fun o=>?_
  exact ⟨rfl,o.sub⟩
 refine Yb (Yf (by simpa using h4) ?_)
 refine Ys fun o=>(?_:Tr _ _ _ _) o;refine Je ?_
 by_cases h5:n>32
 ·rw [if_pos (.inr h5)]
  refine Yt (by simpa using h5) ?_
  (refine Ja ?_;unhygienic intros)
  refine Ys fun o=>?_
  exact ⟨rfl,o.sub⟩
 rw [if_neg (fun h=>h.elim h4 h5)]
 refine Yf (by simpa using h5) ?_
 (refine Ja ?_;unhygienic intros)
 refine Yf (by simpa using h3) ?_
 (refine Ja ?_;unhygienic intros)
 refine Ys fun o=>?_
 exact ⟨rfl,o.sub⟩
structure RdS where
 bs:List UInt8
 e:Int
 blk:Bool
def A30 (V:VW) (i fd n:Int):RdS × VW :=
 if (Z5 V i fd n).2≠0∨n=0 then (⟨[],(Z5 V i fd n).2,false⟩,V)
 else if (V.P (Z5 V i fd n).1.pipe).2≠1 then (⟨[],105,false⟩,V)
 else if (V.P (Z5 V i fd n).1.pipe).1.count=0 then
  if (Z5 V i fd n).1.kind=1∧(V.P (Z5 V i fd n).1.pipe).1.writers=0 then (⟨[],0,false⟩,V)
  else if (Z5 V i fd n).1.flags=1 then (⟨[],111,false⟩,V) else (⟨[],0,true⟩,V)
 else (⟨(G5 (V.P (Z5 V i fd n).1.pipe).1).take (min n.toNat (V.P (Z5 V i fd n).1.pipe).1.count.toNat),0,false⟩,
  wP V (Z5 V i fd n).1.pipe (A38 (V.P (Z5 V i fd n).1.pipe).1 (min n.toNat (V.P (Z5 V i fd n).1.pipe).1.count.toNat)))
theorem E84 {p:PipeS} (h:okP p=true) {m:Nat} (hm:m≤p.count.toNat):okP (A38 p m)=true:=by
 have:=V5 h
 unfold A38
 split
 ·simp only [okP,Bool.and_eq_true,decide_eq_true_eq];omega
 ·exact h
theorem Ea1 (c k:Nat) (F:Fr) (X:CX) (ok:FrOk F) (V:VW) (A:See X V) (i fd n:Int) (hi:0≤i∧i<8) (h3:(ofW V i fd).1.2.kind≠3) (hp:(Z5 V i fd n).2=0→0≤(Z5 V i fd n).1.pipe∧(Z5 V i fd n).1.pipe<6) :
  Ct B2 As9 [P0 c,int i,int fd,int n] [cmC c k F X] fun v own=>∃ a cap X',See X' (A30 V i fd n).2∧vT X'=vT X ∧
   v=.agg ⟨[int (A30 V i fd n).1.bs.length,int (A30 V i fd n).1.e,.slice a (A30 V i fd n).1.bs.length cap,.bool (A30 V i fd n).1.blk]⟩ ∧
   own [cmC c k F X',slC false A7 1 a (A30 V i fd n).1.bs.length cap (A5 (A30 V i fd n).1.bs)]:=by
 have nil:∀ {h:NN.H} {r:List HP},Own h (cmC c k F X::r)→Own h (cmC c k F X::slC false A7 1 none 0 0 (A5 [])::r):=fun o=>(o.slNil false A7 (by omega)).perm (List.Perm.swap _ _ _)
 have hk3:(Z5 V i fd n).2=0→(Z5 V i fd n).1.kind≠3:=by
  intro h;unfold Z5 at h ⊢;repeat' split
  all_goals exact h3
 have hn:(Z5 V i fd n).2=0→0≤n∧n≤32:=by
  intro h;unfold Z5 at h
  split at h
  ·rename_i h1;exact absurd h h1
  ·split at h
   ·cases h
   ·split at h
    ·cases h
    ·omega
 unfold A30
 refine Ct.of G71 rfl fun h r=>Tr.eq (G76 ..) ?_;refine Je ?_
 refine Yn fun b0 h=>?_
 refine Yc (Ip4 c k F X ok V A i fd n hi h3) ?_;rintro _ h ⟨rfl,o⟩<;>refine Jh o ?_
 generalize (Z5 V i fd n).1=x at *
 generalize (Z5 V i fd n).2=e at *
 (refine Jc ?_;unhygienic intros)
 refine Yn fun b1 h=>?_
 (refine Jb ?_;unhygienic intros)
 by_cases h1:e≠0∨n=0
 ·rw [if_pos h1]
  have hg:∀ {h:NN.H} {r:List HP},Tr (pt b1 (.cells D5 false (Af4 x))::cmC c k F X::pt b0 (.cells L5 false (H7 0 0 false))::r) h (bnd (B2 M0 [int e] h) fun r_3 hv_5=>aAgg r_3 fun x_2=>ck (List.length x_2=4) (pAgg ⟨b0,0,none⟩ x_2 hv_5 fun hv_6=>gAgg ⟨b0,0,none⟩ 4 hv_6 fun x_3=>some (Value.agg ⟨x_3⟩,hv_6)))
   fun (v:Value) h'=>∃ a cap X',See X' V∧vT X'=vT X∧v=.agg ⟨[int 0,int e,.slice a 0 cap,.bool false]⟩∧Own h' (cmC c k F X'::slC false A7 1 a 0 cap (A5 [])::r):=by
   intro h r
   refine Yc (Bk2 e) ?_;rintro _ h ⟨rfl,o⟩<;>(refine Jf o ?_;unhygienic intros)
   refine Ys fun o=>?_
   exact ⟨none,0,X,A,rfl,rfl,nil o.sub⟩
  by_cases h2:e=0
  ·refine Yb (Yf (by simpa using h2) ?_)
   refine Ys fun o=>(?_:Tr _ _ _ _) o;refine Je ?_
   refine Yt (by simpa using h1.resolve_left (by simpa using h2)) ?_
   exact hg
  ·refine Yb (Yt (by simpa using h2) ?_)
   refine Ys fun o=>(?_:Tr _ _ _ _) o;refine Je ?_
   refine Yt rfl ?_
   exact hg
 rw [if_neg h1]
 have h2:e=0:=Classical.byContradiction fun h=>h1 (.inl h)
 have h0:n≠0:=fun h=>h1 (.inr h)
 have hpx:=hp h2
 have hnn:=hn h2
 have hkk:=hk3 h2
 subst h2
 refine Yb (Yf rfl ?_)
 refine Ys fun o=>(?_:Tr _ _ _ _) o;refine Je ?_
 refine Yf (by simpa using h0) ?_
 (refine Ja ?_;unhygienic intros)
 refine Yc (Hd2 c k F X ok A.c x hkk (by omega)) ?_
 rintro _ h ⟨b,b2,rfl,o⟩
 refine Jh o ?_
 have hvp:=A.p x.pipe hpx
 rw [hvp]
 have hq:(V.P x.pipe).2=1→okP (V.P x.pipe).1=true:=fun h=>by
  rcases Gx9 A.c (i:=x.pipe) (by omega) with ⟨h6,_⟩|⟨_,h6⟩
  ·rw [hvp,h] at h6;cases h6
  ·rw [hvp] at h6;exact h6
 generalize hqq:(V.P x.pipe).1=q at *
 generalize (V.P x.pipe).2=st at *
 (refine Jc ?_;unhygienic intros)
 refine Yn fun b3 h=>?_
 (refine Jb ?_;unhygienic intros)
 by_cases h5:st=1
 case neg =>
  rw [if_pos h5]
  refine Yt (by simpa using h5) ?_
  refine Yc (Bk2 105) ?_;rintro _ h ⟨rfl,o⟩<;>(refine Jf o ?_;unhygienic intros)
  refine Ys fun o=>?_
  exact ⟨none,0,X,A,rfl,rfl,nil o.sub⟩
 have n5:¬ st≠1:=by simpa using h5
 rw [if_neg n5]
 refine Yf (by simpa using h5) ?_
 replace hq:=hq h5
 obtain ⟨r1,r2,r3,r4⟩:=V5 hq
 (refine Jb ?_;unhygienic intros)
 by_cases h6:q.count=0
 ·rw [if_pos h6]
  refine Yb (Yt (by simpa using h6) ?_)
  (refine Jb ?_;unhygienic intros)
  have hw:∀ {h:NN.H} {r:List HP},Tr (pt b3 (.cells B00 false (Al4 q (Dk4 b b2)))::cmC c k F X::pt b (.cells P8 false [P0 c])::pt b2 (.cells D5 false (Af4 x))::pt b1 (.cells D5 false (Af4 x))::pt b0 (.cells L5 false (H7 0 0 false))::r) h
    (gAgg ⟨b1,0,none⟩ 4 h fun x_14=>bnd (B2 Aw7 [.agg ⟨x_14⟩] h) fun r_8 hv_15=>aAgg r_8 fun x_15=>ck (List.length x_15=4) (pAgg ⟨b0,0,none⟩ x_15 hv_15 fun hv_16=>gAgg ⟨b0,0,none⟩ 4 hv_16 fun x_16=>some (Value.agg ⟨x_16⟩,hv_16)))
    fun (v:Value) h'=>∃ a cap X',See X' (if x.flags=1 then ((⟨[],111,false⟩:RdS),V) else (⟨[],0,true⟩,V)).2∧vT X'=vT X∧v=.agg ⟨[int (if x.flags=1 then ((⟨[],111,false⟩:RdS),V) else (⟨[],0,true⟩,V)).1.bs.length,int (if x.flags=1 then ((⟨[],111,false⟩:RdS),V) else (⟨[],0,true⟩,V)).1.e,.slice a (if x.flags=1 then ((⟨[],111,false⟩:RdS),V) else (⟨[],0,true⟩,V)).1.bs.length cap,.bool (if x.flags=1 then ((⟨[],111,false⟩:RdS),V) else (⟨[],0,true⟩,V)).1.blk]⟩∧Own h' (cmC c k F X'::slC false A7 1 a (if x.flags=1 then ((⟨[],111,false⟩:RdS),V) else (⟨[],0,true⟩,V)).1.bs.length cap (A5 (if x.flags=1 then ((⟨[],111,false⟩:RdS),V) else (⟨[],0,true⟩,V)).1.bs)::r):=by
   intro h r
   (refine Ja ?_;unhygienic intros)
   refine Yc (E77 x) ?_;rintro _ h ⟨rfl,o⟩<;>refine Jh o ?_
   by_cases h7:x.flags=1
   ·rw [if_pos h7]
    (refine Ja ?_;unhygienic intros)
    refine Ys fun o=>?_
    rw [if_pos h7]
    exact ⟨none,0,X,A,rfl,rfl,nil o.sub⟩
   ·rw [if_neg h7]
    (refine Ja ?_;unhygienic intros)
    refine Ys fun o=>?_
    rw [if_neg h7]
    exact ⟨none,0,X,A,rfl,rfl,nil o.sub⟩
  by_cases h8:x.kind=1
  ·by_cases h9:q.writers=0
   ·rw [if_pos ⟨h8,h9⟩]
    refine Ys fun o=>(?_:Tr _ _ _ _) o;refine Je ?_
    refine Yb (Yt (by simpa using h8) ?_)
    (refine Jb ?_;unhygienic intros)
    refine Ys fun o=>(?_:Tr _ _ _ _) o;refine Je ?_
    refine Yt (by simpa using h9) ?_
    (refine Ja ?_;unhygienic intros)
    refine Ys fun o=>?_
    exact ⟨none,0,X,A,rfl,rfl,nil o.sub⟩
   ·rw [if_neg (fun h=>h9 h.2)]
    refine Ys fun o=>(?_:Tr _ _ _ _) o;refine Je ?_
    refine Yb (Yt (by simpa using h8) ?_)
    (refine Jb ?_;unhygienic intros)
    refine Ys fun o=>(?_:Tr _ _ _ _) o;refine Je ?_
    refine Yf (by simpa using h9) ?_
    (refine Jb ?_;unhygienic intros)
    refine Yt (by simpa using h6) ?_
    exact hw
  ·rw [if_neg (fun h=>h8 h.1)]
   refine Ys fun o=>(?_:Tr _ _ _ _) o;refine Je ?_
   refine Yb (Yf (by simpa using h8) ?_)
   refine Ys fun o=>(?_:Tr _ _ _ _) o;refine Je ?_
   refine Yf rfl ?_
   (refine Jb ?_;unhygienic intros)
   refine Yt (by simpa using h6) ?_
   exact hw
 rw [if_neg h6]
 refine Yb (Yf (by simpa using h6) ?_)
 refine Ys fun o=>(?_:Tr _ _ _ _) o;refine Je ?_
 refine Yb (Yf rfl ?_)
 refine Ys fun o=>(?_:Tr _ _ _ _) o;refine Je ?_
 refine Yf rfl ?_
 (refine Jb ?_;unhygienic intros)
 refine Yf (by simpa using h6) ?_
 (refine Ja ?_;unhygienic intros)
 refine Yc (H98 q hq n hnn) ?_
 rintro _ h ⟨a,cap,rfl,o⟩
 refine Jh o ?_
 have hm:min n.toNat q.count.toNat≤q.count.toNat:=by omega
 have hlen:((G5 q).take (min n.toNat q.count.toNat)).length=min n.toNat q.count.toNat:=by
  rw [List.length_take,A84];omega
 rw [hlen]
 have hok:=E84 hq hm
 generalize min n.toNat q.count.toNat=m at *
 obtain ⟨w1,_⟩:=As5 A.c (i:=x.pipe) (by omega) hok
 have hwp:=A.wp hpx hok
 have hvt:=Gj8 A.c (i:=x.pipe) (by omega) hok
 generalize A38 q m=q2 at *
 have hfv:(Al4 q (Dk4 b b2))[36]?=some (Dk4 b b2):=by
  unfold Al4;rw [List.getElem?_append_right (by rw [Ad2 q.len];exact Nat.le_refl _),Ad2 q.len];rfl
 (refine Jc ?_;unhygienic intros)
 refine Yn fun b4 h=>?_
 (refine Ja ?_;unhygienic intros)
 simp only [List.nil_append]
 refine Yc (Gn1 c k b b2 F X ok x q2) ?_;rintro _ h ⟨rfl,o⟩<;>refine Jh o ?_
 rw [w1]
 dsimp only
 (refine Ja ?_;unhygienic intros)
 refine Ys fun o=>?_
 exact ⟨a,cap,A04 X x.pipe q2,hwp,hvt,rfl,o.sub⟩
structure WrS where
 n:Int
 e:Int
 blk:Bool
def Dc0 (V:VW) (i fd:Int) (l:List UInt8):WrS × VW :=
 if (ofW V i fd).2≠0 then (⟨0,(ofW V i fd).2,false⟩,V)
 else if (ofW V i fd).1.2.kind≠2 then (⟨0,109,false⟩,V)
 else if l.length>32 then (⟨0,122,false⟩,V)
 else if l.length=0 then (⟨0,0,false⟩,V)
 else if (V.P (ofW V i fd).1.2.pipe).2≠1 then (⟨0,105,false⟩,V)
 else if 32-(V.P (ofW V i fd).1.2.pipe).1.count=0∨l.length≤8∧32-(V.P (ofW V i fd).1.2.pipe).1.count<l.length then
  if (ofW V i fd).1.2.flags=1 then (⟨0,111,false⟩,V) else (⟨0,0,true⟩,V)
 else (⟨(I4 (V.P (ofW V i fd).1.2.pipe).1 l).2,0,false⟩,wP V (ofW V i fd).1.2.pipe (I4 (V.P (ofW V i fd).1.2.pipe).1 l).1)
theorem Dn7:∀ (l:List UInt8) (p:PipeS),okP p=true→okP (I4 p l).1=true
 | [],p,h=>h
 | b::l,p,h=>by
  unfold I4
  split
  ·exact h
  ·rename_i hc;exact Dn7 l _ (E76 h hc b)
abbrev wrL (w:WrS):List Value:=H7 w.n w.e w.blk
theorem Dw6 (c k:Nat) (F:Fr) (X:CX) (ok:FrOk F) (V:VW) (A:See X V) (i fd:Int) (hi:0≤i∧i<8) (hp:(ofW V i fd).2=0→(ofW V i fd).1.2.kind=2→0≤(ofW V i fd).1.2.pipe∧(ofW V i fd).1.2.pipe<6∧(V.P (ofW V i fd).1.2.pipe).1.readers≠0)
  (pb:HP) (a:Option Addr) (ro:Bool) (cc:Nat) (l:List UInt8) (hl:l.length≤B4) [ks:IsSl pb a ro A7 1 l.length cc (A5 l)] :
  Ct B2 Ag5 [P0 c,int i,int fd,.slice a l.length cc] [cmC c k F X,pb] fun v own=>∃ X',See X' (Dc0 V i fd l).2∧vT X'=vT X∧v=.agg ⟨wrL (Dc0 V i fd l).1⟩∧own [cmC c k F X',pb]:=by
 have eo:=A.ofv hi fd
 unfold Dc0
 refine Ct.of Eh1 rfl fun h r=>Tr.eq (Ej7 ..) ?_;refine Je ?_
 refine Yn fun b0 h=>?_
 refine Yc (Gy4 c k F X ok A.c i fd hi) ?_;rintro _ h ⟨rfl,o⟩<;>refine Jh o ?_
 rw [eo]
 (refine Jc ?_;unhygienic intros)
 refine Yn fun b1 h=>?_
 (refine Jb ?_;unhygienic intros)
 generalize (ofW V i fd).1.2=x at *
 generalize (ofW V i fd).2=e at *
 by_cases h1:e=0
 case neg =>
  rw [if_pos h1]
  refine Yt (by simpa using h1) ?_
  refine Yc (Bk2 e) ?_;rintro _ h ⟨rfl,o⟩<;>(refine Jf o ?_;unhygienic intros)
  refine Ys fun o=>?_
  exact ⟨X,A,rfl,rfl,o.sub⟩
 have n1:¬ e≠0:=by simpa using h1
 rw [if_neg n1]
 refine Yf (by simpa using h1) ?_
 (refine Jb ?_;unhygienic intros)
 by_cases h2:x.kind=2
 case neg =>
  rw [if_pos h2]
  refine Yt (by simpa using h2) ?_
  refine Yc (Bk2 109) ?_;rintro _ h ⟨rfl,o⟩<;>(refine Jf o ?_;unhygienic intros)
  refine Ys fun o=>?_
  exact ⟨X,A,rfl,rfl,o.sub⟩
 have n2:¬ x.kind≠2:=by simpa using h2
 rw [if_neg n2]
 refine Yf (by simpa using h2) ?_
 obtain ⟨hp0,hp6,hrd⟩:=hp h1 h2
 by_cases h3:l.length>32
 ·rw [if_pos h3]
  refine Yt (by rw [decide_eq_true_iff];omega) ?_
  refine Yc (Bk2 122) ?_;rintro _ h ⟨rfl,o⟩<;>(refine Jf o ?_;unhygienic intros)
  refine Ys fun o=>?_
  exact ⟨X,A,rfl,rfl,o.sub⟩
 rw [if_neg h3]
 refine Yf (by rw [decide_eq_false_iff_not];omega) ?_
 by_cases h4:l.length=0
 ·rw [if_pos h4]
  refine Yt (by rw [beq_iff_eq];omega) ?_
  (refine Ja ?_;unhygienic intros)
  refine Ys fun o=>?_
  exact ⟨X,A,rfl,rfl,o.sub⟩
 rw [if_neg h4]
 refine Yf (by rw [beq_eq_false_iff_ne];omega) ?_
 (refine Ja ?_;unhygienic intros)
 refine Yc (Hd2 c k F X ok A.c x (by omega) (by omega)) ?_
 rintro _ h ⟨b,b2,rfl,o⟩
 refine Jh o ?_
 have hvp:=A.p x.pipe ⟨hp0,hp6⟩
 rw [hvp]
 have hq:(V.P x.pipe).2=1→okP (V.P x.pipe).1=true:=fun h=>by
  rcases Gx9 A.c (i:=x.pipe) (by omega) with ⟨h6,_⟩|⟨_,h6⟩
  ·rw [hvp,h] at h6;cases h6
  ·rw [hvp] at h6;exact h6
 generalize hqq:(V.P x.pipe).1=q at *
 generalize (V.P x.pipe).2=st at *
 (refine Jc ?_;unhygienic intros)
 refine Yn fun b3 h=>?_
 (refine Jb ?_;unhygienic intros)
 by_cases h5:st=1
 case neg =>
  rw [if_pos h5]
  refine Yt (by simpa using h5) ?_
  refine Yc (Bk2 105) ?_;rintro _ h ⟨rfl,o⟩<;>(refine Jf o ?_;unhygienic intros)
  refine Ys fun o=>?_
  exact ⟨X,A,rfl,rfl,o.sub⟩
 have n5:¬ st≠1:=by simpa using h5
 rw [if_neg n5]
 refine Yf (by simpa using h5) ?_
 replace hq:=hq h5
 obtain ⟨r1,r2,r3,r4⟩:=V5 hq
 have e1:IntKind.wrap .i64 (32-q.count)=32-q.count:=by rw [B3];omega
 (refine Jb ?_;unhygienic intros)
 refine Yf (by simpa using hrd) ?_
 (refine Jb ?_;unhygienic intros)
 rw [e1]
 by_cases a1:32-q.count=0
 ·rw [if_pos (.inl a1)]
  refine Yb (Yt (by rw [beq_iff_eq];exact a1) ?_)
  refine Ys fun o=>(?_:Tr _ _ _ _) o;refine Je ?_
  refine Yt rfl ?_
  (refine Ja ?_;unhygienic intros)
  refine Yc (E77 x) ?_;rintro _ h ⟨rfl,o⟩<;>refine Jh o ?_
  by_cases h7:x.flags=1
  ·rw [if_pos h7,if_pos h7]
   (refine Ja ?_;unhygienic intros)
   refine Ys fun o=>?_
   exact ⟨X,A,rfl,rfl,o.sub⟩
  ·rw [if_neg h7,if_neg h7]
   (refine Ja ?_;unhygienic intros)
   refine Ys fun o=>?_
   exact ⟨X,A,rfl,rfl,o.sub⟩
 refine Yb (Yf (by rw [beq_eq_false_iff_ne];exact a1) ?_)
 by_cases a2:l.length≤8
 ·by_cases a3:32-q.count<l.length
  ·rw [if_pos (.inr ⟨a2,a3⟩)]
   refine Yb (Yt (by rw [decide_eq_true_iff];omega) ?_)
   refine Ys fun o=>(?_:Tr _ _ _ _) o;refine Je ?_
   refine Ys fun o=>(?_:Tr _ _ _ _) o;refine Je ?_
   refine Yt (by rw [decide_eq_true_iff];exact a3) ?_
   (refine Ja ?_;unhygienic intros)
   refine Yc (E77 x) ?_;rintro _ h ⟨rfl,o⟩<;>refine Jh o ?_
   by_cases h7:x.flags=1
   ·rw [if_pos h7,if_pos h7]
    (refine Ja ?_;unhygienic intros)
    refine Ys fun o=>?_
    exact ⟨X,A,rfl,rfl,o.sub⟩
   ·rw [if_neg h7,if_neg h7]
    (refine Ja ?_;unhygienic intros)
    refine Ys fun o=>?_
    exact ⟨X,A,rfl,rfl,o.sub⟩
  ·rw [if_neg (fun h=>h.elim a1 fun h=>a3 h.2)]
   refine Yb (Yt (by rw [decide_eq_true_iff];omega) ?_)
   refine Ys fun o=>(?_:Tr _ _ _ _) o;refine Je ?_
   refine Ys fun o=>(?_:Tr _ _ _ _) o;refine Je ?_
   refine Yf (by rw [decide_eq_false_iff_not];exact a3) ?_
   (refine Ja ?_;unhygienic intros)
   refine Yc (Gl7 q hq pb a ro cc l (by omega)) ?_;rintro _ h ⟨rfl,o⟩<;>refine Jh o ?_
   have hok:=Dn7 l q hq
   obtain ⟨w1,_⟩:=As5 A.c (i:=x.pipe) (by omega) hok
   have hwp:=A.wp ⟨hp0,hp6⟩ hok
   have hvt:=Gj8 A.c (i:=x.pipe) (by omega) hok
   generalize (I4 q l).1=q2 at *
   have hfv:(Al4 q (Dk4 b b2))[36]?=some (Dk4 b b2):=by
    unfold Al4;rw [List.getElem?_append_right (by rw [Ad2 q.len];exact Nat.le_refl _),Ad2 q.len];rfl
   (refine Jc ?_;unhygienic intros)
   refine Yn fun b4 h=>?_
   (refine Ja ?_;unhygienic intros)
   simp only [List.nil_append]
   refine Yc (Gn1 c k b b2 F X ok x q2) ?_;rintro _ h ⟨rfl,o⟩<;>refine Jh o ?_
   rw [w1]
   dsimp only
   (refine Ja ?_;unhygienic intros)
   refine Ys fun o=>?_
   exact ⟨A04 X x.pipe q2,hwp,hvt,rfl,o.sub⟩
 ·rw [if_neg (fun h=>h.elim a1 fun h=>a2 h.1)]
  refine Yb (Yf (by rw [decide_eq_false_iff_not];omega) ?_)
  refine Ys fun o=>(?_:Tr _ _ _ _) o;refine Je ?_
  refine Ys fun o=>(?_:Tr _ _ _ _) o;refine Je ?_
  refine Yf rfl ?_
  (refine Ja ?_;unhygienic intros)
  refine Yc (Gl7 q hq pb a ro cc l (by omega)) ?_;rintro _ h ⟨rfl,o⟩<;>refine Jh o ?_
  have hok:=Dn7 l q hq
  obtain ⟨w1,_⟩:=As5 A.c (i:=x.pipe) (by omega) hok
  have hwp:=A.wp ⟨hp0,hp6⟩ hok
  have hvt:=Gj8 A.c (i:=x.pipe) (by omega) hok
  generalize (I4 q l).1=q2 at *
  have hfv:(Al4 q (Dk4 b b2))[36]?=some (Dk4 b b2):=by
   unfold Al4;rw [List.getElem?_append_right (by rw [Ad2 q.len];exact Nat.le_refl _),Ad2 q.len];rfl
  (refine Jc ?_;unhygienic intros)
  refine Yn fun b4 h=>?_
  (refine Ja ?_;unhygienic intros)
  simp only [List.nil_append]
  refine Yc (Gn1 c k b b2 F X ok x q2) ?_;rintro _ h ⟨rfl,o⟩<;>refine Jh o ?_
  rw [w1]
  dsimp only
  (refine Ja ?_;unhygienic intros)
  refine Ys fun o=>?_
  exact ⟨A04 X x.pipe q2,hwp,hvt,rfl,o.sub⟩
theorem Gt8 (l:List UInt8) (j n:Nat) (x:UInt8) (h:j<l.length):(l.set j x).getD n 0=if n=j then x else l.getD n 0:=by
 rw [List.getD_eq_getElem?_getD,List.getD_eq_getElem?_getD,List.getElem?_set]
 by_cases hj:j=n
 ·subst hj;simp [h]
 ·rw [if_neg hj,if_neg (fun e=>hj e.symm)]
theorem Hw8 {p:PipeS} (hp:okP p=true) (hc:p.count≠32) (b:UInt8):G5 (Av1 p b)=G5 p++[b]:=by
 obtain ⟨r1,r2,r3,r4⟩:=V5 hp
 have hl:=p.len
 have hj:((p.head+p.count)%32).toNat<p.data.length:=by rw [hl];omega
 have e:(Av1 p b).count.toNat=p.count.toNat+1:=by show (p.count+1).toNat=_;omega
 unfold G5
 rw [e]
 unfold bytesN
 rw [List.range_succ,List.map_append]
 congr 1
 ·refine List.map_congr_left fun j hj2=>?_
  have:=List.mem_range.1 hj2
  show (p.data.set _ b).getD (((p.head+j)%32).toNat) 0=_
  rw [Gt8 _ _ _ _ hj,if_neg (by omega)]
 ·show [(p.data.set _ b).getD (((p.head+(p.count.toNat:Nat))%32).toNat) 0]=[b]
  rw [Gt8 _ _ _ _ hj,if_pos (by rw [show ((p.count.toNat:Nat):Int)=p.count by omega])]
theorem Gr2:∀ (l:List UInt8) (p:PipeS),okP p=true→(I4 p l).2=min (l.length:Int) (32-p.count)∧(I4 p l).1.count=p.count+(I4 p l).2∧G5 (I4 p l).1=G5 p++l.take (I4 p l).2.toNat∧(I4 p l).1.readers=p.readers∧(I4 p l).1.writers=p.writers
 | [],p,h=>by
  have:=V5 h
  refine ⟨by show (0:Int)=min ((([]:List UInt8).length:Nat):Int) (32-p.count);rw [List.length_nil];omega,by simp [I4],by simp [I4],rfl,rfl⟩
 | b::l,p,h=>by
  have hr:=V5 h
  unfold I4
  by_cases hc:p.count=32
  ·rw [if_pos hc]
   refine ⟨by simp;omega,by simp,by simp,rfl,rfl⟩
  ·rw [if_neg hc]
   obtain ⟨h1,h2,h3,h4,h5⟩:=Gr2 l (Av1 p b) (E76 h hc b)
   have hn:=Gt5 l (Av1 p b)
   have hk:(Av1 p b).count=p.count+1:=rfl
   refine ⟨?_,?_,?_,h4,h5⟩
   ·show (I4 (Av1 p b) l).2+1=_
    rw [h1,hk,List.length_cons];omega
   ·show (I4 (Av1 p b) l).1.count=p.count+((I4 (Av1 p b) l).2+1)
    rw [h2,hk];omega
   ·show G5 (I4 (Av1 p b) l).1=G5 p++(b::l).take ((I4 (Av1 p b) l).2+1).toNat
    rw [h3,Hw8 h hc,show ((I4 (Av1 p b) l).2+1).toNat=(I4 (Av1 p b) l).2.toNat+1 by omega,List.take_succ_cons]
    simp
theorem Gg0 {p:PipeS} (hp:okP p=true) {m:Nat} (hm:m≤p.count.toNat):G5 (A38 p m)=(G5 p).drop m∧(A38 p m).count=p.count-m∧(A38 p m).readers=p.readers∧(A38 p m).writers=p.writers:=by
 obtain ⟨r1,r2,r3,r4⟩:=V5 hp
 by_cases h0:0<m
 case neg =>
  obtain rfl:m=0:=by omega
  rw [show A38 p 0=p from if_neg h0]
  exact ⟨by simp,by simp,rfl,rfl⟩
 rw [show A38 p m=⟨(p.head+m)%32,p.count-m,p.readers,p.writers,p.data,p.len⟩ from if_pos h0]
 refine ⟨?_,rfl,rfl,rfl⟩
 unfold G5 bytesN
 dsimp only
 rw [← List.map_drop,List.range_eq_range' ,List.range_eq_range',List.drop_range',Nat.mul_one,Nat.zero_add]
 rw [show (p.count-(m:Int)).toNat=p.count.toNat-m by omega]
 rw [show List.range' m (p.count.toNat-m)=(List.range' 0 (p.count.toNat-m)).map fun j=>m+j by rw [List.map_add_range'];rfl]
 rw [List.map_map]
 refine List.map_congr_left fun j hj=>?_
 show p.data.getD ((((p.head+m)%32+j)%32).toNat) 0=p.data.getD (((p.head+((m+j:Nat):Int))%32).toNat) 0
 congr 1
 omega
theorem Hj1 (c k:Nat) (F:Fr) (X:CX) (ok:FrOk F) (p:PipeS):Ct B2 O9 [P0 c,.agg ⟨E3 p⟩] [cmC c k F X] fun v own=>v=.bool (B68 X p).1∧own [cmC c k F (B68 X p).2]:=by
 refine Ct.of Dk5 rfl fun h r=>Tr.eq (Dk1 ..) ?_;refine Je ?_
 (refine Ja ?_;unhygienic intros)
 refine Yc (Ec6 p) ?_
 rintro v h (⟨hk,a,rfl,o⟩|⟨hk,rfl,o⟩)
 ·refine (?_:Tr _ _ _ _) o
  refine Je ?_
  (refine Ja ?_;unhygienic intros)
  have J:=Bg9 c k F X ⟨4,0⟩ ok (I8 p) true a 40 (fun _=>A07 p.len)
  rw [A07 p.len] at J
  refine Yc (J) ?_;rintro _ h ⟨rfl,o⟩<;>(refine Jf o ?_;unhygienic intros)
  refine Ys fun o=>?_
  unfold B68;rw [hk]
  exact ⟨rfl,o.sub⟩
 ·refine (?_:Tr _ _ _ _) o
  refine Je ?_
  (refine Ja ?_;unhygienic intros)
  refine Yc (Dk2 c k F X ⟨4,0⟩ ok) ?_;rintro _ h ⟨rfl,o⟩<;>(refine Jf o ?_;unhygienic intros)
  refine Ys fun o=>?_
  unfold B68;rw [hk,Ds2]
  exact ⟨rfl,o.sub⟩
theorem Is9 {nc:Nat} {X:CX} (c:Clean nc X):((vT X).2=0∧(vT X).1=.zero)∨((vT X).2=1∧okP (vT X).1=true):=by
 have:=c.ok ⟨4,0⟩ (by simp) (by simp) (by simp) (by simp [U8])
 have hk:(vT X).2≠2:=this
 unfold vT Q8 at hk ⊢
 split
 ·exact .inl ⟨rfl,rfl⟩
 ·split
  ·rename_i h2
   unfold isP at h2
   simp only [Bool.and_eq_true] at h2
   exact .inr ⟨rfl,h2.1⟩
  ·rename_i h1 h2;simp [h1,h2] at hk
theorem Hj4 {nc:Nat} {X:CX} (c:Clean nc X):Ed9 X=(vT X,X):=Bw1 Q8 .zero c Ie0 rfl
abbrev Iq7 (X:CX) (p:PipeS):CX:=Bt8 X ⟨4,0⟩ (I8 p)
theorem Gk5 {nc:Nat} {X:CX} (c:Clean nc X) {p:PipeS} (ok:okP p=true):B68 X p=(true,Iq7 X p):=by
 unfold B68;rw [ok];exact Bx0 c Ie0 _
theorem Ie8 (c k:Nat) (F:Fr) (X:CX) (ok:FrOk F) {nc:Nat} (cl:Clean nc X) (ht:(vT X).2=1) (pb:HP) (a:Option Addr) (ro:Bool) (cc:Nat) (l:List UInt8) (hl:l.length≤1000) [ks:IsSl pb a ro A7 1 l.length cc (A5 l)] :
  Ct B2 B06 [P0 c,.slice a l.length cc] [cmC c k F X,pb] fun v own=>v=int (I4 (vT X).1 l).2∧own [cmC c k F (Iq7 X (I4 (vT X).1 l).1),pb]:=by
 have hq:okP (vT X).1=true:=by
  rcases Is9 cl with ⟨h,_⟩|⟨_,h⟩
  ·rw [ht] at h;cases h
  ·exact h
 have hw:=Gk5 cl (Dn7 l _ hq)
 refine Ct.of G35 rfl fun h r=>Tr.eq (G81 ..) ?_;refine Je ?_
 refine Yc (Gj0 c k F X ok) ?_;rintro _ h ⟨rfl,o⟩<;>refine Jh o ?_
 rw [D94 cl]
 (refine Ja ?_;unhygienic intros)
 refine Yc (Hc7 c k F X ok) ?_;rintro _ h ⟨rfl,o⟩<;>refine Jh o ?_
 rw [Hj4 cl]
 dsimp only
 rw [ht]
 generalize (vT X).1=q at *
 (refine Jc ?_;unhygienic intros)
 refine Yn fun b1 h=>?_
 (refine Jb ?_;unhygienic intros)
 refine Yf rfl ?_
 (refine Jb ?_;unhygienic intros)
 refine Yc (Gl7 q hq pb a ro cc l hl) ?_;rintro _ h ⟨rfl,o⟩<;>refine Jh o ?_
 generalize (I4 q l).1=q2 at *
 (refine Jc ?_;unhygienic intros)
 refine Yn fun b2 h=>?_
 (refine Jb ?_;unhygienic intros)
 refine Yc (Hj1 c k F X ok q2) ?_;rintro _ h ⟨rfl,o⟩<;>refine Jh o ?_
 rw [hw]
 dsimp only
 (refine Jb ?_;unhygienic intros)
 refine Ys fun o=>?_
 exact ⟨rfl,o.sub⟩
theorem of2:ofW VD 0 2=((2,⟨2,0,1,0⟩),0):=by kernel_rfl
theorem vTD:(vT XD).2=1∧(vT XD).1.count=0:=⟨by kernel_rfl,by kernel_rfl⟩
def VA1:VW:=(Dc0 VD 0 2 [7,8,9]).2
def VA2:VW:=(A30 VA1 0 1 8).2
theorem aw1:(Dc0 VD 0 2 [7,8,9]).1=⟨3,0,false⟩:=by kernel_rfl
theorem aw2:(A30 VA1 0 1 8).1=⟨[7,8,9],0,false⟩:=by kernel_rfl
theorem aw3:(A30 VA2 0 1 8).1=⟨[],0,true⟩:=by kernel_rfl
theorem Ge8:Ct B2 Bd1 [] [] fun v own=>v=.bool true∧own []:=by
 refine Ct.of Gx0 rfl fun h r=>Tr.eq (Gv1 ..) ?_;refine Je ?_
 refine Yc (G09) ?_;rintro _ h ⟨a,rfl,o⟩<;>refine Jh o ?_
 (refine Ja ?_;unhygienic intros)
 refine Yc (Hn6 a) ?_
 rintro _ h ⟨k,c,w,m,K',rfl,o⟩
 refine Jh o ?_
 (refine Ja ?_;unhygienic intros)
 refine Yc (E70 c k F1 X1 Ai1 E72 0 (by omega)) ?_;rintro _ h ⟨rfl,o⟩<;>refine Jh o ?_
 rw [H02,show (Ax0 X1 0).2=XD from rfl]
 (refine Jc ?_;unhygienic intros)
 refine Yn fun b0 h=>?_
 refine Aa8 0 rfl 1 3 rfl (by omega) ?_
 have J:=Dw6 c k F1 XD Ai1 VD In1 0 2 (by omega) (fun _ _=>by rw [of2];exact ⟨by decide,by decide,by rw [show (VD.P (⟨2,0,1,0⟩:FileS).pipe).1.readers=1 by kernel_rfl];decide⟩) (slC false A7 1 (some ⟨b0,0,none⟩) 3 3 (A5 [7,8,9])) (some ⟨b0,0,none⟩) false 3 [7,8,9] (by simp [B4])
 rw [aw1] at J
 refine (?_:Tr (slC false A7 1 (some ⟨b0,0,none⟩) 3 3 (A5 [7,8,9])::cmC c k F1 XD::_) _ _ _)
 refine Yc J ?_
 rintro _ h ⟨XA,s1,t1,rfl,o⟩
 refine Jh o ?_
 (refine Jc ?_;unhygienic intros)
 refine Yn fun b1 h=>?_
 (refine Ja ?_;unhygienic intros)
 have o1:(ofW VA1 0 1)=((1,⟨1,0,1,0⟩),0):=by kernel_rfl
 have m1:Z5 VA1 0 1 8=(⟨1,0,1,0⟩,0):=by kernel_rfl
 have J:=Ea1 c k F1 XA Ai1 VA1 s1 0 1 8 (by omega) (by rw [o1];decide) (fun _=>by rw [m1];exact ⟨by decide,by decide⟩)
 rw [aw2] at J
 refine Yc J ?_
 rintro _ h ⟨a2,cap,XB,s2,t2,rfl,o⟩
 refine Jh o ?_
 (refine Jc ?_;unhygienic intros)
 refine Yn fun b2 h=>?_
 (refine Ja ?_;unhygienic intros)
 have o1:(ofW VA2 0 1)=((1,⟨1,0,1,0⟩),0):=by kernel_rfl
 have m1:Z5 VA2 0 1 8=(⟨1,0,1,0⟩,0):=by kernel_rfl
 have J:=Ea1 c k F1 XB Ai1 VA2 s2 0 1 8 (by omega) (by rw [o1];decide) (fun _=>by rw [m1];exact ⟨by decide,by decide⟩)
 rw [aw3] at J
 refine Yc J ?_
 rintro _ h ⟨a3,cap3,XC,s3,t3,rfl,o⟩
 refine Jh o ?_
 (refine Jc ?_;unhygienic intros)
 refine Yn fun b3 h=>?_
 (refine Jb ?_;unhygienic intros)
 refine Yb (Yt rfl ?_)
 (refine Jb ?_;unhygienic intros)
 refine Ys fun o=>(?_:Tr _ _ _ _) o;refine Je ?_
 refine Yb (Yt rfl ?_)
 (refine Jb ?_;unhygienic intros)
 refine Ys fun o=>(?_:Tr _ _ _ _) o;refine Je ?_
 refine Yb (Yt (by simp) ?_)
 (refine Jb ?_;unhygienic intros)
 refine Ys fun o=>(?_:Tr _ _ _ _) o;refine Je ?_
 refine Yb (Yt rfl ?_)
 refine Yn fun b4 h=>?_
 refine Aa8 0 rfl 1 1 rfl (by omega) ?_
 have ht:vT XC=vT XD:=t3.trans (t2.trans t1)
 have J:=Ie8 c k F1 XC Ai1 s3.c (by rw [ht];exact vTD.1) (slC false A7 1 (some ⟨b4,0,none⟩) 1 1 (A5 [1])) (some ⟨b4,0,none⟩) false 1 [1] (by simp)
 have hT:(I4 (vT XD).1 [1]).2=1:=by
  unfold I4;rw [if_neg (by rw [vTD.2];decide)];rfl
 rw [ht,hT] at J
 refine (?_:Tr (slC false A7 1 (some ⟨b4,0,none⟩) 1 1 (A5 [1])::_::cmC c k F1 XC::_) _ _ _)
 refine Yc J ?_
 rintro _ h ⟨rfl,o⟩
 refine Jh o ?_
 (refine Jb ?_;unhygienic intros)
 refine Ys fun o=>(?_:Tr _ _ _ _) o;refine Je ?_
 refine Ys fun o=>?_
 exact ⟨rfl,o.sub⟩
theorem Em8 (V:VW) (j:Int) (q:PipeS) (i fd:Int):ofW (wP V j q) i fd=ofW V i fd:=rfl
theorem H99 (V:VW) (j:Int) (q:PipeS):(wP V j q).P j=(q,1):=by
 show (if j=j then (q,(1:Int)) else V.P j)=_
 rw [if_pos rfl]
theorem If9 (V:VW) (j:Int) (q q':PipeS):wP (wP V j q) j q'=wP V j q':=by
 refine VW.ext' (fun _=>rfl) (fun _=>rfl) fun n=>?_
 show (if n=j then _ else if n=j then _ else _)=if n=j then _ else _
 by_cases h:n=j
 ·rw [if_pos h,if_pos h]
 ·rw [if_neg h,if_neg h,if_neg h]
theorem Ii8 {V:VW} {j:Int} {q:PipeS} (h:V.P j=(q,1)):wP V j q=V:=by
 refine VW.ext' (fun _=>rfl) (fun _=>rfl) fun n=>?_
 show (if n=j then _ else _)=_
 by_cases hn:n=j
 ·rw [if_pos hn,hn,h]
 ·rw [if_neg hn]
section
variable {V:VW} {i fd f r fl j:Int} {q:PipeS}
theorem Iq9 (ho:ofW V i fd=((f,⟨2,j,r,fl⟩),0)) (l:List UInt8) (hl:l.length≤32):Dc0 (wP V j q) i fd l=if l.length=0 then (⟨0,0,false⟩,wP V j q) else if 32-q.count=0∨l.length≤8∧32-q.count<l.length then (if fl=1 then (⟨0,111,false⟩,wP V j q) else (⟨0,0,true⟩,wP V j q)) else (⟨(I4 q l).2,0,false⟩,wP V j (I4 q l).1):=by
 unfold Dc0
 rw [Em8,ho]
 dsimp only
 rw [H99]
 rw [if_neg (by simp),if_neg (by simp),if_neg (by omega)]
 by_cases h0:l.length=0
 ·rw [if_pos h0,if_pos h0]
 ·rw [if_neg h0,if_neg h0,if_neg (by simp),If9]
theorem Ij3 (ho:ofW V i fd=((f,⟨1,j,r,fl⟩),0)) {n:Int} (hn:0≤n∧n≤32):Z5 (wP V j q) i fd n=(⟨1,j,r,fl⟩,0):=by
 unfold Z5
 rw [Em8,ho]
 dsimp only
 rw [if_neg (by simp),if_neg (by simp),if_neg (by omega)]
theorem H08 (ho:ofW V i fd=((f,⟨1,j,r,fl⟩),0)) {n:Int} (hn:0≤n∧n≤32):A30 (wP V j q) i fd n=if n=0 then (⟨[],0,false⟩,wP V j q) else if q.count=0 then (if q.writers=0 then (⟨[],0,false⟩,wP V j q) else if fl=1 then (⟨[],111,false⟩,wP V j q) else (⟨[],0,true⟩,wP V j q)) else (⟨(G5 q).take (min n.toNat q.count.toNat),0,false⟩,wP V j (A38 q (min n.toNat q.count.toNat))):=by
 unfold A30
 rw [Ij3 ho hn]
 dsimp only
 rw [H99]
 by_cases h0:n=0
 ·rw [if_pos (.inr h0),if_pos h0]
 ·rw [if_neg (fun h=>h.elim (by simp) h0),if_neg h0,if_neg (by simp)]
  dsimp only
  by_cases h1:q.count=0
  ·rw [if_pos h1,if_pos h1]
   by_cases h2:q.writers=0
   ·rw [if_pos ⟨rfl,h2⟩,if_pos h2]
   ·rw [if_neg (fun h=>h2 h.2),if_neg h2]
  ·rw [if_neg h1,if_neg h1,If9]
end
theorem Hz3 {V:VW} {i fd f r fl j:Int} {q:PipeS} (ho:ofW V i fd=((f,⟨1,j,r,fl⟩),0)):(ofW (wP V j q) i fd).1.2.kind≠3:=by rw [Em8,ho];simp
theorem Ig8 {V:VW} {i fd f r fl j:Int} (n:Int) {q:PipeS} (ho:ofW V i fd=((f,⟨1,j,r,fl⟩),0)) (hj:0≤j∧j<6):(Z5 (wP V j q) i fd n).2=0→0≤(Z5 (wP V j q) i fd n).1.pipe∧(Z5 (wP V j q) i fd n).1.pipe<6:=by
 intro _
 unfold Z5
 rw [Em8,ho]
 dsimp only
 rw [if_neg (by simp),if_neg (by simp)]
 split<;>exact hj
theorem Hq1 {V:VW} {i fd f r fl j:Int} {q:PipeS} (ho:ofW V i fd=((f,⟨2,j,r,fl⟩),0)) (hj:0≤j∧j<6) (hq:q.readers≠0):(ofW (wP V j q) i fd).2=0→(ofW (wP V j q) i fd).1.2.kind=2→0≤(ofW (wP V j q) i fd).1.2.pipe∧(ofW (wP V j q) i fd).1.2.pipe<6∧((wP V j q).P (ofW (wP V j q) i fd).1.2.pipe).1.readers≠0:=fun _ _=>by
 rw [Em8,ho]
 dsimp only
 rw [H99]
 exact ⟨hj.1,hj.2,hq⟩
theorem Gj1 {V:VW} {i fd f r fl j:Int} {q:PipeS} (hq:okP q=true) (ho:ofW V i fd=((f,⟨2,j,r,fl⟩),0)) (l:List UInt8) (hl:q.count+l.length≤32) :
  ∃ q',Dc0 (wP V j q) i fd l=(⟨l.length,0,false⟩,wP V j q')∧okP q'=true∧q'.count=q.count+l.length∧G5 q'=G5 q++l∧q'.readers=q.readers∧q'.writers=q.writers:=by
 have hr:=V5 hq
 rw [Iq9 ho l (by omega)]
 by_cases h0:l.length=0
 ·have:l=[]:=List.eq_nil_of_length_eq_zero h0
  subst this
  rw [if_pos h0]
  exact ⟨q,rfl,hq,by simp,by simp,rfl,rfl⟩
 ·rw [if_neg h0,if_neg (by omega)]
  obtain ⟨h1,h2,h3,h4,h5⟩:=Gr2 l q hq
  have e:(I4 q l).2=l.length:=by rw [h1];omega
  rw [e] at h2 h3
  refine ⟨(I4 q l).1,by rw [e],Dn7 l q hq,h2,?_,h4,h5⟩
  rw [h3,Int.toNat_natCast,List.take_length]
theorem Iq8 {V:VW} {i fd f r j:Int} {q:PipeS} (hq:okP q=true) (hw:q.writers≠0) (ho:ofW V i fd=((f,⟨1,j,r,0⟩),0)) :
  ∃ q',A30 (wP V j q) i fd 32=(⟨G5 q,0,decide (q.count=0)⟩,wP V j q')∧okP q'=true∧q'.count=0∧q'.readers=q.readers∧q'.writers=q.writers:=by
 have hr:=V5 hq
 rw [H08 ho (by omega),if_neg (by decide)]
 by_cases h0:q.count=0
 ·rw [if_pos h0,if_neg hw,if_neg (by decide)]
  have:G5 q=[]:=List.eq_nil_of_length_eq_zero (by rw [A84];omega)
  exact ⟨q,by rw [this,decide_eq_true h0],hq,h0,rfl,rfl⟩
 ·rw [if_neg h0]
  have e:min (32:Int).toNat q.count.toNat=q.count.toNat:=by
   show min 32 q.count.toNat=_
   omega
  rw [e]
  obtain ⟨t1,t2,t3,t4⟩:=Gg0 hq (m:=q.count.toNat) (Nat.le_refl _)
  have ht:(G5 q).take q.count.toNat=G5 q:=List.take_of_length_le (by rw [A84];exact Nat.le_refl _)
  exact ⟨A38 q q.count.toNat,by rw [ht,decide_eq_false h0],E84 hq (Nat.le_refl _),by rw [t2];omega,t3,t4⟩
def VF1:VW:=(Is7 VD 0).2
def VF (f t:Int):VW:=(N8 (N8 VF1 f 1).2 t 2).2
structure FtOk (f t:Int):Prop where
 rf:0≤f∧f<8
 rt:0≤t∧t<8
 c1:(N8 VF1 f 1).1=H7 0 0 false
 c2:(N8 (N8 VF1 f 1).2 t 2).1=H7 0 0 false
 p0:(VF f t).P 0=(A18,1)
 o1:ofW (VF f t) f 2=((2,⟨2,0,1,0⟩),0)
 o2:ofW (VF f t) t 1=((1,⟨1,0,1,0⟩),0)
 o3:ofW (VF f t) f 1=((0,.zero),109)
 o4:ofW (VF f t) t 2=((0,.zero),109)
 c5:∀ hd d dl,(N8 (wP (VF f t) 0 ⟨hd,0,1,1,d,dl⟩) f 2).1=H7 0 0 false
 o6:∀ hd d dl,ofW (N8 (wP (VF f t) 0 ⟨hd,0,1,1,d,dl⟩) f 2).2 t 1=((1,⟨1,0,1,0⟩),0)
 r6:∀ hd d dl,(A30 (N8 (wP (VF f t) 0 ⟨hd,0,1,1,d,dl⟩) f 2).2 t 1 5).1=⟨[],0,false⟩
abbrev A52 (p:ProcS):ProcS:=⟨p.state,p.parent,p.group,p.code,8192,p.mask,p.ignored,p.caught,p.fds,p.len⟩
theorem Ib6:Ct B2 Eb0 [int 13] [] fun v own=>v=.bool true∧own []:=by
 refine Ct.of Ia0 rfl fun h r=>Tr.eq (H96 ..) ?_;refine Je ?_
 (refine Ja ?_;unhygienic intros)
 refine Ys fun o=>?_
 exact ⟨by first|rfl|kernel_rfl,o.sub⟩
theorem Hp1 (p:ProcS) (h1:p.state=1) (h2:p.pending=0) (h3:p.ignored=0):Ct B2 Ae5 [.agg ⟨E2 p⟩,int 13] [] fun v own=>v=.tuple ⟨[.agg ⟨E2 (A52 p)⟩,.bool true]⟩∧own []:=by
 have e0:IntKind.wrap .i64 (1*2 ^ (min ((IntKind.wrap .u64 (13:Int))).toNat 64))=8192:=by decide
 have e1:P3 .i64 0 8192=0:=by kernel_rfl
 have e2:Go5 .i64 0 8192=8192:=by kernel_rfl
 obtain ⟨st,par,gr,cd,pend,mask,ign,cau,fds,len⟩:=p
 obtain rfl:st=1:=h1
 obtain rfl:pend=0:=h2
 obtain rfl:ign=0:=h3
 refine Ct.of D01 rfl fun h r=>Tr.eq (Hi3 ..) ?_;refine Je ?_
 (refine Jb ?_;unhygienic intros)
 refine Yc (Ib6) ?_;rintro _ h ⟨rfl,o⟩<;>refine Jh o ?_
 (refine Jb ?_;unhygienic intros)
 refine Yb (Yf rfl ?_)
 (refine Jb ?_;unhygienic intros)
 refine Yb (Yf rfl ?_)
 refine Ys fun o=>(?_:Tr _ _ _ _) o;refine Je ?_
 refine Ys fun o=>(?_:Tr _ _ _ _) o;refine Je ?_
 refine Yf rfl ?_
 rw [e0]
 refine Tr.ck (by decide) ?_
 (refine Jb ?_;unhygienic intros)
 rw [e1]
 refine Yb (Yt rfl ?_)
 refine Ys fun o=>(?_:Tr _ _ _ _) o;refine Je ?_
 refine Yt rfl ?_
 (refine Jb ?_;unhygienic intros)
 rw [e2]
 (refine Jb ?_;unhygienic intros)
 refine Tr.jmp D01 (Tr.eq (Gi6 ..) ?_);(try simp only[Nr,Nl,wl,Nat.reduceAdd,Nat.reduceMul,Int.reduceToNat])
 refine Yb (Yf rfl ?_)
 refine Ys fun o=>(?_:Tr _ _ _ _) o;refine Je ?_
 refine Yb (Yf rfl ?_)
 refine Ys fun o=>(?_:Tr _ _ _ _) o;refine Je ?_
 refine Yf rfl ?_
 refine Tr.jmp D01 (Tr.eq (Gk9 ..) ?_);(try simp only[Nr,Nl,wl,Nat.reduceAdd,Nat.reduceMul,Int.reduceToNat])
 refine Yf rfl ?_
 refine Yf rfl ?_
 refine (?_:Tr (_::pt _ (.cells D3 false (E2 ⟨1,par,gr,cd,8192,mask,0,cau,fds,len⟩))::_) _ _ _)
 generalize hp2:(⟨1,par,gr,cd,8192,mask,0,cau,fds,len⟩:ProcS)=p2
 (refine Ja ?_;unhygienic intros)
 refine Ys fun o=>?_
 exact ⟨by rw [← hp2],o.sub⟩
theorem Hz8 (c k:Nat) (F:Fr) (X:CX) (ok:FrOk F) (V:VW) (A:See X V) (i:Int) (hi:0≤i∧i<8) (hs:(Ac5 V i).2=0) (h2:(V.S i).1.pending=0) (h3:(V.S i).1.ignored=0) :
  Ct B2 Bm2 [P0 c,int i] [cmC c k F X] fun v own=>∃ X',See X' (wS V i (A52 (V.S i).1))∧v=.agg ⟨H7 0 132 false⟩∧own [cmC c k F X']:=by
 have es:=A.self hi
 obtain ⟨s1,s2,s3,s4⟩:=A06 A.c hi (by rw [es];exact hs)
 have hin:=D50 (rd X ⟨1,i⟩)
 have hin2:InS (A52 (vS X i).1):=⟨by simp,hin.b,hin.c,hin.d⟩
 have hok:okS (A52 (vS X i).1)=true:=by
  unfold okS at s3 ⊢
  rw [if_neg (by rw [s2];decide)] at s3
  rw [if_neg (show ¬ (A52 (vS X i).1).state=2 by show ¬ (vS X i).1.state=2;rw [s2];decide)]
  simp only [Bool.and_eq_true,Bool.not_eq_true',Bool.or_eq_false_iff] at s3 ⊢
  obtain ⟨a1,⟨⟨⟨⟨b1,b2⟩,b3⟩,b4⟩,b5⟩,d1,d2⟩:=s3
  exact ⟨a1,⟨⟨⟨⟨by kernel_rfl,b2⟩,b3⟩,b4⟩,b5⟩,d1,d2⟩
 obtain ⟨w1,_⟩:=A48 A.c hi hok hin2
 have hw:=A.ws hi hok hin2
 rw [A.s i hi] at s1 s2 w1 hw
 have J:=Hp1 (V.S i).1 s2 h2 h3
 refine Ct.of Gk1 rfl fun h r=>Tr.eq (Gl5 ..) ?_;refine Je ?_
 refine Yn fun b0 h=>?_
 refine Yc (B84 c k F X ok A.c i hi) ?_;rintro _ h ⟨rfl,o⟩<;>refine Jh o ?_
 rw [s1]
 (refine Jc ?_;unhygienic intros)
 refine Yn fun b1 h=>?_
 generalize (V.S i).1=p at *
 (refine Ja ?_;unhygienic intros)
 refine Yc (J) ?_;rintro _ h ⟨rfl,o⟩<;>refine Jh o ?_
 generalize A52 p=p2 at *
 (refine Jc ?_;unhygienic intros)
 refine Yn fun b2 h=>?_
 (refine Jb ?_;unhygienic intros)
 refine Yb (Yt rfl ?_)
 (refine Jb ?_;unhygienic intros)
 refine Yc (Da5 c k F X ok i p2) ?_;rintro _ h ⟨rfl,o⟩<;>refine Jh o ?_
 rw [w1]
 (refine Jb ?_;unhygienic intros)
 refine Ys fun o=>(?_:Tr _ _ _ _) o;refine Je ?_
 refine Yf rfl ?_
 refine Yc (Bk2 132) ?_;rintro _ h ⟨rfl,o⟩<;>(refine Jf o ?_;unhygienic intros)
 refine Ys fun o=>?_
 exact ⟨Aw0 X i p2,hw,rfl,o.sub⟩
theorem Hr0 (c k:Nat) (F:Fr) (X:CX) (ok:FrOk F) (V:VW) (A:See X V) (i fd f j rf fl:Int) (hi:0≤i∧i<8) (ho:ofW V i fd=((f,⟨2,j,rf,fl⟩),0)) (hj:0≤j∧j<6) (q:PipeS) (hP:V.P j=(q,1)) (hq:q.readers=0)
  (hs:(Ac5 V i).2=0) (h2:(V.S i).1.pending=0) (h3:(V.S i).1.ignored=0) (pb:HP) (a:Option Addr) (ro:Bool) (cc:Nat) (l:List UInt8) (hl:1≤l.length∧l.length≤32) [ks:IsSl pb a ro A7 1 l.length cc (A5 l)] :
  Ct B2 Ag5 [P0 c,int i,int fd,.slice a l.length cc] [cmC c k F X,pb] fun v own=>∃ X',See X' (wS V i (A52 (V.S i).1))∧v=.agg ⟨H7 0 132 false⟩∧own [cmC c k F X',pb]:=by
 have eo:=(A.ofv hi fd).trans ho
 have hvp:=(A.p j hj).trans hP
 have J:=Hz8 c k F X ok V A i hi hs h2 h3
 refine Ct.of Eh1 rfl fun h r=>Tr.eq (Ej7 ..) ?_;refine Je ?_
 refine Yn fun b0 h=>?_
 refine Yc (Gy4 c k F X ok A.c i fd hi) ?_;rintro _ h ⟨rfl,o⟩<;>refine Jh o ?_
 rw [eo]
 dsimp only
 (refine Jc ?_;unhygienic intros)
 refine Yn fun b1 h=>?_
 (refine Jb ?_;unhygienic intros)
 refine Yf rfl ?_
 (refine Jb ?_;unhygienic intros)
 refine Yf rfl ?_
 refine Yf (by rw [decide_eq_false_iff_not];omega) ?_
 refine Yf (by rw [beq_eq_false_iff_ne];omega) ?_
 (refine Ja ?_;unhygienic intros)
 refine Yc (Hd2 c k F X ok A.c ⟨2,j,rf,fl⟩ (by simp) (by simp only;omega)) ?_
 rintro _ h ⟨b,b2,rfl,o⟩
 refine Jh o ?_
 rw [hvp]
 (refine Jc ?_;unhygienic intros)
 refine Yn fun b3 h=>?_
 (refine Jb ?_;unhygienic intros)
 refine Yf rfl ?_
 (refine Jb ?_;unhygienic intros)
 refine Yt (by simpa using hq) ?_
 refine Yc J ?_
 rintro _ h ⟨X',A',rfl,o⟩
 refine Jh o ?_
 (refine Ja ?_;unhygienic intros)
 refine Ys fun o=>?_
 exact ⟨X',A',rfl,o.sub⟩
def VE:VW:=(G95 VD 0 2).2
def VG:VW:=(N8 VE 0 2).2
def VH:VW:=(N8 VG 0 3).2
def VI:VW:=(N8 VD 0 2).2
theorem ed0:VD.P 0=(A18,1):=by kernel_rfl
theorem ed1:ofW VD 0 2=((2,⟨2,0,1,0⟩),0):=by kernel_rfl
theorem ed2 (q:PipeS):G95 (wP VD 0 q) 0 2=(H7 3 0 false,wP VE 0 q):=by kernel_rfl
theorem ed3 (q:PipeS):N8 (wP VE 0 q) 0 2=(H7 0 0 false,wP VG 0 q):=by kernel_rfl
theorem ed4:ofW VG 0 1=((1,⟨1,0,1,0⟩),0):=by kernel_rfl
theorem ed5:ofW VG 0 3=((2,⟨2,0,1,0⟩),0):=by kernel_rfl
theorem ed6 (hd ct d dl):(N8 (wP VG 0 ⟨hd,ct,1,1,d,dl⟩) 0 3).1=H7 0 0 false:=by kernel_rfl
theorem Im5 {X:CX} {hd ct d dl} (A:See X (N8 (wP VG 0 ⟨hd,ct,1,1,d,dl⟩) 0 3).2):See X (wP VH 0 ⟨hd,ct,1,0,d,dl⟩):=by
 refine A.to (fun j hj=>?_) (fun j hj=>?_) fun j hj=>?_
 ·have:j=0∨j=1∨j=2∨j=3∨j=4∨j=5∨j=6∨j=7:=by omega
  rcases this with rfl|rfl|rfl|rfl|rfl|rfl|rfl|rfl<;>(clear hj;show (_:ProcS × Int)=_;kernel_rfl)
 ·have:j=0∨j=1∨j=2∨j=3∨j=4∨j=5∨j=6∨j=7∨j=8∨j=9∨j=10∨j=11:=by omega
  rcases this with rfl|rfl|rfl|rfl|rfl|rfl|rfl|rfl|rfl|rfl|rfl|rfl<;>(clear hj;show (_:FileS × Int)=_;kernel_rfl)
 ·have:j=0∨j=1∨j=2∨j=3∨j=4∨j=5:=by omega
  rcases this with rfl|rfl|rfl|rfl|rfl|rfl<;>(clear hj;show (_:PipeS × Int)=_;kernel_rfl)
theorem ed7 (hd ct d dl):(N8 (wP VD 0 ⟨hd,ct,1,1,d,dl⟩) 0 2).1=H7 0 0 false:=by kernel_rfl
theorem It6 {X:CX} {hd ct d dl} (A:See X (N8 (wP VD 0 ⟨hd,ct,1,1,d,dl⟩) 0 2).2):See X (wP VI 0 ⟨hd,ct,1,0,d,dl⟩):=by
 refine A.to (fun j hj=>?_) (fun j hj=>?_) fun j hj=>?_
 ·have:j=0∨j=1∨j=2∨j=3∨j=4∨j=5∨j=6∨j=7:=by omega
  rcases this with rfl|rfl|rfl|rfl|rfl|rfl|rfl|rfl<;>(clear hj;show (_:ProcS × Int)=_;kernel_rfl)
 ·have:j=0∨j=1∨j=2∨j=3∨j=4∨j=5∨j=6∨j=7∨j=8∨j=9∨j=10∨j=11:=by omega
  rcases this with rfl|rfl|rfl|rfl|rfl|rfl|rfl|rfl|rfl|rfl|rfl|rfl<;>(clear hj;show (_:FileS × Int)=_;kernel_rfl)
 ·have:j=0∨j=1∨j=2∨j=3∨j=4∨j=5:=by omega
  rcases this with rfl|rfl|rfl|rfl|rfl|rfl<;>(clear hj;show (_:PipeS × Int)=_;kernel_rfl)
def U1 (V:VW) (hd:Int) (d:List UInt8) (dl:d.length=32):List Value × VW:=N8 (wP V 0 ⟨hd,0,1,0,d,dl⟩) 0 1
def U2 (V:VW) (hd:Int) (d:List UInt8) (dl:d.length=32):List Value × VW:=Gb8 (U1 V hd d dl).2 0
def U3 (V:VW) (hd:Int) (d:List UInt8) (dl:d.length=32):List Value × VW:=N8 (U2 V hd d dl).2 0 1
structure EndOk (V:VW):Prop where
 o1:ofW V 0 1=((1,⟨1,0,1,0⟩),0)
 u1:∀ hd d dl,(U1 V hd d dl).1=H7 0 0 false
 u2:∀ hd d dl,(U2 V hd d dl).1=H7 33 0 false
 u3:∀ hd d dl,(U3 V hd d dl).1=H7 0 0 false
 o2:∀ hd d dl,ofW (U3 V hd d dl).2 0 2=((2,⟨2,0,1,0⟩),0)
 p0:∀ hd d dl,(U3 V hd d dl).2.P 0=(Gl0 A18,1)
 s1:∀ hd d dl,(Ac5 (U3 V hd d dl).2 0).2=0
 s2:∀ hd d dl,((U3 V hd d dl).2.S 0).1.pending=0
 s3:∀ hd d dl,((U3 V hd d dl).2.S 0).1.ignored=0
 s4:∀ hd d dl,((U3 V hd d dl).2.S 0).1.state=1
theorem In6:EndOk VH:=⟨by kernel_rfl,fun _ _ _=>by kernel_rfl,fun _ _ _=>by kernel_rfl,fun _ _ _=>by kernel_rfl,fun _ _ _=>by kernel_rfl,fun _ _ _=>by kernel_rfl,fun _ _ _=>by kernel_rfl,fun _ _ _=>by kernel_rfl,fun _ _ _=>by kernel_rfl,fun _ _ _=>by kernel_rfl⟩
theorem Iu1:EndOk VI:=⟨by kernel_rfl,fun _ _ _=>by kernel_rfl,fun _ _ _=>by kernel_rfl,fun _ _ _=>by kernel_rfl,fun _ _ _=>by kernel_rfl,fun _ _ _=>by kernel_rfl,fun _ _ _=>by kernel_rfl,fun _ _ _=>by kernel_rfl,fun _ _ _=>by kernel_rfl,fun _ _ _=>by kernel_rfl⟩
theorem It8 (V:VW) (i:Int) (p:ProcS):(wS V i p).S i=(p,1):=by
 show (if i=i then (p,(1:Int)) else V.S i)=_
 rw [if_pos rfl]
theorem Hf0 (k c:Nat) (V:VW) (E:EndOk V) (X:CX) (hd:Int) (d:List UInt8) (dl:d.length=32) (A:See X (wP V 0 ⟨hd,0,1,0,d,dl⟩)) (pb:HP) (a:Option Addr) (ro:Bool) (cc:Nat) (l:List UInt8) [ks:IsSl pb a ro A7 1 l.length cc (A5 l)] :
  CtJ I2 E0 Ag2 [(0,.slice a l.length cc),(6,P0 c),(10,.string (bs l)),(11,int 8)] [cmC c k F1 X,pb] fun v own=>v=.bool true∧own []:=by
 obtain ⟨a1,A1⟩:=A.closeFd (i:=0) (by omega) 1
 replace a1:=a1.trans (E.u1 hd d dl)
 replace A1:See _ (U1 V hd d dl).2:=A1
 obtain ⟨a2,A2⟩:=A1.pipe (i:=0) (by omega)
 replace a2:=a2.trans (E.u2 hd d dl)
 replace A2:See _ (U2 V hd d dl).2:=A2
 obtain ⟨a3,A3⟩:=A2.closeFd (i:=0) (by omega) 1
 replace a3:=a3.trans (E.u3 hd d dl)
 replace A3:See _ (U3 V hd d dl).2:=A3
 have s1:=E.s1 hd d dl
 have s2:=E.s2 hd d dl
 have s3:=E.s3 hd d dl
 have s4:=E.s4 hd d dl
 have o2:=E.o2 hd d dl
 have p0:=E.p0 hd d dl
 generalize (U3 V hd d dl).2=W3 at *
 have J:=fun b2=>Hr0 c k F1 _ Ai1 W3 A3 0 2 2 0 1 0 (by omega) o2 (by omega) (Gl0 A18) p0 (by decide) s1 s2 s3 (slC false A7 1 (some ⟨b2,0,none⟩) 1 1 (A5 [1])) (some ⟨b2,0,none⟩) false 1 [1] (by simp)
 have hw:(Ac5 (wS W3 0 (A52 (W3.S 0).1)) 0)=(A52 (W3.S 0).1,0):=by
  unfold Ac5
  rw [It8,if_pos ⟨rfl,s4⟩]
 refine CtJ.of A40 fun h r=>Tr.eq (B04 ..) ?_;refine Je ?_
 refine Yf rfl ?_
 (refine Jb ?_;unhygienic intros)
 refine Yb (Yf (by simp) ?_)
 refine Yc (Bw0 c k F1 X Ai1 A.c 0 1 (by omega)) ?_;rintro _ h ⟨rfl,o⟩<;>refine Jh o ?_
 rw [a1]
 generalize (Am3 3 X 0 1).2=Y1 at *
 (refine Jb ?_;unhygienic intros)
 refine Ys fun o=>(?_:Tr _ _ _ _) o;refine Je ?_
 refine Yf rfl ?_
 refine Yc (E70 c k F1 Y1 Ai1 A1.c 0 (by omega)) ?_;rintro _ h ⟨rfl,o⟩<;>refine Jh o ?_
 rw [a2]
 generalize (Ax0 Y1 0).2=Y2 at *
 (refine Jb ?_;unhygienic intros)
 refine Yb (Yf rfl ?_)
 refine Yc (Bw0 c k F1 Y2 Ai1 A2.c 0 1 (by omega)) ?_;rintro _ h ⟨rfl,o⟩<;>refine Jh o ?_
 rw [a3]
 generalize (Am3 3 Y2 0 1).2=Y3 at *
 (refine Jb ?_;unhygienic intros)
 refine Ys fun o=>(?_:Tr _ _ _ _) o;refine Je ?_
 refine Yf rfl ?_
 refine Yn fun b2 h=>?_
 refine Aa8 0 rfl 1 1 rfl (by omega) ?_
 refine (?_:Tr (slC false A7 1 (some ⟨b2,0,none⟩) 1 1 (A5 [1])::cmC c k F1 Y3::_) _ _ _)
 refine Yc (J b2) ?_
 rintro _ h ⟨X4,A4,rfl,o⟩
 refine Jh o ?_
 (refine Jc ?_;unhygienic intros)
 refine Yn fun b3 h=>?_
 (refine Ja ?_;unhygienic intros)
 refine Yc (B84 c k F1 X4 Ai1 A4.c 0 (by omega)) ?_;rintro _ h ⟨rfl,o⟩<;>refine Jh o ?_
 rw [A4.self (i:=0) (by omega),hw]
 dsimp only
 have hpend:(A52 (W3.S 0).1).pending=8192:=rfl
 generalize A52 (W3.S 0).1=p at *
 (refine Jc ?_;unhygienic intros)
 refine Yn fun b4 h=>?_
 (refine Jb ?_;unhygienic intros)
 refine Yb (Yt rfl ?_)
 (refine Jb ?_;unhygienic intros)
 refine Ys fun o=>(?_:Tr _ _ _ _) o;refine Je ?_
 refine Yb (Yt rfl ?_)
 refine Ys fun o=>(?_:Tr _ _ _ _) o;refine Je ?_
 refine Yb (Yt rfl ?_)
 (refine Jb ?_;unhygienic intros)
 rw [hpend]
 refine Ys fun o=>(?_:Tr _ _ _ _) o;refine Je ?_
 refine Yb (Yt rfl ?_)
 refine Yc (Ge8) ?_;rintro _ h ⟨rfl,o⟩<;>refine Jh o ?_
 (refine Jb ?_;unhygienic intros)
 refine Ys fun o=>(?_:Tr _ _ _ _) o;refine Je ?_
 refine Ys fun o=>?_
 exact ⟨rfl,o.sub⟩
theorem Gf9 (k c:Nat) (V:VW) (E:EndOk V) (pb:HP) (a:Option Addr) (ro:Bool) (cc:Nat) (l:List UInt8) (hl:l.length≤32) [ks:IsSl pb a ro A7 1 l.length cc (A5 l)]:∀ (m i:Nat) (g:List UInt8) (X:CX) (q:PipeS),i+m=8→okP q=true→q.readers=1→q.writers=0→g++G5 q=l→q.count≤max 0 (32-7*(i:Int))→See X (wP V 0 q) →
  CtJ I2 E0 Ag2 [(0,.slice a l.length cc),(6,P0 c),(10,.string (bs g)),(11,int i)] [cmC c k F1 X,pb] fun v own=>v=.bool true∧own []
 | 0,i,g,X,q,hi,hq,hr,hw,hg,hc,A=>by
  obtain rfl:i=8:=by omega
  have hrng:=V5 hq
  have h0:q.count=0:=by omega
  have hb:G5 q=[]:=List.eq_nil_of_length_eq_zero (by rw [A84];omega)
  rw [hb,List.append_nil] at hg
  subst hg
  obtain ⟨hd,ct,rd',wr',d,dl⟩:=q
  obtain rfl:ct=0:=h0
  obtain rfl:rd'=1:=hr
  obtain rfl:wr'=0:=hw
  exact Hf0 k c V E X hd d dl A pb a ro cc g
 | m+1,i,g,X,q,hi,hq,hr,hw,hg,hc,A=>by
  have e1:IntKind.wrap .i64 ((i:Int)+1)=((i+1:Nat):Int):=by rw [B3];omega
  have hrng:=V5 hq
  have hx:∃ q',A30 (wP V 0 q) 0 1 7=(⟨(G5 q).take (min 7 q.count.toNat),0,false⟩,wP V 0 q')∧okP q'=true∧q'.readers=1∧q'.writers=0∧G5 q'=(G5 q).drop (min 7 q.count.toNat)∧q'.count=q.count-(min 7 q.count.toNat:Nat):=by
   rw [H08 E.o1 (by omega),if_neg (by decide)]
   by_cases h0:q.count=0
   ·rw [if_pos h0,if_pos hw]
    have:G5 q=[]:=List.eq_nil_of_length_eq_zero (by rw [A84];omega)
    exact ⟨q,by rw [this];simp,hq,hr,hw,by rw [this];simp,by omega⟩
   ·rw [if_neg h0]
    obtain ⟨t1,t2,t3,t4⟩:=Gg0 hq (m:=min 7 q.count.toNat) (by omega)
    exact ⟨A38 q (min 7 q.count.toNat),rfl,E84 hq (by omega),t3.trans hr,t4.trans hw,t1,t2⟩
  obtain ⟨q',w1,y1,y2,y3,y4,y5⟩:=hx
  have J:=Ea1 c k F1 X Ai1 _ A 0 1 7 (by omega) (Hz3 E.o1) (Ig8 7 E.o1 (by omega))
  rw [w1] at J
  have hlen:((G5 q).take (min 7 q.count.toNat)).length≤7:=by rw [List.length_take];omega
  have hgl:g.length≤32:=by have:=congrArg List.length hg;rw [List.length_append] at this;omega
  have hg2:(g++(G5 q).take (min 7 q.count.toNat))++G5 q'=l:=by rw [y4,List.append_assoc,List.take_append_drop];exact hg
  have H:=fun X' A'=>Gf9 k c V E pb a ro cc l hl m (i+1) (g++(G5 q).take (min 7 q.count.toNat)) X' q' (by omega) y1 y2 y3 hg2 (by rw [y5];omega) A'
  generalize (G5 q).take (min 7 q.count.toNat)=t at *
  refine CtJ.of A40 fun h r=>Tr.eq (B04 ..) ?_;refine Je ?_
  refine Yt (by simp;omega) ?_
  refine Yc J ?_
  rintro _ h ⟨a2,cap,X',A',_,rfl,o⟩
  refine Jh o ?_
  rw [e1]
  (refine Jc ?_;unhygienic intros)
  refine Yn fun b1 h=>?_
  (refine Jb ?_;unhygienic intros)
  refine Yb (Yf rfl ?_)
  (refine Jb ?_;unhygienic intros)
  refine Ys fun o=>(?_:Tr _ _ _ _) o;refine Je ?_
  refine Yf rfl ?_
  (refine Jb ?_;unhygienic intros)
  refine Tr.ck (show g.length+t.length≤B4 by simp only [B4];omega) ?_
  rw [show bs g++(ByteArray.mk ⟨t⟩)=bs (g++t) from Az3 g t]
  refine At1 [1,2] 2 rfl rfl ?_
  exact Yr (H X' A') fun v h q=>q
theorem Ef3 (k c:Nat) (V:VW) (E:EndOk V) (pb:HP) (a:Option Addr) (ro:Bool) (cc:Nat) (l:List UInt8) (hl:l.length≤32) [ks:IsSl pb a ro A7 1 l.length cc (A5 l)] (X:CX) (q:PipeS) (hq:okP q=true) (hr:q.readers=1) (hw:q.writers=0) (hg:G5 q=l) (A:See X (wP V 0 q)) :
  CtJ I2 E0 Ao1 [(0,.slice a l.length cc),(6,P0 c)] [cmC c k F1 X,pb] fun v own=>v=.bool true∧own []:=by
 have H:=Gf9 k c V E pb a ro cc l hl 8 0 [] X q rfl hq hr hw hg (by have:=V5 hq;omega) A
 refine CtJ.of A40 fun h r=>Tr.eq (Ef0 ..) ?_;refine Je ?_
 exact Yr H fun v h q=>q
theorem Hc3 (pb:HP) (a:Option Addr) (ro:Bool) (cc:Nat) (l:List UInt8) (doubled:Bool) [ks:IsSl pb a ro A7 1 l.length cc (A5 l)]:Ct B2 E0 [.slice a l.length cc,.bool doubled] [pb] fun v own=>v=.bool true∧own []:=by
 refine Ct.of A40 rfl fun h r=>Tr.eq (E08 ..) ?_;refine Je ?_
 refine Yc (G09) ?_;rintro _ h ⟨a1,rfl,o⟩<;>refine Jh o ?_
 (refine Ja ?_;unhygienic intros)
 refine Yc (Hn6 a1) ?_
 rintro _ h ⟨k,c,w,m,K',rfl,o⟩
 refine Jh o ?_
 (refine Jb ?_;unhygienic intros)
 refine Yb (Yf rfl ?_)
 refine Ys fun o=>(?_:Tr _ _ _ _) o;refine Je ?_
 by_cases hl:l.length>32
 ·refine Yt (by rw [decide_eq_true_iff];omega) ?_
  refine Yb (Yt rfl ?_)
  refine Yc (Ge8) ?_;rintro _ h ⟨rfl,o⟩<;>refine Jh o ?_
  (refine Jb ?_;unhygienic intros)
  refine Ys fun o=>(?_:Tr _ _ _ _) o;refine Je ?_
  refine Ys fun o=>?_
  exact ⟨rfl,o.sub⟩
 refine Yf (by rw [decide_eq_false_iff_not];omega) ?_
 refine Yc (E70 c k F1 X1 Ai1 E72 0 (by omega)) ?_;rintro _ h ⟨rfl,o⟩<;>refine Jh o ?_
 rw [H02,show (Ax0 X1 0).2=XD from rfl]
 (refine Jb ?_;unhygienic intros)
 refine Yb (Yf rfl ?_)
 have A0:See XD (wP VD 0 A18):=by rw [Ii8 ed0];exact In1
 obtain ⟨q,w1,q1,q2,q3,q4,q5⟩:=Gj1 (q:=A18) (by rfl) ed1 l (by show (0:Int)+l.length≤32;omega)
 replace q3:G5 q=l:=q3
 replace q4:q.readers=1:=q4
 replace q5:q.writers=1:=q5
 replace q2:q.count=l.length:=q2.trans (by show (0:Int)+l.length=l.length;omega)
 have J1:=Dw6 c k F1 XD Ai1 _ A0 0 2 (by omega) (Hq1 ed1 (by omega) (by decide)) pb a ro cc l (by simp only [B4];omega)
 rw [w1] at J1
 refine Yc J1 ?_
 rintro _ h ⟨XB,A1,_,rfl,o⟩
 refine Jh o ?_
 (refine Jb ?_;unhygienic intros)
 refine Ys fun o=>(?_:Tr _ _ _ _) o;refine Je ?_
 refine Yf (by simp) ?_
 cases doubled
 ·refine Yf rfl ?_
  obtain ⟨hd,ct,rd',wr',d,dl⟩:=q
  obtain rfl:rd'=1:=q4
  obtain rfl:wr'=1:=q5
  obtain ⟨b1,B1⟩:=A1.closeFd (i:=0) (by omega) 2
  replace b1:=b1.trans (ed7 hd ct d dl)
  replace B1:=It6 B1
  refine Yc (Bw0 c k F1 XB Ai1 A1.c 0 2 (by omega)) ?_;rintro _ h ⟨rfl,o⟩<;>refine Jh o ?_
  rw [b1]
  generalize (Am3 3 XB 0 2).2=XC at *
  (refine Jb ?_;unhygienic intros)
  refine Yf rfl ?_
  refine At1 [0,0] 2 rfl rfl ?_
  exact Yr (Ef3 k c VI Iu1 pb a ro cc l (by omega) XC ⟨hd,ct,1,0,d,dl⟩ (by have:=V5 q1;simp only [okP,Bool.and_eq_true,decide_eq_true_eq] at this ⊢;omega) rfl rfl q3 B1) fun v h q=>q
 ·refine Yt rfl ?_
  replace A1:See XB (wP VD 0 q):=A1
  obtain ⟨b1,B1⟩:=A1.dup (i:=0) (by omega) 2
  rw [ed2] at b1 B1
  refine Yc (Ik1 c k F1 XB Ai1 A1.c 0 2 (by omega)) ?_;rintro _ h ⟨rfl,o⟩<;>refine Jh o ?_
  rw [b1]
  generalize (E80 XB 0 2).2=XC at *
  (refine Jb ?_;unhygienic intros)
  refine Yb (Yf rfl ?_)
  obtain ⟨c1,C1⟩:=B1.closeFd (i:=0) (by omega) 2
  rw [ed3] at c1 C1
  refine Yc (Bw0 c k F1 XC Ai1 B1.c 0 2 (by omega)) ?_;rintro _ h ⟨rfl,o⟩<;>refine Jh o ?_
  rw [c1]
  generalize (Am3 3 XC 0 2).2=XH at *
  (refine Jb ?_;unhygienic intros)
  refine Ys fun o=>(?_:Tr _ _ _ _) o;refine Je ?_
  refine Yf rfl ?_
  obtain ⟨q',w2,p1,p2,p3,p4⟩:=Iq8 (j:=0) q1 (by rw [q5];decide) ed4
  rw [q3] at w2
  have J2:=Ea1 c k F1 XH Ai1 _ C1 0 1 32 (by omega) (Hz3 ed4) (Ig8 32 ed4 (by omega))
  rw [w2] at J2
  refine Yc J2 ?_
  rintro _ h ⟨a2,cap,XE,E1,_,rfl,o⟩
  refine Jh o ?_
  replace E1:See XE (wP VG 0 q'):=E1
  (refine Jc ?_;unhygienic intros)
  refine Yn fun b1 h=>?_
  (refine Jb ?_;unhygienic intros)
  by_cases h0:l.length>0
  ·refine Yb (Yt (by rw [decide_eq_true_iff];omega) ?_)
   (refine Jb ?_;unhygienic intros)
   refine Ys fun o=>(?_:Tr _ _ _ _) o;refine Je ?_
   refine Yb (Yf (by simp) ?_)
   refine Yb (Yf (by rw [beq_eq_false_iff_ne];omega) ?_)
   refine Ys fun o=>(?_:Tr _ _ _ _) o;refine Je ?_
   refine Ys fun o=>(?_:Tr _ _ _ _) o;refine Je ?_
   refine Yf rfl ?_
   obtain ⟨q2',w3,g1,g2,g3,g4,g5⟩:=Gj1 p1 ed5 l (by rw [p2];omega)
   have hbq:G5 q'=[]:=List.eq_nil_of_length_eq_zero (by rw [A84];omega)
   rw [hbq,List.nil_append] at g3
   rw [p3,q4] at g4
   rw [p4,q5] at g5
   have J3:=Dw6 c k F1 XE Ai1 _ E1 0 3 (by omega) (Hq1 ed5 (by omega) (by rw [p3,q4];decide)) pb a ro cc l (by simp only [B4];omega)
   rw [w3] at J3
   refine Yc J3 ?_
   rintro _ h ⟨XF,G1,_,rfl,o⟩
   refine Jh o ?_
   (refine Jb ?_;unhygienic intros)
   refine Yb (Yf (by simp) ?_)
   obtain ⟨hd,ct,rd',wr',d,dl⟩:=q2'
   obtain rfl:rd'=1:=g4
   obtain rfl:wr'=1:=g5
   obtain ⟨k1,K1⟩:=(show See XF (wP VG 0 ⟨hd,ct,1,1,d,dl⟩) from G1).closeFd (i:=0) (by omega) 3
   replace k1:=k1.trans (ed6 hd ct d dl)
   replace K1:=Im5 K1
   refine Yc (Bw0 c k F1 XF Ai1 G1.c 0 3 (by omega)) ?_;rintro _ h ⟨rfl,o⟩<;>refine Jh o ?_
   rw [k1]
   generalize (Am3 3 XF 0 3).2=XG at *
   (refine Jb ?_;unhygienic intros)
   refine Ys fun o=>(?_:Tr _ _ _ _) o;refine Je ?_
   refine Yf rfl ?_
   refine At1 [0,0] 4 rfl rfl ?_
   exact Yr (Ef3 k c VH In6 pb a ro cc l (by omega) XG ⟨hd,ct,1,0,d,dl⟩ (by have:=V5 g1;simp only [okP,Bool.and_eq_true,decide_eq_true_eq] at this ⊢;omega) rfl rfl g3 K1) fun v h q=>q
  ·refine Yb (Yf (by rw [decide_eq_false_iff_not];omega) ?_)
   refine Ys fun o=>(?_:Tr _ _ _ _) o;refine Je ?_
   refine Yb (Yf rfl ?_)
   refine Yb (Yt (by rw [beq_iff_eq];omega) ?_)
   (refine Jb ?_;unhygienic intros)
   refine Ys fun o=>(?_:Tr _ _ _ _) o;refine Je ?_
   refine Ys fun o=>(?_:Tr _ _ _ _) o;refine Je ?_
   refine Yf (by rw [decide_eq_true (show q.count=0 by omega)];rfl) ?_
   obtain ⟨q2',w3,g1,g2,g3,g4,g5⟩:=Gj1 p1 ed5 l (by rw [p2];omega)
   have hbq:G5 q'=[]:=List.eq_nil_of_length_eq_zero (by rw [A84];omega)
   rw [hbq,List.nil_append] at g3
   rw [p3,q4] at g4
   rw [p4,q5] at g5
   have J3:=Dw6 c k F1 XE Ai1 _ E1 0 3 (by omega) (Hq1 ed5 (by omega) (by rw [p3,q4];decide)) pb a ro cc l (by simp only [B4];omega)
   rw [w3] at J3
   refine Yc J3 ?_
   rintro _ h ⟨XF,G1,_,rfl,o⟩
   refine Jh o ?_
   (refine Jb ?_;unhygienic intros)
   refine Yb (Yf (by simp) ?_)
   obtain ⟨hd,ct,rd',wr',d,dl⟩:=q2'
   obtain rfl:rd'=1:=g4
   obtain rfl:wr'=1:=g5
   obtain ⟨k1,K1⟩:=(show See XF (wP VG 0 ⟨hd,ct,1,1,d,dl⟩) from G1).closeFd (i:=0) (by omega) 3
   replace k1:=k1.trans (ed6 hd ct d dl)
   replace K1:=Im5 K1
   refine Yc (Bw0 c k F1 XF Ai1 G1.c 0 3 (by omega)) ?_;rintro _ h ⟨rfl,o⟩<;>refine Jh o ?_
   rw [k1]
   generalize (Am3 3 XF 0 3).2=XG at *
   (refine Jb ?_;unhygienic intros)
   refine Ys fun o=>(?_:Tr _ _ _ _) o;refine Je ?_
   refine Yf rfl ?_
   refine At1 [0,0] 4 rfl rfl ?_
   exact Yr (Ef3 k c VH In6 pb a ro cc l (by omega) XG ⟨hd,ct,1,0,d,dl⟩ (by have:=V5 g1;simp only [okP,Bool.and_eq_true,decide_eq_true_eq] at this ⊢;omega) rfl rfl g3 K1) fun v h q=>q
end Go.EQ

set_option maxRecDepth 100000
namespace Go.EQ
open Go Go.NN Go.Proofs Go.ChangeShapes Go.WideShapes Go.RowKit
theorem Il6:∀ f,(cutsOf f).globs=0:=Eo2 Ig5 (by kernel_rfl)
theorem Il4:∀ f,(cutsOf f).globs≤PR.globals.size:=fun f=>by rw [Il6 f];exact Nat.zero_le _
theorem Ik8:PR.follows .mixedOrders=true:=by kernel_rfl
theorem Iq1:laidOutB PR=true:=by kernel_rfl
theorem Is6:ownKnob PR.godebug=none:=by kernel_rfl
end Go.EQ

set_option maxRecDepth 100000
namespace Go.EQ
open Go Go.NN Go.Proofs Go.Proofs.YtnmdbfbjdhgmlaaGreat Go.ChangeShapes Go.WideShapes Go.RowKit
theorem Ij6 {H:Type} {enc:TypeId × Value→H} {W:World} {v0 v1:Value} {d0 d1:DataW H} {p0 p1:List MemPlace} {b0:Nat} (k0:Value.okWide PR W .any b0 Gs8 v0) (k1:Value.okWide PR W .any b0 D63 v1)
  (h0:DataW.Trod enc PR W 0 (fun _=>true) true Gs8 v0 d0 p0) (h1:DataW.Trod enc PR W 0 (fun _=>true) true D63 v1 d1 p1) :
  Calls PR E0 #[v0,v1] W fun e W'=>e=.returned (.bool true)∧Below W.heap.size W W':=by
 obtain ⟨x0,hl0,i0⟩:=(Am7.bytes (P:=PR) (W:=W) A7 Gp5 Ii2 (by kernel_rfl)).arg (Hh5 Gp5 k0) h0
 obtain ⟨x1,rfl,_⟩:=open_bool H50 k1 h1
 have i1:Imp PR W [.bool x1] fun vs qs=>vs=[.bool x1]∧qs=[]:=Imp.flat (by simp [Dv0])
 refine (i0.app i1).run Ik8 Il4 fun vs ps J hh r o=>?_
 obtain ⟨_,_,_,_,hv0,hp0,⟨⟨a0,c0⟩,e0a,e0b⟩,⟨e1a,e1b⟩⟩:=J
 subst e0a
 subst e0b
 subst e1a
 subst e1b
 subst hv0
 subst hp0
 have O:Own hh ([(slC true A7 1 a0 x0.length c0 (A5 x0))]++r):=by
  exact o
 obtain ⟨v,h',e,rfl,_⟩:=Hc3 (slC true A7 1 a0 x0.length c0 (A5 x0)) a0 true c0 x0 x1 hh r O
 exact ⟨h',e⟩
theorem Ie5 (os:Os) (started:os.Started) (H:Type) (enc:TypeId × Value→H) :
  ReturnsInHanded {} Tryz.checked os E0 .any (Rows.pipesEndsSpec.pre6 enc Tryz.prog Tryz.f6 Rows.pipesEndsRow.domain false) (Rows.pipesEndsSpec.post enc Tryz.prog Tryz.f6 false true false false):=by
 refine returnsInHanded_of_change (C:=Tryz.checked) Is6 started (by kernel_rfl) Tryz.func6
  (ChangeSpec.witness6 (enc:=enc) (C:=Tryz.checked) false ⟨#[],#[.slice none 0 0,.bool false],[]⟩ 8 (by kernel_rfl) (by kernel_rfl) (by kernel_rfl) (by kernel_rfl)) ?_
 intro W base args ds gs before hval hW hcnd _
 have hW':=hW
 obtain ⟨p,q,hA,hV,rfl,hfz,hnd⟩:=hW
 rw [Tryz.params6] at hA hval
 obtain ⟨v0,v1,d0,d1,p0,p1,rfl,rfl,rfl,h0,h1⟩:=trodAll_two hA
 refine (Ij6 (hval 0 _ v0 rfl rfl) (hval 1 _ v1 rfl rfl) h0 h1).mono fun e W' ⟨he,hb⟩=>?_
 subst he
 refine ⟨_,rfl,H29 Iq1 ?_ rfl H50 rfl (fun ds gs hl=>?_) hW' hb⟩
 ·rw [Tryz.params6];intro t ht;simp at ht;rcases ht with rfl|rfl<;>exact ⟨by kernel_rfl,of_decide_eq_true (by kernel_rfl)⟩
 ·replace hl:ds.length=2:=hl
  cases gs with
  | cons _ _=>exact .inr (by simp)
  | nil=>match ds,hl with|[_,_],_=>exact .inl rfl
theorem Iq6:Tryz.pinned.checked.prog.funcNamed Rows.pipesEndsRow.func=some E0:=by kernel_rfl
theorem H87:joinedFacts Tryz.pinned.checked.prog E0 Tryz.f6 Rows.pipesEndsSpec Rows.pipesEndsRow=true:=by kernel_rfl
theorem In7:Tryz.f6.isInstance Tryz.pinned.checked.prog Rows.pipesEndsRow.origin Rows.pipesEndsRow.targs:=of_decide_eq_true (by kernel_rfl)
theorem In0:Tryz.f6.isWrapper Tryz.pinned.checked.prog Rows.pipesEndsRow.wrapper Rows.pipesEndsRow.mainSum:=by unfold Func.isWrapper;first|(rw [if_pos (by decide +kernel)];kernel_rfl)|(rw [if_neg (by decide +kernel)];exact ⟨rfl,rfl⟩)
theorem PipesEnds_holds:Rows.PipesEndsSaid :=
 OpenClaim.holds_of_wide E0 Tryz.f6 rfl rfl rfl rfl rfl rfl rfl ⟨rfl,rfl,rfl,rfl,rfl⟩ rfl rfl rfl rfl rfl Iq6 Tryz.func6 H87 In7 In0
  (fun os started H enc _=>Ie5 os started H enc)
end Go.EQ
