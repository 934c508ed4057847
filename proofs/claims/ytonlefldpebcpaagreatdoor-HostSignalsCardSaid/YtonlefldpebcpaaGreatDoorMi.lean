/- A blocked call ends when a signal that is caught comes, and tells so; one that ends the process ends it with that code; one that is ignored, or kept off, does nothing. -/
import Derived.Test.YtonlefldpebcpaaGreatDoorMh
import Derived.KernelRfl
set_option linter.all false
set_option maxRecDepth 10000
namespace Go.EQ
open Go Go.NN
theorem Hc4 (k:Nat) (S:KS) (A:KA):CtP B0 Aw0 [P0 k] [pt k (.cells Eq7 false (Gp9 S A))] (P0 A.s):=by
 refine CtP.of Gv9 rfl fun h r=>Tr.eq (Gx2 ..) ?_;refine Je ?_;exact Jz
theorem Iu1 (k:Nat) (S:KS) (N:Nat) (ok:KOk N S) (env:Int):Ct B0 Au4 [P0 k,int env] [E1 k S] fun v own =>
  (A16 S.tabs env≠[]∧∃ c,v=.tuple ⟨[P0 c,int 0]⟩∧own [Z6 c k env (A16 S.tabs env) [],E1 k S])∨(A16 S.tabs env=[]∧v=.tuple ⟨[.pointer none,int 1]⟩∧own [E1 k S]):=by
 refine Co Hx9 (fun _=>Hz0 ..) fun h r=>?_;refine B6 (E1 k S) fun ⟨m,s,q,rg,ea,ec,ma,mc,ms,sa,sc,ss⟩=>?_;refine Je ?_;refine Jb ?_;intros;refine Yb (Yf rfl ?_);refine Tr.pcall (Hc4 k S ⟨m,s,q,rg,ea,ec,ma,mc,ms,sa,sc,ss⟩) ?_;refine Je ?_;refine Ja ?_;intros
 try dsimp only
 refine Yc (Hf4 s S.tabs env ok.space) ?_;rintro _ h ⟨a0,c0,rfl,o⟩<;>refine Jh o ?_;refine Ja ?_;intros;refine Yv ?_;by_cases hz:A16 S.tabs env=[]
 ·refine Yt (by simp [hz]) ?_;refine B1 (E1 k S) ⟨m,s,q,rg,ea,ec,ma,mc,ms,sa,sc,ss⟩ ?_;refine Je ?_;refine Ys fun o=>?_;exact .inr ⟨hz,rfl,o.sub⟩
 ·refine Yf ?_ ?_
  ·rw [beq_eq_false_iff_ne];intro h0;exact hz (List.eq_nil_of_length_eq_zero (by omega))
  refine Tr.pcall (Hc4 k S ⟨m,s,q,rg,ea,ec,ma,mc,ms,sa,sc,ss⟩) ?_;refine Je ?_;refine Ja ?_;intros
  try dsimp only
  refine Yc (Hf4 s S.tabs env ok.space) ?_;rintro _ h ⟨a1,c1,rfl,o⟩<;>refine Jh o ?_;refine Jc ?_;intros;refine Yn fun mb h=>?_;refine Yn fun c h=>?_;refine B1 (E1 k S) ⟨m,s,q,rg,ea,ec,ma,mc,ms,sa,sc,ss⟩ ?_;refine Je ?_;refine I3 (Z6 c k env (A16 S.tabs env) []) (a1,c1,mb) [1,2,1] rfl ?_;refine Je ?_;refine Ys fun o=>?_;exact .inl ⟨hz,c,rfl,o.sub⟩
def Bj7:PlanS:=⟨[false,false],[(0,1),(1,0)],5⟩
theorem Jl6:Ct B0 Dk3 [] [] fun v own=>∃ A,v=.agg ⟨Gs0 Bj7 A⟩∧own (D53 Bj7 A):=by
 refine Co Ie9 (fun _=>Ic6 ..) fun h r=>?_;(refine Jc ?_;intros;rename H=>h);refine Yn fun b h=>?_;refine Yn fun b1 h=>?_;refine Yn fun b2 h=>?_;(refine Ja ?_;intros;rename H=>h);refine Ag4 0 rfl 2 2 rfl (by omega) ?_;refine Ag4 1 rfl 1 2 rfl (by omega) ?_;refine Je ?_;refine Ys fun o=>?_;exact ⟨⟨some ⟨b1,0,none⟩,2,some ⟨b2,0,none⟩,2⟩,rfl,(show Own h (slC false Dh8 2 (some ⟨b2,0,none⟩) Bj7.brs.length 2 (Bj7.brs.flatMap brL)::slC false G95 1 (some ⟨b1,0,none⟩) Bj7.bad.length 2 (Bj7.bad.map Value.bool)::_) from o).sub⟩
def Ai2:BootS:=Gj8 Bj7
theorem H44:B41 Ai2=true:=by kernel_rfl
theorem G08:Small Ai2:=by
 have e:Ai2=⟨[20,20],[0,0,0,0,0,0,0,0,0,1,1,1,1,1,1,1,1,1],[[0],[1]],5,[⟨0,0,0,492,[0]⟩,⟨1,0,0,492,[1]⟩,⟨0,8,0,40,[0,1]⟩,⟨1,9,0,40,[1,0]⟩]⟩:=by kernel_rfl
 rw [e];exact ⟨by simp [B3],by simp [B3],by simp [B3]⟩
theorem Bw5:Ai2=⟨[20,20],[0,0,0,0,0,0,0,0,0,1,1,1,1,1,1,1,1,1],[[0],[1]],5,[⟨0,0,0,492,[0]⟩,⟨1,0,0,492,[1]⟩,⟨0,8,0,40,[0,1]⟩,⟨1,9,0,40,[1,0]⟩]⟩:=by kernel_rfl
theorem Jx2:RBoot Ai2 (Ap2 Ai2.frames):=by
 rw [Bw5];refine ⟨by simp,by simp,by simp,fun x hx=>?_,fun x hx=>?_⟩
 ·simp only [List.mem_cons,List.not_mem_nil,or_false] at hx;rcases hx with rfl|rfl|rfl|rfl<;>simp [B3]
 ·simp only [List.mem_cons,List.not_mem_nil,or_false] at hx;rcases hx with rfl|rfl|rfl|rfl<;>simp [Ap2]
def S00:KS:=Eu3 Ai2
theorem H40:KOk 0 S00:=Jz3 H44 G08
def wrS (S:KS) (cap:Int) (b:List UInt8):KS:=(Z1 S 0 ⟨2,cap,0,0,0,0,b⟩).2
def S0:KS:=wrS S00 256 Ag7
theorem Ka8:(Z1 S00 0 ⟨2,256,0,0,0,0,Ag7⟩).1.1=0:=by kernel_rfl
theorem Js3:A16 S00.tabs 0=[256,257,258]:=by kernel_rfl
def wrR (K:RKS) (cap:Int) (b:List UInt8):RKS:={ K with R:=(Ao9 K.R 0 cap 0 b).2 }
def K0:RKS:=wrR (Dq0 Ai2) 256 Ag7
theorem Ed1:RKOk (Dq0 Ai2)∧(Dq0 Ai2).B=Ai2:=Jx5 (by rw [Bw5];simp) (by rw [Bw5];simp)
theorem Gj7 {K:RKS} (k:RKOk K) (cap:Int) (b:List UInt8):RKOk (wrR K cap b):=Jx3 k 0 cap 0 b
theorem Jk0:Dl7 K0 0≠[]:=by
 have:Dl7 K0 0=[256,257,258]:=by kernel_rfl
 rw [this];simp
theorem Ai1:Ag7.length=492:=by kernel_rfl
theorem Eh3 {l:List HP} {h:H} {α:Type} {Q:α→H→Prop} {x:Option (α × H)} (i:Nat) {b n:Nat} {cs:List Value} (hi:l[i]?=some (pt b (.cells A9 false cs))) (hn:cs.length=n) (t:Tr (l.set i (slC false A9 1 (some (Q0 b)) n n cs)) h x Q):Tr l h x Q:=fun o=>by
 refine t (Own.back (h:=h) hi ?_);have o1:=o.front hi;refine Own.slShut (pre:=[]) (post:=[]) (by simpa using o1) ⟨by omega,Nat.le_refl _,by simp,by simp,by simp,by omega,by simp⟩
theorem Jy8 (A:PlA):Ct B0 Bv6 [.agg ⟨Gs0 Bj7 A⟩] (D53 Bj7 A) fun v own =>
  ∃ k c w m,v=.tuple ⟨[P0 k,P0 c,P0 w,P0 m]⟩∧own [E1 k S0,Z6 c k 0 [256,257,258] [],rkC w K0,rcC m w 0 (Dl7 K0 0) []]:=by
 have hB:Gj8 Bj7=Ai2:=rfl;obtain ⟨ba,bc,ra,rc⟩:=A;refine Co H32 (fun _=>If9 ..) fun h r=>?_;refine Yn fun b0 h=>?_;refine Ja ?_;intros;refine Yc (Jw4 Bj7 ⟨ba,bc,ra,rc⟩ (by simp [Bj7]) (by simp [Bj7])) ?_;rintro _ h ⟨A,kA,rfl,o⟩<;>refine Jh o ?_;rw [hB] at kA ⊢;obtain ⟨fa,fc,ea,ec,sa,sc,ss,ha,hc,hs⟩:=A;refine Jc ?_;intros;refine Yn fun b1 h=>?_;refine Ja ?_;intros;have J:=J38 false Ai2 ⟨fa,fc,ea,ec,sa,sc,ss,ha,hc,hs⟩ kA G08;simp only [H44,if_true] at J;refine Yc (J) ?_;rintro _ h ⟨k,rfl,o⟩<;>refine Jh o ?_;refine Jb ?_;intros;refine Yb (Yf rfl ?_);refine Yv ?_;refine Yf rfl ?_;refine Ja ?_;intros;refine Yc (Ii4 Ai2 ⟨fa,fc,ea,ec,sa,sc,ss,ha,hc,hs⟩ kA (by rw [Bw5];simp) Jx2) ?_;rintro _ h ⟨w,rfl,o⟩<;>refine Jh o ?_;refine Ja ?_;intros;refine Yc (Iu1 k (Eu3 Ai2) 0 H40 0) ?_;rintro v h (⟨hz,c,rfl,o⟩|⟨hz,rfl,o⟩)
 case inr=>exact absurd hz (by rw [show Eu3 Ai2=S00 from rfl,Js3];simp)
 rw [show Eu3 Ai2=S00 from rfl,Js3] at o;refine (?_:Tr _ _ _ _) o;refine Je ?_;refine Jb ?_;intros;refine Yb (Yf rfl ?_);refine Yv ?_;refine Yf rfl ?_;refine Yd Ht5 fun h=>?_;refine Jc ?_;intros;refine Tr.ck (by rw [Bh4,Ai1];simp [B3]) ?_;rw [Bh4,Ai1];refine Yn fun b2 h=>?_;refine Eh3 (n:=492) 0 rfl (by rw [Aa9,show (bs Ag7).data.toList=Ag7 from rfl,Ai1]) ?_;refine Je ?_;have J2:=Ez4 k S00 0 H40 (by omega) 0 ⟨2,256,0,0,0,0,Ag7⟩ (some (Q0 b2)) 492 false (show ((2:Int)≠5) by decide);simp only [Ai1] at J2;refine Db6 J2 [2,0] rfl ?_;rintro _ h ⟨y,d,rfl,o⟩;rw [Ka8];rw [show (Z1 S00 0 ⟨2,256,0,0,0,0,Ag7⟩).2=S0 from rfl] at o;refine (?_:Tr _ _ _ _) o;refine Je ?_;refine Jc ?_;intros;refine Yf rfl ?_;refine Tr.ck (by simp [B3]) ?_;refine Yn fun b3 h=>?_;refine Eh3 (n:=492) 0 rfl (by rw [Aa9,Ai1]) ?_;refine Je ?_;have J3:=Gs3 w (Dq0 Ai2) Ed1.1 0 (by rw [Ed1.2,Bw5];simp) ⟨2,256,0,0,0,0,Ag7⟩ rfl (by rw [Ai1];simp [B3]) (slC false A9 1 (some (Q0 b3)) Ag7.length 492 (A0 Ag7)) (some (Q0 b3)) 492 false;simp only [Ai1] at J3;refine Yc J3 ?_;rintro _ h ⟨rfl,o⟩;rw [show ({ Dq0 Ai2 with R:=(Ao9 (Dq0 Ai2).R ((0:Nat):Int) 256 0 Ag7).2 }:RKS)=K0 from rfl] at o;refine (?_:Tr _ _ _ _) o;refine Je ?_;refine Ja ?_;intros;refine Yc (Ex6 w K0 (Gj7 Ed1.1 256 Ag7) 0 (by show (0:Nat)<(Dq0 Ai2).B.envs.length;rw [Ed1.2,Bw5];simp)) ?_;rintro v h (⟨_,m,rfl,o⟩|⟨hn,rfl,o⟩)
 case inr=>exact absurd hn Jk0
 refine (?_:Tr _ _ _ _) o;refine Je ?_;refine Ja ?_;intros;refine Ys fun o=>?_;exact ⟨k,c,w,m,rfl,o.sub⟩
def Dk6 (mem:List UInt8) (rg:Rg):List (List UInt8):=rg.map fun p=>slice mem p.1 p.2
theorem H89 {mem:List UInt8} {rg:Rg} {j lo n:Nat} (h:rg[j]?=some (lo,n)):(Dk6 mem rg)[j]?=some (slice mem lo n):=by unfold Dk6;rw [List.getElem?_map,h];rfl
theorem Ig8 {mem:List UInt8} {rg:Rg} (h:∀ (j lo n:Nat),rg[j]?=some (lo,n)→lo+n≤mem.length):Fit mem.length rg (Dk6 mem rg):=⟨by simp [Dk6],fun j lo n hj=>⟨h j lo n hj,slice mem lo n,H89 hj,Hq3 (h j lo n hj)⟩⟩
theorem Jm1 {mem:List UInt8} {rg:Rg} (k:RgOk rg) (h:∀ (j lo n:Nat),rg[j]?=some (lo,n)→lo+n≤mem.length):Y3 mem rg (Dk6 mem rg)=mem:=by
 have f:=Ig8 h;refine List.ext_getElem? fun i=>?_;by_cases ho:∃ (j lo n:Nat),rg[j]?=some (lo,n)∧lo≤i∧i<lo+n
 ·obtain ⟨j,lo,n,hj,h1,h2⟩:=ho;obtain ⟨i',rfl⟩:∃ i',i=lo+i':=⟨i-lo,by omega⟩
  rw [Do6 f k j lo n _ hj (H89 hj) i' (by omega),Dc6,if_pos (by omega)]
 ·exact Ec9 f i fun j lo n hj=>by
   by_cases hh:lo≤i∧i<lo+n
   ·exact absurd ⟨j,lo,n,hj,hh.1,hh.2⟩ ho
   ·omega
theorem FrOk.room {F:Fr} {j lo n:Nat} (f:Fit F.S.mem.length F.rg (Dk6 F.S.mem F.rg)) (h:F.rg[j]?=some (lo,n)):lo+n≤F.S.mem.length:=(f.each j lo n h).1
theorem Fr.at_cut {F:Fr} (k:FrOk F) (h:∀ (j lo n:Nat),F.rg[j]?=some (lo,n)→lo+n≤F.S.mem.length):F.at (Dk6 F.S.mem F.rg)=F.S:=by
 unfold Fr.at;rw [Jm1 k.dj h];rfl
theorem Own.cmTake {r:List HP} {h:H} (c k:Nat) (F:Fr) (bad:List RecS) (ok:FrOk F) (hr:∀ (j lo n:Nat),F.rg[j]?=some (lo,n)→lo+n≤F.S.mem.length) (o1:Own h (E1 k F.S::Z6 c k F.env F.caps bad::r)):Own h (cmC c k F ⟨Dk6 F.S.mem F.rg,bad⟩::r):=by
 refine Own.inex (f:=fun u:Unit=>sl (cmF c k F ⟨Dk6 F.S.mem F.rg,bad⟩)) () (Own.group (l:=cmF c k F ⟨Dk6 F.S.mem F.rg,bad⟩) ?_);show Own h (E1 k (F.at (Dk6 F.S.mem F.rg))::Z6 c k F.env F.caps bad::pu _::r);rw [Fr.at_cut ok hr];have o2:=Own.inpure (show Fit F.S.mem.length F.rg (Dk6 F.S.mem F.rg) from Ig8 hr) o1;exact o2.picks [1,1,0] rfl
theorem J60 {l r:List HP} {h:H} {α:Type} {Q:α→H→Prop} {x:Option (α × H)} (c k:Nat) (F:Fr) (X:CX) [tk:Take (cmC c k F X) l r]
  (t:Fit F.S.mem.length F.rg X.m→Tr (E1 k (F.at X.m)::Z6 c k F.env F.caps X.bad::r) h x Q):Tr l h x Q:=fun o=>by
 have o1:Own h (cmC c k F X::r):=o.perm tk.pm;obtain ⟨u,o2⟩:=Own.ex (f:=fun u:Unit=>sl (cmF c k F X)) o1;have o3:Own h (E1 k (F.at X.m)::Z6 c k F.env F.caps X.bad::pu (Fit F.S.mem.length F.rg X.m)::r):=Own.join o2;have f:=(o3.front (i:=2) rfl).pure;exact t f (o3.front (i:=2) rfl).tail
theorem Iw6 {S:KS} {env cap obj:Int} {lo n:Nat} {e1 e2:Int} (hg:B71 S.tabs env cap=some ⟨obj,3,0,(n:Int),e1,e2⟩) (h0:0≤obj) (hr:S.regs[obj.toNat]?=some ((lo:Int),(n:Int))) (hl:lo+n≤65536) :
  ∀ (a m:Nat) (right:Int),right=1∨right=2→a+m≤n→V6 S.tabs S.regs env cap right a m=(((lo+a:Nat):Int),0):=by
 intro a m right hri ha;have hlt:=(List.getElem?_eq_some_iff.1 hr).1;unfold V6;rw [hg];have b1:(D5 .i64 3 1==0)=false:=by kernel_rfl
 have b2:(D5 .i64 3 2==0)=false:=by kernel_rfl
 have hb:¬ ((D5 .i64 3 right==0)=true):=by rcases hri with rfl|rfl<;>simp [b1,b2]
 simp only
 have h2:(decide ((a:Int)<0) || decide ((m:Int)<0) || decide ((a:Int)>(n:Int)) || decide ((m:Int)>IntKind.wrap .i64 ((n:Int)-a)) || decide (obj<0) || decide (obj≥S.regs.length))=false:=by
  simp only [Bool.or_eq_false_iff,decide_eq_false_iff_not,B8];omega
 have h3:(decide (IntKind.wrap .i64 (0+(a:Int))>(n:Int)) || decide ((m:Int)>IntKind.wrap .i64 (IntKind.wrap .i64 ((n:Int)-0)-a)))=false:=by
  simp only [Bool.or_eq_false_iff,decide_eq_false_iff_not,B8];omega
 have h4:IntKind.wrap .i64 (IntKind.wrap .i64 ((lo:Int)+0)+a)=((lo+a:Nat):Int):=by simp only [B8];omega
 rw [if_neg hb];simp only [h2,hr,h3,h4,Bool.false_eq_true,if_false]
structure Like (S:KS):Prop where
 ok:KOk 0 S
 tabs:S.tabs=S00.tabs
 regs:S.regs=S00.regs
 envs:S.envs=S00.envs
 mem:S.mem.length=2560
theorem E50 {S:KS} (k:Like S) {m:List UInt8} (h:m.length=2560):Like (N0 S m) :=
 ⟨⟨k.ok.envs,k.ok.tabs,k.ok.space,k.ok.quota,by show m.length≤65536;omega,k.ok.regs,k.ok.may,k.ok.mayl,k.ok.nsect,k.ok.sects,k.ok.now⟩,k.tabs,k.regs,k.envs,h⟩
theorem J53:Like S00:=⟨H40,rfl,rfl,rfl,by kernel_rfl⟩
theorem J14 (S:KS) (k:Like S) (cap:Int) (b:List UInt8):Like (wrS S cap b):=by
 unfold wrS Z1
 split
 ·exact k
 ·exact E50 k (by rw [I17];exact k.mem)
theorem Eo0:Like S0:=J14 S00 J53 256 Ag7
def rgP (s:Nat):Rg:=[(1280*s,492),(512,40),(1856,40)]
def frP (S:KS) (s:Nat) (env:Int):Fr:=⟨S,0,env,[256,257,258],rgP s⟩
theorem H65:S00.regs=[(0,492),(1280,492),(512,40),(1856,40)]:=by kernel_rfl
theorem J47:S00.envs.length=18:=by kernel_rfl
structure EnvP (s:Nat) (env:Int):Prop where
 hs:s<2
 he:0≤env∧env<18
 a:B71 S00.tabs env 256=some ⟨s,3,0,492,0,0⟩
 b:B71 S00.tabs env 257=some ⟨2,3,0,40,0,0⟩
 c:B71 S00.tabs env 258=some ⟨3,3,0,40,0,0⟩
theorem G64:EnvP 0 0:=⟨by omega,by omega,by kernel_rfl,by kernel_rfl,by kernel_rfl⟩
theorem Kb7:EnvP 0 3:=⟨by omega,by omega,by kernel_rfl,by kernel_rfl,by kernel_rfl⟩
theorem Ex9 {s j lo n:Nat} (h:(rgP s)[j]?=some (lo,n)):(j=0∧lo=1280*s∧n=492)∨(j=1∧lo=512∧n=40)∨(j=2∧lo=1856∧n=40):=by
 unfold rgP at h
 match j,h with
 | 0,h=>simp at h;omega
 | 1,h=>simp at h;omega
 | 2,h=>simp at h;omega
 | j+3,h=>simp at h
theorem E37 {S:KS} (k:Like S) {s:Nat} (hs:s<2) (env:Int):∀ (j lo n:Nat),(frP S s env).rg[j]?=some (lo,n)→lo+n≤(frP S s env).S.mem.length:=by
 intro j lo n h;have hm:=k.mem;have:=Ex9 h;show lo+n≤S.mem.length;omega
theorem He7 {S:KS} (k:Like S) {s:Nat} {env:Int} (e:EnvP s env):FrOk (frP S s env):=by
 have hs:=e.hs;have he:=e.he;refine ⟨k.ok,by simp [frP],by simp [frP],by simp [frP],by simp [frP,rgP],?_,?_,?_,⟨1280*s,rfl⟩,?_⟩
 ·show ¬ (env<0∨env≥(S.envs.length:Int));rw [k.envs,J47];omega
 ·intro j cap lo n hc hr;show ∀ (a m:Nat) (right:Int),right=1∨right=2→a+m≤n→V6 S.tabs S.regs env cap right a m=_;have hg:=Ex9 hr;rcases hg with ⟨rfl,rfl,rfl⟩|⟨rfl,rfl,rfl⟩|⟨rfl,rfl,rfl⟩
  ·cases hc
   refine Iw6 (obj:=s) (e1:=0) (e2:=0) (by rw [k.tabs];exact e.a) (by omega) ?_ (by omega);rw [k.regs,H65,Int.toNat_natCast]
   match s,hs with
   | 0,_=>rfl
   | 1,_=>rfl
  ·cases hc
   exact Iw6 (obj:=2) (e1:=0) (e2:=0) (by rw [k.tabs];exact e.b) (by omega) (by rw [k.regs,H65];rfl) (by omega)
  ·cases hc
   exact Iw6 (obj:=3) (e1:=0) (e2:=0) (by rw [k.tabs];exact e.c) (by omega) (by rw [k.regs,H65];rfl) (by omega)
 ·intro i j lo n lo' n' hij hi hj;have h1:=Ex9 hi;have h2:=Ex9 hj;omega
 ·intro j lo n h0 h;have:=Ex9 h;omega
abbrev F0:Fr:=frP S0 0 0
def X0:CX:=⟨Dk6 S0.mem (rgP 0),[]⟩
theorem Jt2:FrOk F0:=He7 Eo0 G64
theorem Jk7 (A:PlA):Ct B0 Bv6 [.agg ⟨Gs0 Bj7 A⟩] (D53 Bj7 A) fun v own =>
  ∃ k c w m,v=.tuple ⟨[P0 k,P0 c,P0 w,P0 m]⟩∧own [cmC c k F0 X0,rkC w K0,rcC m w 0 (Dl7 K0 0) []]:=by
 intro h r o;obtain ⟨v,h',e,k,c,w,m,hv,o2⟩:=Jy8 A h r o;refine ⟨v,h',e,k,c,w,m,hv,?_⟩;exact Own.cmTake c k F0 [] Jt2 (E37 Eo0 (by omega) 0) o2
theorem Iv7 {y m:Int} (h:0≤y):Int.tmod y m=y%m:=Int.tmod_eq_emod_of_nonneg h
theorem Ah2 {x:Int} (h:0≤x∧x<256):((b8 x).toNat:Int)=x:=by rw [← Bx0,D51];omega
theorem Ic2 {p:PipeS} (h:okP p=true):V9 (P2 p)=(p,1):=by
 have hk:=h;simp only [okP,Bool.and_eq_true,decide_eq_true_eq] at h
 have e:Bm4 (P2 p)=p:=by
  obtain ⟨a,b,c,d,l,hl⟩:=p;simp only at h;have h1:=Ah2 (x:=a) (by omega);have h2:=Ah2 (x:=b) (by omega);have h3:=Ah2 (x:=c) (by omega);have h4:=Ah2 (x:=d) (by omega);simp [Bm4,P2,Ao6,E41 hl];exact ⟨h1,h2,h3,h4⟩
 have hz:(P2 p).all (·==0)=false:=by simp [P2,Ao6]
 unfold V9 isP;rw [hz,e,hk];simp
theorem G43 {l b:List UInt8} {a c n:Nat} (h:a+b.length≤l.length) (hd:c+n≤a∨a+b.length≤c):slice (Q1 l a b) c n=slice l c n:=by
 refine List.ext_getElem? fun i=>?_;rw [Dc6,Dc6]
 split
 ·rw [Bz4 h,if_neg (by omega)]
 ·rfl
theorem Hg7 {l b:List UInt8} {a:Nat} (h:a+b.length≤l.length):slice (Q1 l a b) a b.length=b:=by
 refine List.ext_getElem? fun i=>?_;rw [Dc6]
 split
 ·rw [Bz4 h,if_pos (by omega)];congr 1;omega
 ·rw [List.getElem?_eq_none (by omega)]
abbrev Jt9:List Int:=[256,257,258]
theorem Hn1 (n:Int):BitVec.ofInt 64 (IntKind.wrap .i64 n)=BitVec.ofInt 64 n:=by
 apply BitVec.eq_of_toNat_eq;rw [BitVec.toNat_ofInt,BitVec.toNat_ofInt,B8];omega
theorem Ig0 (x:BitVec 64):BitVec.ofInt 64 (x.toNat:Int)=x:=by
 apply BitVec.eq_of_toNat_eq;have:=x.isLt;rw [BitVec.toNat_ofInt];omega
theorem J27 (a b:Int):BitVec.ofInt 64 (J8 .i64 a b)=BitVec.ofInt 64 a &&& ~~~ BitVec.ofInt 64 b:=by
 unfold J8;rw [Hn1];exact Ig0 _
theorem J78 {a b:Int} (h:BitVec.ofInt 64 a &&& BitVec.ofInt 64 b=0#64):D5 .i64 a b=0:=by
 unfold D5;rw [show IntKind.bits .i64=64 from rfl,h];rfl
theorem J44 {a b:Int} (h:BitVec.ofInt 64 a &&& ~~~ BitVec.ofInt 64 b=0#64):J8 .i64 a b=0:=by
 unfold J8;rw [show IntKind.bits .i64=64 from rfl,h];rfl
def nx (l:List Int) (k:Nat):Int:=if k>l.length then 7*k else l.getD (k-1) 0%16777216
structure InS (p:ProcS):Prop where
 a:0≤p.pending∧p.pending≤65535
 b:0≤p.mask∧p.mask≤65535
 c:0≤p.ignored∧p.ignored≤65535
 d:0≤p.caught∧p.caught≤65535
theorem H36 {p:ProcS} (h:okS p=true) (r:InS p):Aa5 (A61 p)=(p,1):=by
 have hk:=h;obtain ⟨ra,rb,rc,rd⟩:=r
 have e:Bq5 (A61 p)=p:=by
  obtain ⟨st,pa,gr,co,pe,ma,ig,ca,fds,hl⟩:=p;simp only at ra rb rc rd;unfold okS at h;simp only [Bool.and_eq_true,Bool.not_eq_true',Bool.or_eq_false_iff,decide_eq_false_iff_not,List.any_eq_false] at h
  match fds,hl with
  | [f0,f1,f2,f3,f4,f5,f6,f7],hl =>
   have hf:=h.2.2.1;simp at hf
   have two_b:∀ n:Int,0≤n∧n≤65535→((hi2 n).toNat:Int)*256+((lo2 n).toNat:Int)=n:=fun n hn=>by
    unfold hi2 lo2;rw [if_pos hn,if_pos hn,Ah2 (by omega),← Bx0,D51];omega
   have g0:=h.1;simp only [Bq5,A61,E06,two];simp;refine ⟨Ah2 (by omega),Ah2 (by omega),Ah2 (by omega),Ah2 (by omega),two_b _ ra,two_b _ rb,two_b _ rc,two_b _ rd,Ah2 (by omega),Ah2 (by omega),Ah2 (by omega),Ah2 (by omega),Ah2 (by omega),Ah2 (by omega),Ah2 (by omega),Ah2 (by omega)⟩
 have hz:(A61 p).all (·==0)=false:=by
  simp [A61,E06]
 unfold Aa5 isS;rw [hz,e,hk];simp
theorem Jh3:B70 0 0=true:=by kernel_rfl
theorem Ka6:EnvP 0 1:=⟨by omega,by omega,by kernel_rfl,by kernel_rfl,by kernel_rfl⟩
def stR (kind:Int) (l:List UInt8):Int:=if kind=1 then (Aa5 l).2 else if kind=2 then (Ad2 l).2 else if kind=5 then (Av0 l).2 else (V9 l).2
def rd (X:CX) (r:RecS):List UInt8 :=
 match L0 X.m.length r with
 | some (j,a,n)=>slice (X.m.getD j []) a n
 | none=>[]
structure Clean (nc:Nat) (X:CX):Prop where
 len:X.m.length=nc
 pos:0<nc
 bad:X.bad=[]
 own:(X.m.getD 0 []).length=492
 brs:∀ j,0<j→j<nc→(X.m.getD j []).length=40
 ok:∀ r:RecS,1≤r.kind→r.kind≤5→0≤r.index→r.index<Ab4 nc r.kind→stR r.kind (rd X r)≠2
structure Rin (nc:Nat) (r:RecS):Prop where
 a:1≤r.kind
 b:r.kind≤5
 c:0≤r.index
 d:r.index<Ab4 nc r.kind
theorem Rin.place {nc:Nat} {r:RecS} (h:Rin nc r) (hn:0<nc):∃ j a,L0 nc r=some (j,a,Y1 r.kind)∧j<nc∧(j=0→a+Y1 r.kind≤492)∧(0<j→a=0∧Y1 r.kind=40):=by
 obtain ⟨h1,h2,h3,h4⟩:=h;obtain ⟨k,i⟩:=r;simp only at h1 h2 h3 h4;have hk:k=1∨k=2∨k=3∨k=4∨k=5:=by omega
 unfold L0 Y1;simp only;rw [if_neg (by omega)];rcases hk with rfl|rfl|rfl|rfl|rfl
 ·exact ⟨0,_,rfl,hn,fun _=>by simp [Ab4] at h4 ⊢;omega,fun h=>by omega⟩
 ·exact ⟨0,_,rfl,hn,fun _=>by simp [Ab4] at h4 ⊢;omega,fun h=>by omega⟩
 ·simp only [Ab4] at h4;by_cases h5:i<4
  ·exact ⟨0,_,by simp [h5];rfl,hn,fun _=>by simp;omega,fun h=>by omega⟩
  ·exact ⟨i.toNat-3,0,by simp [h5],by simp at h4;omega,fun h=>by omega,fun _=>⟨rfl,rfl⟩⟩
 ·exact ⟨0,_,rfl,hn,fun _=>by simp,fun h=>by omega⟩
 ·exact ⟨0,_,rfl,hn,fun _=>by simp,fun h=>by omega⟩
theorem Jn6 {nc:Nat} {r r':RecS} (h:Rin nc r) (h':Rin nc r') (ne:r≠r') {j a n j' a' n':Nat} (e:L0 nc r=some (j,a,n)) (e':L0 nc r'=some (j',a',n')):j≠j'∨a+n≤a'∨a'+n'≤a:=by
 obtain ⟨h1,h2,h3,h4⟩:=h;obtain ⟨g1,g2,g3,g4⟩:=h';obtain ⟨k,i⟩:=r;obtain ⟨k',i'⟩:=r';simp only at h1 h2 h3 h4 g1 g2 g3 g4
 have ne':k≠k'∨i≠i':=by
  by_cases hk:k=k'
  ·right;intro hi;exact ne (by rw [hk,hi])
  ·exact .inl hk
 unfold L0 at e e';simp only at e e';rw [if_neg (by omega)] at e e';unfold Ab4 at h4 g4;have hk:k=1∨k=2∨k=3∨k=4∨k=5:=by omega
 have hk':k'=1∨k'=2∨k'=3∨k'=4∨k'=5:=by omega
 have fin:∀ {x y:Nat × Nat × Nat},some x=some y→x=y:=fun h=>by cases h;rfl
 rcases hk with rfl|rfl|rfl|rfl|rfl<;>rcases hk' with rfl|rfl|rfl|rfl|rfl<;>simp at e e' h4 g4 ne'<;>(try split at e)<;>(try split at e')<;>(try simp at e e')<;>omega
def B88 (X:CX) (r:RecS) (b:List UInt8):CX :=
 match L0 X.m.length r with
 | some (j,a,_)=>{ X with m:=X.m.set j (Q1 (X.m.getD j []) a b) }
 | none=>X
theorem G36 (l:List (List UInt8)) (j j':Nat) (x:List UInt8) (h:j<l.length):(l.set j x).getD j' []=if j'=j then x else l.getD j' []:=by
 rw [List.getD_eq_getElem?_getD,List.getD_eq_getElem?_getD,List.getElem?_set];by_cases hj:j=j'
 ·subst hj;simp [h]
 ·rw [if_neg hj,if_neg (fun e=>hj e.symm)]
section
variable {nc:Nat} {X:CX} (c:Clean nc X) {r r':RecS} (h:Rin nc r) (h':Rin nc r')
include c h
theorem I64:rdX X r=some (rd X r):=by
 obtain ⟨j,a,e,_⟩:=h.place c.pos;unfold rdX rd;rw [c.len,e];simp [c.bad]
theorem Dd8 (b:List UInt8):wrX X r b true=(true,B88 X r b):=by
 obtain ⟨j,a,e,_⟩:=h.place c.pos;unfold wrX B88;rw [c.len,e];simp [c.bad]
theorem Gn7 {j a n:Nat} (e:L0 nc r=some (j,a,n)):a+n≤(X.m.getD j []).length∧j<X.m.length∧n=Y1 r.kind:=by
 obtain ⟨j',a',e',hj,h0,h1⟩:=h.place c.pos;rw [e] at e';cases e'
 rw [c.len];by_cases hz:j=0
 ·subst hz;rw [c.own];exact ⟨h0 rfl,hj,rfl⟩
 ·rw [c.brs j (by omega) hj];have:=h1 (by omega);exact ⟨by omega,hj,rfl⟩
include h'
theorem Aj3 {b:List UInt8} (hb:b.length=Y1 r.kind):rd (B88 X r b) r'=if r'=r then b else rd X r':=by
 obtain ⟨j,a,e,_⟩:=h.place c.pos;obtain ⟨j',a',e',_⟩:=h'.place c.pos;have p:=Gn7 c h e;have p':=Gn7 c h' e';have es:B88 X r b={ X with m:=X.m.set j (Q1 (X.m.getD j []) a b) }:=by unfold B88;rw [c.len,e]
 have el:(B88 X r b).m.length=nc:=by rw [es];simp [c.len]
 unfold rd;rw [el,e',c.len,e',es];simp only;rw [G36 _ _ _ _ p.2.1];by_cases hr:r'=r
 ·subst hr;rw [e] at e';cases e'
  rw [if_pos rfl,if_pos rfl];have:=Hg7 (l:=X.m.getD j []) (b:=b) (a:=a) (by omega)
  rwa [hb] at this
 ·rw [if_neg hr];by_cases hj:j'=j
  ·subst hj;rw [if_pos rfl];have dj:=Jn6 h' h hr e' e;exact G43 (by omega) (by omega)
  ·rw [if_neg hj]
end
theorem Dc9 {nc:Nat} {X:CX} (c:Clean nc X) {r:RecS} (h:Rin nc r) {b:List UInt8} (hb:b.length=Y1 r.kind) (hs:stR r.kind b≠2):Clean nc (B88 X r b):=by
 obtain ⟨j,a,e,_⟩:=h.place c.pos;have p:=Gn7 c h e;have es:B88 X r b={ X with m:=X.m.set j (Q1 (X.m.getD j []) a b) }:=by unfold B88;rw [c.len,e]
 refine ⟨by rw [es];simp [c.len],c.pos,by rw [es];exact c.bad,?_,?_,?_⟩
 ·rw [es];simp only;rw [G36 _ _ _ _ p.2.1]
  split
  ·rename_i h0;subst h0;rw [Am6 (by omega)];exact c.own
  ·exact c.own
 ·intro i h0 h1;rw [es];simp only;rw [G36 _ _ _ _ p.2.1]
  split
  ·rename_i h2;subst h2;rw [Am6 (by omega)];exact c.brs i h0 h1
  ·exact c.brs i h0 h1
 ·intro r' h1 h2 h3 h4;rw [Aj3 c h ⟨h1,h2,h3,h4⟩ hb]
  split
  ·rename_i hr;rw [hr];exact hs
  ·exact c.ok r' h1 h2 h3 h4
theorem Dw5 {α:Type} (dec:List UInt8→α × Int) (z:α) {nc:Nat} {X:CX} (c:Clean nc X) {r:RecS} (h:Rin nc r) (hd:(dec (rd X r)).2=stR r.kind (rd X r)):Ab6 dec z X r=(dec (rd X r),X):=by
 unfold Ab6;rw [I64 c h];simp only;rw [if_neg (by rw [hd];exact c.ok r h.a h.b h.c h.d)]
abbrev vS (X:CX) (i:Int):ProcS × Int:=Aa5 (rd X ⟨1,i⟩)
abbrev vF (X:CX) (i:Int):FileS × Int:=Ad2 (rd X ⟨2,i⟩)
abbrev vP (X:CX) (i:Int):PipeS × Int:=V9 (rd X ⟨3,i⟩)
theorem Bw0 {nc:Nat} {i:Int} (h:0≤i∧i<8):Rin nc ⟨1,i⟩:=⟨by simp,by simp,h.1,h.2⟩
theorem Bw1 {nc:Nat} {i:Int} (h:0≤i∧i<12):Rin nc ⟨2,i⟩:=⟨by simp,by simp,h.1,h.2⟩
theorem Bq3 {nc:Nat} {i:Int} (h:0≤i∧i<3+nc):Rin nc ⟨3,i⟩:=⟨by simp,by simp,h.1,h.2⟩
theorem O8 {nc:Nat} {X:CX} (c:Clean nc X) {i:Int} (h:0≤i∧i<8):E72 X i=(vS X i,X):=Dw5 Aa5 .zero c (Bw0 h) rfl
theorem Bp3 {nc:Nat} {X:CX} (c:Clean nc X) {i:Int} (h:0≤i∧i<12):E35 X i=(vF X i,X):=Dw5 Ad2 .zero c (Bw1 h) rfl
theorem Dt9 {nc:Nat} {X:CX} (c:Clean nc X) {i:Int} (h:0≤i∧i<3+nc):D88 X i=(vP X i,X):=Dw5 V9 .zero c (Bq3 h) rfl
theorem D74 {f:CX→Int→CX} {X:CX}:∀ (m:Nat) (i:Int),(∀ j,i≤j→j<i+m→f X j=X)→D57 f m i X=X
 | 0,_,_=>rfl
 | m+1,i,h=>by
  unfold D57;rw [h i (by omega) (by omega)];exact D74 m (i+1) fun j h1 h2=>h j (by omega) (by omega)
theorem Q8 {nc:Nat} {X:CX} (c:Clean nc X):Ha8 X=X:=by
 have h3:Hh9 X=X:=by
  unfold Hh9;have e1:Gq5 X=(V9 (rd X ⟨4,0⟩),X):=Dw5 V9 .zero c ⟨by simp,by simp,by simp,by simp [Ab4]⟩ rfl;have e2:Gm9 X=(Av0 (rd X ⟨5,0⟩),X):=Dw5 Av0 0 c ⟨by simp,by simp,by simp,by simp [Ab4]⟩ rfl;rw [e1];simp only;rw [e2]
 have hl:=c.len;unfold Ha8 lookN H54 Ib1;rw [D74 8 0 (fun j h1 h2=>by rw [O8 c (by omega)])];rw [D74 12 0 (fun j h1 h2=>by rw [Bp3 c (by omega)])];rw [D74 (3+X.m.length) 0 (fun j h1 h2=>by rw [Dt9 c (by omega)]),h3]
theorem H69 {f:FileS} (h:okF f=true):Ad2 (Ap7 f)=(f,1):=by
 have hk:=h;simp only [okF,Bool.and_eq_true,Bool.or_eq_true,decide_eq_true_eq,beq_iff_eq,bne_iff_ne] at h
 have e:Ds3 (Ap7 f)=f:=by
  obtain ⟨a,b,c,d⟩:=f;simp only at h;have h1:=Ah2 (x:=a) (by omega);have h2:=Ah2 (x:=b) (by omega);have h3:=Ah2 (x:=c) (by omega);have h4:=Ah2 (x:=d) (by omega);simp [Ds3,Ap7,Bm2];exact ⟨h1,h2,h3,h4⟩
 have hz:(Ap7 f).all (·==0)=false:=by simp [Ap7,Bm2]
 unfold Ad2 isF;rw [hz,e,hk];simp
section
variable {nc:Nat} {X:CX} (c:Clean nc X)
include c
abbrev As5 (X:CX) (i:Int) (p:ProcS):CX:=B88 X ⟨1,i⟩ (A61 p)
abbrev A56 (X:CX) (i:Int) (f:FileS):CX:=B88 X ⟨2,i⟩ (Ap7 f)
abbrev D22 (X:CX) (i:Int):CX:=B88 X ⟨1,i⟩ (List.replicate 24 0)
theorem O7 {i:Int} (h:0≤i∧i<8) {p:ProcS} (ok:okS p=true) (r:InS p) :
  Bc0 X i p=(true,As5 X i p)∧Clean nc (As5 X i p)∧(∀ j:Int,0≤j∧j<8→vS (As5 X i p) j=if j=i then (p,1) else vS X j)∧(∀ j:Int,0≤j∧j<12→vF (As5 X i p) j=vF X j)∧(∀ j:Int,0≤j∧j<3+nc→vP (As5 X i p) j=vP X j):=by
 have hl:(A61 p).length=Y1 (1:Int):=by rw [E49];rfl
 refine ⟨by unfold Bc0;rw [ok];exact Dd8 c (Bw0 h) _,Dc9 c (Bw0 h) hl (by show (Aa5 (A61 p)).2≠2;rw [H36 ok r];simp),fun j hj=>?_,fun j hj=>?_,fun j hj=>?_⟩
 ·show Aa5 (rd _ _)=_;rw [Aj3 c (Bw0 h) (Bw0 hj) hl];by_cases e:j=i
  ·rw [if_pos (by rw [e]),if_pos e];exact H36 ok r
  ·rw [if_neg (by simp [e]),if_neg e]
 ·show Ad2 (rd _ _)=_;rw [Aj3 c (Bw0 h) (Bw1 hj) hl,if_neg (by simp)]
 ·show V9 (rd _ _)=_;rw [Aj3 c (Bw0 h) (Bq3 hj) hl,if_neg (by simp)]
theorem Aj2 {i:Int} (h:0≤i∧i<12) {f:FileS} (ok:okF f=true) :
  Bw8 X i f=(true,A56 X i f)∧Clean nc (A56 X i f)∧(∀ j:Int,0≤j∧j<8→vS (A56 X i f) j=vS X j)∧(∀ j:Int,0≤j∧j<12→vF (A56 X i f) j=if j=i then (f,1) else vF X j)∧(∀ j:Int,0≤j∧j<3+nc→vP (A56 X i f) j=vP X j):=by
 have hl:(Ap7 f).length=Y1 (2:Int):=by rw [Ea7];rfl
 refine ⟨by unfold Bw8;rw [ok];exact Dd8 c (Bw1 h) _,Dc9 c (Bw1 h) hl (by show (Ad2 (Ap7 f)).2≠2;rw [H69 ok];simp),fun j hj=>?_,fun j hj=>?_,fun j hj=>?_⟩
 ·show Aa5 (rd _ _)=_;rw [Aj3 c (Bw1 h) (Bw0 hj) hl,if_neg (by simp)]
 ·show Ad2 (rd _ _)=_;rw [Aj3 c (Bw1 h) (Bw1 hj) hl];by_cases e:j=i
  ·rw [if_pos (by rw [e]),if_pos e];exact H69 ok
  ·rw [if_neg (by simp [e]),if_neg e]
 ·show V9 (rd _ _)=_;rw [Aj3 c (Bw1 h) (Bq3 hj) hl,if_neg (by simp)]
theorem Bg0 {i:Int} (h:0≤i∧i<8) :
  Bz0 X ⟨1,i⟩=(true,D22 X i)∧Clean nc (D22 X i)∧(∀ j:Int,0≤j∧j<8→vS (D22 X i) j=if j=i then (.zero,0) else vS X j)∧(∀ j:Int,0≤j∧j<12→vF (D22 X i) j=vF X j)∧(∀ j:Int,0≤j∧j<3+nc→vP (D22 X i) j=vP X j):=by
 have hl:(List.replicate 24 (0:UInt8)).length=Y1 (1:Int):=rfl;refine ⟨Dd8 c (Bw0 h) _,Dc9 c (Bw0 h) hl (by show (Aa5 (List.replicate 24 0)).2≠2;rw [show (Aa5 (List.replicate 24 0))=(.zero,0) from rfl];simp),fun j hj=>?_,fun j hj=>?_,fun j hj=>?_⟩
 ·show Aa5 (rd _ _)=_;rw [Aj3 c (Bw0 h) (Bw0 hj) hl];by_cases e:j=i
  ·rw [if_pos (by rw [e]),if_pos e];rfl
  ·rw [if_neg (by simp [e]),if_neg e]
 ·show Ad2 (rd _ _)=_;rw [Aj3 c (Bw0 h) (Bw1 hj) hl,if_neg (by simp)]
 ·show V9 (rd _ _)=_;rw [Aj3 c (Bw0 h) (Bq3 hj) hl,if_neg (by simp)]
theorem Du5 {i:Int} (h:0≤i∧i<8):((vS X i).2=0∧(vS X i).1=.zero)∨((vS X i).2=1∧okS (vS X i).1=true):=by
 have:=c.ok ⟨1,i⟩ (by simp) (by simp) h.1 h.2;have hk:(vS X i).2≠2:=this;unfold vS Aa5 at hk ⊢
 split
 ·exact .inl ⟨rfl,rfl⟩
 ·split
  ·rename_i h2
   unfold isS at h2;simp only [Bool.and_eq_true] at h2;exact .inr ⟨rfl,h2.1⟩
  ·rename_i h1 h2;simp [h1,h2] at hk
theorem Hh4 {i:Int} (h:0≤i∧i<12):((vF X i).2=0∧(vF X i).1=.zero)∨((vF X i).2=1∧okF (vF X i).1=true):=by
 have:=c.ok ⟨2,i⟩ (by simp) (by simp) h.1 h.2;have hk:(vF X i).2≠2:=this;unfold vF Ad2 at hk ⊢
 split
 ·exact .inl ⟨rfl,rfl⟩
 ·split
  ·rename_i h2
   unfold isF at h2;simp only [Bool.and_eq_true] at h2;exact .inr ⟨rfl,h2.1⟩
  ·rename_i h1 h2;simp [h1,h2] at hk
end
abbrev I2 (n e:Int) (b:Bool):List Value:=[int n,int e,.slice none 0 0,.bool b]
theorem Bf1 (e:Int):Ct B0 U4 [int e] [] fun v own=>v=.agg ⟨I2 0 e false⟩∧own []:=by
 refine Co Ij3 (fun _=>Ir2 ..) fun h r=>?_;refine Ja ?_;intros;exact Yz
theorem Dc2 (ok:Bool) (n:Int):Ct B0 Ag6 [.bool ok,int n] [] fun v own=>v=.agg ⟨if ok then I2 n 0 false else I2 0 105 false⟩∧own []:=by
 refine Co Im9 (fun _=>Ik3 ..) fun h r=>?_
 cases ok with
 | true =>
  refine Ja ?_;intros;exact Yz
 | false =>
  refine Ja ?_;intros;refine Ye (Bf1 105) fun h=>?_;intros;exact Yz
def N4 (X:CX) (i:Int):ProcS × Int:=if (vS X i).2=1∧(vS X i).1.state=1 then ((vS X i).1,0) else (.zero,105)
theorem B02 (b k:Nat) (F:Fr) (X:CX) (ok:FrOk F) {nc:Nat} (c:Clean nc X) (i:Int) (hi:0≤i∧i<8):Ct B0 Al3 [P0 b,int i] [cmC b k F X] fun v own=>v=.tuple ⟨[.agg ⟨B5 (N4 X i).1⟩,int (N4 X i).2]⟩∧own [cmC b k F X]:=by
 refine Co Iq3 (fun _=>Iq2 ..) fun h r=>?_;refine Jc ?_;intros;refine Yn fun b0 h=>?_;refine Yd (Ag5 b k F X ok) fun h=>?_;rw [Q8 c];refine Ja ?_;intros;refine Yd (Aa6 b k F X ok i) fun h=>?_;rw [O8 c hi];dsimp only;refine Jc ?_;intros;refine Yn fun b1 h=>?_;refine Jb ?_;intros;refine Tr.orG (c:=(vS X i).1.state != 1) (fun hb=>?_) ?_
 ·exact Jz
 unfold N4;by_cases h1:(vS X i).2=1∧(vS X i).1.state=1
 ·rw [if_pos h1];refine Yf (by simp [h1.1,h1.2]) ?_;refine Ja ?_;intros;exact Yz
 ·rw [if_neg h1];refine Yt (by simp;by_cases h2:(vS X i).2=1<;>simp [h2] at h1 ⊢;exact h1) ?_;refine Ja ?_;intros;exact Yz
def Aq7 (X:CX):Nat→Int→Int
 | 0,_=>-1
 | m+1,i=>if (vS X i).2=0 then i else Aq7 X m (i+1)
theorem Iz0 (b k:Nat) (F:Fr) (X:CX) (ok:FrOk F) {nc:Nat} (c:Clean nc X):∀ (m:Nat) (i:Int),0≤i→i+m=8 →
  CtJ H0 Az6 Bz2 [(0,P0 b),(6,int i)] [cmC b k F X] fun v own=>v=int (Aq7 X m i)∧own [cmC b k F X]:=by
 intro m
 induction m with
 | zero =>
  intro i h0 hi;refine Cj Et1 (fun _=>E03 ..) fun h r=>?_;refine Yf (by simp;omega) ?_;exact Yz
 | succ m ih =>
  intro i h0 hi;have e1:=wI i;refine Cj Et1 (fun _=>E03 ..) fun h r=>?_;refine Yt (by simp;omega) ?_;refine Yd (Aa6 b k F X ok i) fun h=>?_;rw [O8 c (by omega)];dsimp only;refine Jc ?_;intros;refine Yn fun b1 h=>?_;refine Ja ?_;intros;rw [show Aq7 X (m+1) i=if (vS X i).2=0 then i else Aq7 X m (i+1) from rfl];by_cases h1:(vS X i).2=0
  ·rw [if_pos h1];refine Yt (by simpa using h1) ?_;exact Yz
  ·rw [if_neg h1,e1];refine Yf (by simpa using h1) ?_;refine N8 [1] 1 rfl rfl ?_;refine Yr (ih (i+1) (by omega) (by omega)) ?_;intro v h q;exact q
theorem J03 (b k:Nat) (F:Fr) (X:CX) (ok:FrOk F) {nc:Nat} (c:Clean nc X):Ct B0 Az6 [P0 b] [cmC b k F X] fun v own=>v=int (Aq7 X 8 0)∧own [cmC b k F X]:=by
 refine Co Et1 (fun _=>Ir1 ..) fun h r=>?_;refine Yr (Iz0 b k F X ok c 8 0 (by omega) (by omega)) ?_;intro v h q;exact q
def By7:List Int→List Int→List Int
 | [],m=>m
 | f::l,m=>By7 l (if f>0 then m.set (f-1).toNat (m.getD (f-1).toNat 0+1) else m)
def Aj8 (n:Int) (m:List Int):Prop:=m.length=12∧∀ x ∈ m,0≤x∧x≤n
theorem Aj8.get {n:Int} {m:List Int} (h:Aj8 n m) {j:Nat} (hj:j<12):0≤m.getD j 0∧m.getD j 0≤n:=by
 have hl:=h.1;have e:m[j]?=some m[j]:=List.getElem?_eq_getElem (by omega);rw [List.getD_eq_getElem?_getD,e];exact h.2 _ (List.getElem_mem _)
theorem Aj8.set {n:Int} {m:List Int} (h:Aj8 n m) {j:Nat} (hj:j<12):Aj8 (n+1) (m.set j (m.getD j 0+1)):=by
 refine ⟨by simpa using h.1,fun x hx=>?_⟩;rcases List.mem_or_eq_of_mem_set hx with h2|rfl
 ·have:=h.2 x h2;omega
 ·have:=h.get hj;omega
theorem Aj8.up {n:Int} {m:List Int} (h:Aj8 n m):Aj8 (n+1) m:=⟨h.1,fun x hx=>by have:=h.2 x hx;omega⟩
theorem Jp9 {m:List Int} {j:Nat} (h:j<m.length) (v:Int):Ep5 (m.map int) j (int v)=some ((m.set j v).map int):=by
 rw [Ep5,show Nat.blt j (m.map int).length=true from Nat.ble_eq_true_of_le (by simp;omega),List.map_set];rfl
def Bq4 (l:List Int):Prop:=∀ f ∈ l,0≤f∧f≤12
theorem G41 {l:List Int} {i:Nat} (h:i<l.length):(l.map int)[i]?=some (int (l.getD i 0)):=by rw [List.getElem?_map,U5 0 h];rfl
theorem Iq7 (b k:Nat) (F:Fr) (X:CX) (b0 b1:Nat) (p:ProcS) (hf:Bq4 p.fds) (Φ:Value→(List HP→Prop)→Prop) (M:List Int)
  (next:CtJ H0 J5 At3 [(0,P0 b),(5,P0 b1),(31,.agg ⟨p.fds.map int⟩),(32,int 0)] [pt b1 (.cells E63 false (M.map int)),cmC b k F X] Φ) :
  ∀ (m i:Nat) (more:List Int),i+m=8→Aj8 i more→By7 (p.fds.drop i) more=M →
  CtJ H0 J5 Ba4 [(0,P0 b),(3,P0 b0),(5,P0 b1),(17,.agg ⟨p.fds.map int⟩),(18,int i)] [pt b1 (.cells E63 false (more.map int)),pt b0 (.cells B2 false (B5 p)),cmC b k F X] Φ:=by
 intro m
 induction m with
 | zero =>
  intro i more hi hm hM;have:i=8:=by omega
  subst this;rw [show p.fds.drop 8=[] from List.drop_eq_nil_of_le (by rw [p.len];omega),show By7 [] more=more from rfl] at hM;subst hM;refine Cj A28 (fun _=>Ek8 ..) fun h r=>?_;refine Yf (by simp) ?_;refine Ja ?_;intros;refine N8 [0,1] 1 rfl rfl ?_;refine Yr next ?_
  intro v h q;exact q
 | succ m ih =>
  intro i more hi hm hM;have e1:=wN i;have hil:i<p.fds.length:=by rw [p.len];omega
  have hg:=G41 hil
  have hd:p.fds.drop i=p.fds.getD i 0::p.fds.drop (i+1):=by
   rw [List.drop_eq_getElem_cons hil,List.getD_eq_getElem?_getD,List.getElem?_eq_getElem hil];rfl
  have hr:0≤p.fds.getD i 0∧p.fds.getD i 0≤12:=hf _ (by
   rw [List.getD_eq_getElem?_getD,List.getElem?_eq_getElem hil];exact List.getElem_mem _)
  rw [hd] at hM;generalize p.fds.getD i 0=f at hg hr hM;rw [show By7 (f::p.fds.drop (i+1)) more=By7 (p.fds.drop (i+1)) (if f>0 then more.set (f-1).toNat (more.getD (f-1).toNat 0+1) else more) from rfl] at hM;refine Cj A28 (fun _=>Ek8 ..) fun h r=>?_;refine Yt (by simp;omega) ?_;rw [e1];refine Tr.ck (by omega) ?_;rw [Int.toNat_natCast];refine Ja ?_;intros;by_cases hz:f>0
  ·have e2:IntKind.wrap .i64 (f-1)=f-1:=by rw [B8];omega
   have hj:(f-1).toNat<12:=by omega
   have hm2:=hm.get hj;have e3:IntKind.wrap .i64 (more.getD (f-1).toNat 0+1)=more.getD (f-1).toNat 0+1:=by rw [B8];omega
   have hgm:=G41 (l:=more) (i:=(f-1).toNat) (by rw [hm.1];exact hj);rw [if_pos hz] at hM;rw [e2];refine Yt (by simpa using hz) ?_;refine Ja ?_;intros;rw [e3];refine Gs (fun h=>?_) (by exact Jp9 (by rw [hm.1];exact hj) _);refine Yr (ih (i+1) (more.set (f-1).toNat (more.getD (f-1).toNat 0+1)) (by omega) (by rw [show ((i+1:Nat):Int)=(i:Int)+1 by omega];exact hm.set hj) hM) ?_;intro v h q;exact q
  ·rw [if_neg hz] at hM;refine Yf (by simpa using hz) ?_;refine Yr (ih (i+1) more (by omega) (by simpa using hm.up) hM) ?_;intro v h q;exact q
def Aj1 (X:CX) (more:List Int):List Int→Int
 | []=>0
 | f::l=>if f=0 then Aj1 X more l else if (vF X (f-1)).2≠1 then 105 else if (vF X (f-1)).1.refs+more.getD (f-1).toNat 0>64 then 123 else Aj1 X more l
theorem Ez9 {f:FileS} (h:okF f=true):1≤f.refs∧f.refs≤64:=by
 simp only [okF,Bool.and_eq_true,Bool.or_eq_true,decide_eq_true_eq,beq_iff_eq,bne_iff_ne] at h;omega
theorem Hn6 {nc:Nat} {X:CX} (c:Clean nc X) {i:Int} (h:0≤i∧i<12):0≤(vF X i).1.refs∧(vF X i).1.refs≤64:=by
 rcases Hh4 c h with ⟨_,h1⟩|⟨_,h1⟩
 ·rw [h1];simp
 ·have:=Ez9 h1;omega
theorem Ii7 (b k:Nat) (F:Fr) (X:CX) (ok:FrOk F) {nc:Nat} (c:Clean nc X) (b1:Nat) (fds more:List Int) (hl:fds.length=8) (hf:Bq4 fds) (hm:Aj8 8 more) (Φ:Value→(List HP→Prop)→Prop)
  (bad:∀ (e:Int),Aj1 X more fds=e→e≠0→∀ h r,Own h (cmC b k F X::r)→Φ (int e) fun l=>Own h (l++r))
  (next:Aj1 X more fds=0→CtJ H0 J5 At7 [(0,P0 b),(57,.agg ⟨more.map int⟩),(58,int 0)] [cmC b k F X] Φ) :
  ∀ (m i:Nat),i+m=8→Aj1 X more fds=Aj1 X more (fds.drop i) →
  CtJ H0 J5 At3 [(0,P0 b),(5,P0 b1),(31,.agg ⟨fds.map int⟩),(32,int i)] [pt b1 (.cells E63 false (more.map int)),cmC b k F X] Φ:=by
 intro m
 induction m with
 | zero =>
  intro i hi he;have:i=8:=by omega
  subst this;rw [show fds.drop 8=[] from List.drop_eq_nil_of_le (by omega),show Aj1 X more []=0 from rfl] at he;have hl12:By8 (more.map int) 0 12=some (more.map int):=Bu5 (by simp [hm.1]);refine Cj A28 (fun _=>En5 ..) fun h r=>?_;refine Yf (by simp) ?_;refine Gs ?_ (by exact hl12);refine N8 [1] 1 rfl rfl ?_;refine Yr (next he) ?_;intro v h q;exact q
 | succ m ih =>
  intro i hi he;have e1:=wN i;have hil:i<fds.length:=by omega
  have hg:=G41 hil
  have hd:fds.drop i=fds.getD i 0::fds.drop (i+1):=by
   rw [List.drop_eq_getElem_cons hil,List.getD_eq_getElem?_getD,List.getElem?_eq_getElem hil];rfl
  have hr:0≤fds.getD i 0∧fds.getD i 0≤12:=hf _ (by
   rw [List.getD_eq_getElem?_getD,List.getElem?_eq_getElem hil];exact List.getElem_mem _)
  rw [hd] at he;generalize fds.getD i 0=f at hg hr he;rw [show Aj1 X more (f::fds.drop (i+1))=if f=0 then Aj1 X more (fds.drop (i+1)) else if (vF X (f-1)).2≠1 then 105 else if (vF X (f-1)).1.refs+more.getD (f-1).toNat 0>64 then 123 else Aj1 X more (fds.drop (i+1)) from rfl] at he;refine Cj A28 (fun _=>En5 ..) fun h r=>?_;refine Yt (by simp;omega) ?_;rw [e1];refine Tr.ck (by omega) ?_;rw [Int.toNat_natCast];refine Ja ?_;intros;by_cases hz:f=0
  ·rw [if_pos hz] at he;refine Yt (by simpa using hz) ?_;refine Yr (ih (i+1) (by omega) he) ?_;intro v h q;exact q
  rw [if_neg hz] at he;refine Yf (by simpa using hz) ?_;have e2:IntKind.wrap .i64 (f-1)=f-1:=by rw [B8];omega
  have hj:(f-1).toNat<12:=by omega
  rw [e2];refine Yd (Do7 b k F X ok (f-1)) fun h=>?_;rw [Bp3 c (by omega)];dsimp only;refine Jc ?_;intros;refine Yn fun b2 h=>?_;refine Ja ?_;intros;by_cases h1:(vF X (f-1)).2=1
  ·rw [if_neg (by simpa using h1)] at he;refine Yf (by simpa using h1) ?_;have hm2:=hm.get hj;have hgm:=G41 (l:=more) (i:=(f-1).toNat) (by rw [hm.1];exact hj);have hrf:=Hn6 c (i:=f-1) (by omega);have e3:IntKind.wrap .i64 ((vF X (f-1)).1.refs+more.getD (f-1).toNat 0)=(vF X (f-1)).1.refs+more.getD (f-1).toNat 0:=by rw [B8];omega
   refine Ja ?_;intros;rw [e3];by_cases h2:(vF X (f-1)).1.refs+more.getD (f-1).toNat 0>64
   ·rw [if_pos h2] at he;refine Yt (by simpa using h2) ?_;refine N8 [1] 2 rfl rfl ?_;refine Ys fun o=>?_;exact bad 123 he (by simp) _ _ o
   ·rw [if_neg h2] at he;refine Yf (by simpa using h2) ?_;refine N8 [2,1] 1 rfl rfl ?_;refine Yr (ih (i+1) (by omega) he) ?_;intro v h q;exact q
  ·rw [if_pos h1] at he;refine Yt (by simpa using h1) ?_;refine N8 [1] 2 rfl rfl ?_;refine Ys fun o=>?_;exact bad 105 he (by simp) _ _ o
abbrev Da3 (f:FileS) (n:Int):FileS:=⟨f.kind,f.pipe,f.refs+n,f.flags⟩
def Bp1 (more:List Int):Nat→Int→CX→CX
 | 0,_,X=>X
 | m+1,j,X=>Bp1 more m (j+1) (if more.getD j.toNat 0=0 then X else A56 X j (Da3 (vF X j).1 (more.getD j.toNat 0)))
def Hj2 (more:List Int) (X:CX) (j:Int):Prop:=∀ i:Int,j≤i→i<12→more.getD i.toNat 0≠0→(vF X i).2=1∧(vF X i).1.refs+more.getD i.toNat 0≤64
theorem Ga6 {f:FileS} (h:okF f=true) {n:Int} (hn:1≤f.refs+n∧f.refs+n≤64):okF (Da3 f n)=true:=by
 simp only [okF,Bool.and_eq_true,Bool.or_eq_true,decide_eq_true_eq,beq_iff_eq,bne_iff_ne] at h ⊢;omega
theorem Hj2.step {nc:Nat} {X:CX} (c:Clean nc X) {more:List Int} (hm:Aj8 8 more) {j:Int} (h0:0≤j∧j<12) (s:Hj2 more X j) (hz:more.getD j.toNat 0≠0) :
  okF (Da3 (vF X j).1 (more.getD j.toNat 0))=true∧Hj2 more (A56 X j (Da3 (vF X j).1 (more.getD j.toNat 0))) (j+1):=by
 obtain ⟨s1,s2⟩:=s j (by omega) (by omega) hz;have hg:=hm.get (j:=j.toNat) (by omega)
 have hk:okF (vF X j).1=true:=by
  rcases Hh4 c h0 with ⟨h1,_⟩|⟨_,h1⟩
  ·omega
  ·exact h1
 have hr:=Ez9 hk;have k:=Ga6 hk (n:=more.getD j.toNat 0) (by omega);refine ⟨k,fun i h1 h2 hi=>?_⟩;rw [(Aj2 c h0 k).2.2.2.1 i (by omega),if_neg (by omega)];exact s i (by omega) h2 hi
theorem Ip4 (b k:Nat) (F:Fr) (ok:FrOk F) {nc:Nat} (more:List Int) (hm:Aj8 8 more):∀ (m:Nat) (j:Int) (X:CX),Clean nc X→Hj2 more X j→0≤j→j+m=12 →
  CtJ H0 J5 At7 [(0,P0 b),(57,.agg ⟨more.map int⟩),(58,int j)] [cmC b k F X] fun v own=>v=int 0∧own [cmC b k F (Bp1 more m j X)]:=by
 intro m
 induction m with
 | zero =>
  intro j X c s h0 hj;refine Cj A28 (fun _=>Em9 ..) fun h r=>?_;refine Yf (by simp;omega) ?_;refine Ys fun o=>?_;rw [show Bp1 more 0 j X=X from rfl];exact ⟨rfl,o.sub⟩
 | succ m ih =>
  intro j X c s h0 hj;have e1:=wI j;have hg:=G41 (l:=more) (i:=j.toNat) (by rw [hm.1];omega);have hm2:=hm.get (j:=j.toNat) (by omega);rw [show Bp1 more (m+1) j X=Bp1 more m (j+1) (if more.getD j.toNat 0=0 then X else A56 X j (Da3 (vF X j).1 (more.getD j.toNat 0))) from rfl];refine Cj A28 (fun _=>Em9 ..) fun h r=>?_;refine Yt (by simp;omega) ?_;rw [e1];refine Ja ?_;intros;by_cases hz:more.getD j.toNat 0=0
  ·rw [if_pos hz];refine Yt (by simpa using hz) ?_;refine Yr (ih (j+1) X c (fun i h1 h2 h3=>s i (by omega) h2 h3) (by omega) (by omega)) ?_;intro v h q;exact q
  ·rw [if_neg hz];refine Yf (by simpa using hz) ?_;have hrf:=Hn6 c (i:=j) (by omega);have e3:IntKind.wrap .i64 ((vF X j).1.refs+more.getD j.toNat 0)=(vF X j).1.refs+more.getD j.toNat 0:=by rw [B8];omega
   obtain ⟨k1,s2⟩:=s.step c hm (by omega) hz;obtain ⟨w1,w2,_⟩:=Aj2 c (i:=j) (by omega) k1;refine Yd (Do7 b k F X ok j) fun h=>?_;rw [Bp3 c (by omega)];dsimp only;refine Jc ?_;intros;refine Yn fun b2 h=>?_;refine Ja ?_;intros;simp only [e3,List.set_cons_succ,List.set_cons_zero,List.drop_zero,List.take];refine Yd (Ds6 b k F X ok j (Da3 (vF X j).1 (more.getD j.toNat 0))) fun h=>?_;rw [w1];dsimp only;refine Ja ?_;intros;refine N8 [0] 1 rfl rfl ?_;refine Yr (ih (j+1) _ w2 s2 (by omega) (by omega)) ?_;intro v h q;exact q
theorem Gl9:∀ (l m:List Int) (i:Nat),Bq4 l→m.length=12→(By7 l m).getD i 0≠0→m.getD i 0≠0∨((i:Int)+1) ∈ l
 | [],m,i,_,_,h=>.inl h
 | f::l,m,i,hf,hm,h=>by
  have hr:=hf f (by simp);have hl:Bq4 l:=fun x hx=>hf x (by simp [hx]);rw [show By7 (f::l) m=By7 l (if f>0 then m.set (f-1).toNat (m.getD (f-1).toNat 0+1) else m) from rfl] at h;by_cases hz:f>0
  ·rw [if_pos hz] at h;rcases Gl9 l _ i hl (by simpa using hm) h with h2|h2
   ·by_cases hi:(f-1).toNat=i
    ·right
     rw [show (i:Int)+1=f by omega];simp
    ·left
     rw [List.getD_eq_getElem?_getD,List.getElem?_set_ne hi,← List.getD_eq_getElem?_getD] at h2;exact h2
   ·exact .inr (by simp [h2])
  ·rw [if_neg hz] at h;rcases Gl9 l m i hl hm h with h2|h2
   ·exact .inl h2
   ·exact .inr (by simp [h2])
theorem Eq0:∀ (l m:List Int) (n:Int),Bq4 l→Aj8 n m→Aj8 (n+l.length) (By7 l m)
 | [],m,n,_,h=>by simpa [By7] using h
 | f::l,m,n,hf,h=>by
  have hr:=hf f (by simp);have hl:Bq4 l:=fun x hx=>hf x (by simp [hx]);rw [show By7 (f::l) m=By7 l (if f>0 then m.set (f-1).toNat (m.getD (f-1).toNat 0+1) else m) from rfl];have e:n+((f::l).length:Int)=(n+1)+l.length:=by simp;omega
  rw [e];by_cases hz:f>0
  ·rw [if_pos hz];exact Eq0 l _ (n+1) hl (h.set (by omega))
  ·rw [if_neg hz];exact Eq0 l m (n+1) hl h.up
theorem E88 {X:CX} {more:List Int}:∀ (l:List Int),Aj1 X more l=0→∀ f ∈ l,f≠0→(vF X (f-1)).2=1∧(vF X (f-1)).1.refs+more.getD (f-1).toNat 0≤64
 | [],_,f,h,_=>by simp at h
 | g::l,h,f,hm,hf=>by
  rw [show Aj1 X more (g::l)=if g=0 then Aj1 X more l else if (vF X (g-1)).2≠1 then 105 else if (vF X (g-1)).1.refs+more.getD (g-1).toNat 0>64 then 123 else Aj1 X more l from rfl] at h;by_cases hg:g=0
  ·rw [if_pos hg] at h;rcases List.mem_cons.1 hm with rfl|h2
   ·exact absurd hg hf
   ·exact E88 l h f h2 hf
  ·rw [if_neg hg] at h;by_cases h1:(vF X (g-1)).2=1
   ·rw [if_neg (by simpa using h1)] at h;by_cases h2:(vF X (g-1)).1.refs+more.getD (g-1).toNat 0>64
    ·rw [if_pos h2] at h;cases h
    ·rw [if_neg h2] at h;rcases List.mem_cons.1 hm with rfl|h3
     ·exact ⟨h1,by omega⟩
     ·exact E88 l h f h3 hf
   ·rw [if_pos h1] at h;cases h
abbrev Gj2:List Int:=[0,0,0,0,0,0,0,0,0,0,0,0]
theorem Jh2:Aj8 0 Gj2:=⟨rfl,fun x hx=>by simp at hx;omega⟩
abbrev Au0 (p:ProcS):List Int:=By7 p.fds Gj2
theorem G11 {p:ProcS} (h:Bq4 p.fds):Aj8 8 (Au0 p):=by
 have:=Eq0 p.fds Gj2 0 h Jh2;rw [p.len] at this;exact this
theorem Ib3 {X:CX} {p:ProcS} (h:Bq4 p.fds) (e:Aj1 X (Au0 p) p.fds=0):Hj2 (Au0 p) X 0:=fun i h0 h1 hi=>by
 rcases Gl9 p.fds Gj2 i.toNat h rfl hi with h2|h2
 ·exfalso;apply h2;have:i.toNat=0∨i.toNat=1∨i.toNat=2∨i.toNat=3∨i.toNat=4∨i.toNat=5∨i.toNat=6∨i.toNat=7∨i.toNat=8∨i.toNat=9∨i.toNat=10∨i.toNat=11:=by omega
  rcases this with h|h|h|h|h|h|h|h|h|h|h|h<;>rw [h]<;>rfl
 ·have:=E88 p.fds e _ h2 (by omega);rw [show ((i.toNat:Nat):Int)+1-1=i by omega] at this;exact this
def Aa7 (X:CX) (p:ProcS):Int × CX:=if Aj1 X (Au0 p) p.fds=0 then (0,Bp1 (Au0 p) 12 0 X) else (Aj1 X (Au0 p) p.fds,X)
theorem I92 (b k:Nat) (F:Fr) (X:CX) (ok:FrOk F) {nc:Nat} (c:Clean nc X) (p:ProcS) (hf:Bq4 p.fds):Ct B0 J5 [P0 b,.agg ⟨B5 p⟩] [cmC b k F X] fun v own=>v=int (Aa7 X p).1∧own [cmC b k F (Aa7 X p).2]:=by
 refine Co A28 (fun _=>Ib4 ..) fun h r=>?_;refine Yn fun b0 h=>?_;refine Yn fun b1 h=>?_;refine Ja ?_;intros;have hm:=G11 hf
 have L2:=Ii7 b k F X ok c b1 p.fds (Au0 p) p.len hf hm (fun v own=>v=int (Aa7 X p).1∧own [cmC b k F (Aa7 X p).2])
  (fun e he hz h r o=>by
   unfold Aa7;rw [if_neg (by rw [he];exact hz),he];exact ⟨rfl,o⟩)
  (fun he=>by
   have J:=Ip4 b k F ok (Au0 p) hm 12 0 X c (Ib3 hf he) (by omega) (by omega);unfold Aa7;rw [if_pos he];exact J) 8 0 rfl rfl
 refine Dq2 (Iq7 b k F X b0 b1 p hf _ (Au0 p) L2 8 0 Gj2 rfl (by simpa using Jh2) rfl) [0,0,0] rfl ?_;intro v h q;exact q
theorem Ec7 {nc:Nat} {more:List Int} (hm:Aj8 8 more):∀ (m:Nat) (j:Int) (X:CX),Clean nc X→Hj2 more X j→0≤j→j+m=12 →
  Clean nc (Bp1 more m j X)∧(∀ i:Int,0≤i∧i<8→vS (Bp1 more m j X) i=vS X i) ∧
  (∀ i:Int,0≤i∧i<12→vF (Bp1 more m j X) i=if j≤i∧more.getD i.toNat 0≠0 then (Da3 (vF X i).1 (more.getD i.toNat 0),1) else vF X i)∧(∀ i:Int,0≤i∧i<3+nc→vP (Bp1 more m j X) i=vP X i)
 | 0,j,X,c,_,h0,hj=>⟨c,fun _ _=>rfl,fun i hi=>by rw [if_neg (by omega)];rfl,fun _ _=>rfl⟩
 | m+1,j,X,c,s,h0,hj=>by
  rw [show Bp1 more (m+1) j X=Bp1 more m (j+1) (if more.getD j.toNat 0=0 then X else A56 X j (Da3 (vF X j).1 (more.getD j.toNat 0))) from rfl];by_cases hz:more.getD j.toNat 0=0
  ·rw [if_pos hz];obtain ⟨a1,a2,a3,a4⟩:=Ec7 hm m (j+1) X c (fun i h1 h2 h3=>s i (by omega) h2 h3) (by omega) (by omega);refine ⟨a1,a2,fun i hi=>?_,a4⟩;rw [a3 i hi];by_cases hij:i=j
   ·subst hij;rw [if_neg (by omega),if_neg (by simp only [hz];simp)]
   ·by_cases h2:j≤i∧more.getD i.toNat 0≠0
    ·rw [if_pos h2,if_pos ⟨by omega,h2.2⟩]
    ·rw [if_neg h2,if_neg (fun h3=>h2 ⟨by omega,h3.2⟩)]
  ·rw [if_neg hz];obtain ⟨k1,s2⟩:=s.step c hm (by omega) hz;obtain ⟨w1,w2,w3,w4,w5⟩:=Aj2 c (i:=j) (by omega) k1;obtain ⟨a1,a2,a3,a4⟩:=Ec7 hm m (j+1) _ w2 s2 (by omega) (by omega);refine ⟨a1,fun i hi=>by rw [a2 i hi,w3 i hi],fun i hi=>?_,fun i hi=>by rw [a4 i hi,w5 i hi]⟩;rw [a3 i hi,w4 i hi];by_cases hij:i=j
   ·subst hij;rw [if_neg (by omega),if_pos rfl,if_pos ⟨by omega,hz⟩]
   ·rw [if_neg hij];by_cases h2:j≤i∧more.getD i.toNat 0≠0
    ·rw [if_pos h2,if_pos ⟨by omega,h2.2⟩]
    ·rw [if_neg h2,if_neg (fun h3=>h2 ⟨by omega,h3.2⟩)]
theorem Is9 (l:List UInt8) (i:Nat):0≤byI l i∧byI l i<256:=by
 have:=(l.getD i 0).toNat_lt;unfold byI;omega
theorem Gt9 (l:List UInt8) (j:Nat):0≤two l j∧two l j≤65535:=by
 have:=Is9 l j;have:=Is9 l (j+1);unfold two;omega
theorem A65 (l:List UInt8):InS (Aa5 l).1:=by
 unfold Aa5
 split
 ·exact ⟨by simp,by simp,by simp,by simp⟩
 ·split
  ·exact ⟨Gt9 _ _,Gt9 _ _,Gt9 _ _,Gt9 _ _⟩
  ·exact ⟨by simp,by simp,by simp,by simp⟩
theorem Do4 {p:ProcS} (h:okS p=true):Bq4 p.fds:=fun f hf=>by
 unfold okS at h;simp only [Bool.and_eq_true,Bool.not_eq_true',List.any_eq_false] at h;have:=h.2.2.1 f hf;simp at this;omega
abbrev By2 (p:ProcS) (i:Int):ProcS:=⟨p.state,i+1,p.group,p.code,0,p.mask,p.ignored,p.caught,p.fds,p.len⟩
theorem Ia9 {p:ProcS} (h:okS p=true) (h1:p.state=1) {i:Int} (hi:0≤i∧i<8):okS (By2 p i)=true:=by
 unfold okS at h ⊢;rw [if_neg (by rw [h1];decide)] at h;rw [if_neg (show ¬ (By2 p i).state=2 by show ¬ p.state=2;rw [h1];decide)];simp only [Bool.and_eq_true,Bool.not_eq_true',Bool.or_eq_false_iff,decide_eq_false_iff_not] at h ⊢;obtain ⟨⟨⟨⟨⟨⟨⟨⟨a1,a2⟩,a3⟩,a4⟩,a5⟩,a6⟩,a7⟩,a8⟩,⟨⟨⟨⟨b1,b2⟩,b3⟩,b4⟩,b5⟩,d1,d2⟩:=h;exact ⟨⟨⟨⟨⟨⟨⟨⟨a1,a2⟩,by show ¬ i+1<0;omega⟩,by show ¬ i+1>8;omega⟩,a5⟩,a6⟩,a7⟩,a8⟩,⟨⟨⟨⟨by simp [Jh3],b2⟩,b3⟩,b4⟩,b5⟩,d1,d2⟩
def E94 (X:CX) (i:Int):List Value × CX :=
 if (N4 X i).2≠0 then (I2 0 (N4 X i).2 false,X)
 else if Aq7 X 8 0<0 then (I2 0 111 false,X)
 else if (Aa7 X (N4 X i).1).1≠0 then (I2 0 (Aa7 X (N4 X i).1).1 false,X)
 else (I2 (Aq7 X 8 0) 0 false,As5 (Aa7 X (N4 X i).1).2 (Aq7 X 8 0) (By2 (N4 X i).1 i))
theorem Gf5 {X:CX}:∀ (m:Nat) (i:Int),0≤i→i+m=8→Aq7 X m i=-1∨(0≤Aq7 X m i∧Aq7 X m i<8∧(vS X (Aq7 X m i)).2=0)
 | 0,i,_,_=>.inl rfl
 | m+1,i,h0,hi=>by
  rw [show Aq7 X (m+1) i=if (vS X i).2=0 then i else Aq7 X m (i+1) from rfl]
  split
  ·rename_i h;exact .inr ⟨h0,by omega,h⟩
  ·exact Gf5 m (i+1) (by omega) (by omega)
theorem Da2 {nc:Nat} {X:CX} (c:Clean nc X) {i:Int} (hi:0≤i∧i<8) (h:(N4 X i).2=0):N4 X i=((vS X i).1,0)∧(vS X i).1.state=1∧okS (vS X i).1=true∧(vS X i).2=1:=by
 unfold N4 at h ⊢
 split
 ·rename_i h1
  refine ⟨rfl,h1.2,?_,h1.1⟩;rcases Du5 c hi with ⟨h2,_⟩|⟨_,h2⟩
  ·rw [h1.1] at h2;cases h2
  ·exact h2
 ·rename_i h1;rw [if_neg h1] at h;cases h
theorem Hs2 {X:CX} {p:ProcS} (h:(Aa7 X p).1≠0):(Aa7 X p).2=X:=by
 unfold Aa7 at h ⊢
 split
 ·rename_i h1;rw [if_pos h1] at h;exact absurd rfl h
 ·rfl
theorem Gl0 {nc:Nat} {X:CX} (c:Clean nc X) {p:ProcS} (hf:Bq4 p.fds) (h:(Aa7 X p).1=0):Clean nc (Aa7 X p).2∧(∀ i:Int,0≤i∧i<8→vS (Aa7 X p).2 i=vS X i) ∧
  (∀ i:Int,0≤i∧i<12→vF (Aa7 X p).2 i=if (Au0 p).getD i.toNat 0≠0 then (Da3 (vF X i).1 ((Au0 p).getD i.toNat 0),1) else vF X i)∧(∀ i:Int,0≤i∧i<3+nc→vP (Aa7 X p).2 i=vP X i):=by
 unfold Aa7 at h ⊢
 split
 ·rename_i he
  obtain ⟨a1,a2,a3,a4⟩:=Ec7 (G11 hf) 12 0 X c (Ib3 hf he) (by omega) (by omega);refine ⟨a1,a2,fun i hi=>?_,a4⟩;rw [a3 i hi];by_cases h2:(Au0 p).getD i.toNat 0≠0
  ·rw [if_pos h2,if_pos ⟨hi.1,h2⟩]
  ·rw [if_neg h2,if_neg (fun h3=>h2 h3.2)]
 ·rename_i he;rw [if_neg he] at h;exact absurd h he
theorem Jz8 (b k:Nat) (F:Fr) (X:CX) (ok:FrOk F) {nc:Nat} (c:Clean nc X) (i:Int) (hi:0≤i∧i<8):Ct B0 Du1 [P0 b,int i] [cmC b k F X] fun v own=>v=.agg ⟨(E94 X i).1⟩∧own [cmC b k F (E94 X i).2]:=by
 have e1:=wI i;unfold E94;refine Co Il8 (fun _=>Ij7 ..) fun h r=>?_;refine Yn fun b0 h=>?_;refine Yd (B02 b k F X ok c i hi) fun h=>?_;refine Jc ?_;intros;refine Yn fun b1 h=>?_;refine Ja ?_;intros;by_cases h0:(N4 X i).2=0
 case neg =>
  rw [if_pos h0];refine Yt (by simpa using h0) ?_;refine Ye (Bf1 (N4 X i).2) fun h=>?_;intros;exact Yz
 rw [if_neg (by simpa using h0)];refine Yf (by simpa using h0) ?_;obtain ⟨s1,s2,s3,s4⟩:=Da2 c hi h0;refine Yd (J03 b k F X ok c) fun h=>?_;refine Ja ?_;intros;by_cases h1:Aq7 X 8 0<0
 ·rw [if_pos h1];refine Yt (by simpa using h1) ?_;refine Ye (Bf1 111) fun h=>?_;intros;exact Yz
 rw [if_neg h1];refine Yf (by simpa using h1) ?_;have hf:Bq4 (N4 X i).1.fds:=by rw [s1];exact Do4 s3
 have hok:okS (By2 (N4 X i).1 i)=true:=by rw [s1];exact Ia9 s3 s2 hi
 have hin:InS (By2 (N4 X i).1 i):=by
  have:=A65 (rd X ⟨1,i⟩);rw [s1];exact ⟨by simp,this.b,this.c,this.d⟩
 generalize (N4 X i).1=p at hf hok hin;refine Ja ?_;intros;refine Yd (I92 b k F X ok c p hf) fun h=>?_;refine Ja ?_;intros;by_cases h2:(Aa7 X p).1=0
 case neg =>
  rw [if_pos h2];rw [Hs2 h2];refine Yt (by simpa using h2) ?_;refine Ye (Bf1 (Aa7 X p).1) fun h=>?_;intros;exact Yz
 rw [if_neg (by simpa using h2)];refine Yf (by simpa using h2) ?_;have cs:=(Gl0 c hf h2).1
 have hfr:0≤Aq7 X 8 0∧Aq7 X 8 0<8:=by
  rcases Gf5 (X:=X) 8 0 (by omega) (by omega) with h|h<;>omega
 obtain ⟨w1,_⟩:=O7 cs hfr hok hin;refine Ja ?_;intros;rw [e1,show ((B5 p).set 1 (int (i+1))).set 4 (int 0)=B5 (By2 p i) from rfl];generalize By2 p i=q at hok hin w1;refine Ja ?_;intros;refine Yd (Ah8 b k F (Aa7 X p).2 ok (Aq7 X 8 0) q) fun h=>?_;rw [w1];dsimp only;refine Ja ?_;intros;refine Yd (Dc2 true (Aq7 X 8 0)) fun h=>?_;rw [if_pos trivial];refine Ja ?_;intros;exact Yz
end Go.EQ
