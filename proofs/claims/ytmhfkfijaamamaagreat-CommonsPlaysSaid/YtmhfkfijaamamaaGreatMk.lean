/- Records are read, set and freed as the document says, among others who write any bytes; what was bad once is bad for ever, for this one. -/
import Derived.Test.YtmhfkfijaamamaaGreatMj
import Derived.Test.YtmhfkfijaamamaaGreatRows
set_option linter.all false
set_option maxRecDepth 10000
namespace Go.EQ
open Go Go.NN
def Ey8 (kind:Int):Nat→Int→List RecS
 | 0,_=>[]
 | m+1,i=>⟨kind,i⟩::Ey8 kind m (i+1)
def Em8 (nc:Nat):Nat→Int→List RecS
 | 0,_=>[]
 | m+1,kind=>Ey8 kind (N1 nc kind).toNat 0++Em8 nc m (kind+1)
def Gw5 (nc:Nat):List RecS:=Em8 nc 5 1
theorem Hw2 (bad:List RecS) (kind:Int):∀ (m:Nat) (i:Int),Dn9 bad kind m i=(Ey8 kind m i).filter fun r=>decide (r ∈ bad)
 | 0,i=>rfl
 | m+1,i=>by
  have:=Hw2 bad kind m (i+1)
  unfold Dn9 Ey8
  rw [List.filter_cons,this]
  by_cases h:(⟨kind,i⟩:RecS) ∈ bad
  ·rw [if_pos h,if_pos (by simpa using h)]
  ·rw [if_neg h,if_neg (by simpa using h)]
theorem Hv6 (nc:Nat) (bad:List RecS):∀ (m:Nat) (kind:Int),De9 nc bad m kind=(Em8 nc m kind).filter fun r=>decide (r ∈ bad)
 | 0,kind=>rfl
 | m+1,kind=>by
  have:=Hv6 nc bad m (kind+1)
  unfold De9 Em8
  rw [List.filter_append,this,Hw2]
theorem Ek5 (nc:Nat) (bad:List RecS):Bz4 nc bad=(Gw5 nc).filter fun r=>decide (r ∈ bad):=Hv6 nc bad 5 1
theorem Ep1 {kind:Int}:∀ {m:Nat} {i:Int} {x:RecS},x ∈ Ey8 kind m i↔x.kind=kind∧i≤x.index∧x.index<i+m
 | 0,i,x=>by simp only [Ey8,List.not_mem_nil,false_iff];omega
 | m+1,i,⟨xk,xi⟩=>by
  have:=Ep1 (kind:=kind) (m:=m) (i:=i+1) (x:=⟨xk,xi⟩)
  simp only [Ey8,List.mem_cons,this,RecS.mk.injEq]
  omega
theorem Gl1 {nc:Nat}:∀ {m:Nat} {kind:Int} {x:RecS},x ∈ Em8 nc m kind↔kind≤x.kind∧x.kind<kind+m∧0≤x.index∧x.index<N1 nc x.kind
 | 0,kind,x=>by simp only [Em8,List.not_mem_nil,false_iff];omega
 | m+1,kind,x=>by
  have h0:0≤N1 nc kind:=by unfold N1;split<;>(try split)<;>(try split)<;>omega
  simp only [Em8,List.mem_append,Ep1,Gl1 (m:=m) (kind:=kind+1)]
  constructor
  ·rintro (⟨h1,h2,h3⟩|h)
   ·subst h1;omega
   ·omega
  ·rintro ⟨h1,h2,h3,h4⟩
   by_cases h:x.kind=kind
   ·subst h;left;omega
   ·right;omega
theorem Dg6 {a b:RecS}:Bd6 a b=true↔a.kind<b.kind∨a.kind=b.kind∧a.index<b.index:=by
 unfold Bd6
 simp only [Bool.or_eq_true,Bool.and_eq_true,decide_eq_true_eq,beq_iff_eq]
theorem Ha5 {kind:Int}:∀ (m:Nat) (i:Int),(Ey8 kind m i).Pairwise fun a b=>Bd6 a b=true
 | 0,i=>.nil
 | m+1,i=>.cons (fun b hb=>by have:=Ep1.1 hb;rw [Dg6];simp only;omega) (Ha5 m (i+1))
theorem Hb9 {nc:Nat}:∀ (m:Nat) (kind:Int),(Em8 nc m kind).Pairwise fun a b=>Bd6 a b=true
 | 0,kind=>.nil
 | m+1,kind=>List.pairwise_append.2 ⟨Ha5 _ _,Hb9 m (kind+1),fun a ha b hb=>by
   have h1:=Ep1.1 ha;have h2:=Gl1.1 hb;rw [Dg6];omega⟩
theorem Hm9 {F1 F2:List RecS} {q:RecS} (h1:∀ x ∈ F1,Bd6 q x=false) (h2:∀ x ∈ F2,Bd6 q x=true):∀ j,j≤F2.length→D95 (F1++F2) q (F1.length+j)=F1.length
 | 0,_=>by
  cases hF:F1.length with
  | zero=>rfl
  | succ n =>
   show (if Bd6 q ((F1++F2).getD n ⟨0,0⟩)=true then _ else n+1)=n+1
   have hn:n<F1.length:=by omega
   rw [if_neg]
   rw [List.getD_eq_getElem?_getD,List.getElem?_append_left hn,List.getElem?_eq_getElem hn]
   simp only [Option.getD_some,h1 _ (List.getElem_mem hn),Bool.false_eq_true,not_false_eq_true]
 | j+1,hj=>by
  show (if Bd6 q ((F1++F2).getD (F1.length+j) ⟨0,0⟩)=true then D95 (F1++F2) q (F1.length+j) else _)=_
  have hn:j<F2.length:=by omega
  rw [if_pos,Hm9 h1 h2 j (by omega)]
  rw [List.getD_eq_getElem?_getD,List.getElem?_append_right (by omega),show F1.length+j-F1.length=j by omega,List.getElem?_eq_getElem hn]
  exact h2 _ (List.getElem_mem hn)
theorem Ib5 {F1 F2:List RecS} {q:RecS} (h1:∀ x ∈ F1,Bd6 q x=false) (h2:∀ x ∈ F2,Bd6 q x=true):Db9 (F1++F2) q=F1++q::F2:=by
 unfold Db9
 rw [List.length_append,Hm9 h1 h2 _ (Nat.le_refl _),List.take_left',List.drop_left']<;>rfl
theorem H90 {nc:Nat} {bad:List RecS} {q:RecS} (hq:q ∈ Gw5 nc) (hb:¬ q ∈ bad):Db9 (Bz4 nc bad) q=Bz4 nc (bad++[q]):=by
 have hp:=Hb9 (nc:=nc) 5 1
 obtain ⟨s,t,e⟩:=List.append_of_mem hq
 rw [Ek5,Ek5,e]
 rw [show Em8 nc 5 1=Gw5 nc from rfl,e] at hp
 obtain ⟨p1,p2,p3⟩:=List.pairwise_append.1 hp
 have p4:=(List.pairwise_cons.1 p2).1
 have hs:∀ x ∈ s,Bd6 x q=true:=fun x hx=>p3 x hx q (by simp)
 have ns:∀ x ∈ s,x≠q:=fun x hx e=>by subst e;have:=Dg6.1 (hs x hx);omega
 have nt:∀ x ∈ t,x≠q:=fun x hx e=>by subst e;have:=Dg6.1 (p4 x hx);omega
 have c:∀ l:List RecS,(∀ x ∈ l,x≠q)→(l.filter fun r=>decide (r ∈ bad++[q]))=l.filter fun r=>decide (r ∈ bad):=fun l hl=>List.filter_congr fun x hx=>by
  have:=hl x hx
  simp [this]
 rw [List.filter_append,List.filter_append,List.filter_cons,List.filter_cons,c s ns,c t nt,if_neg (by simpa using hb),if_pos (by simp)]
 refine Ib5 (fun x hx=>?_) (fun x hx=>?_)
 ·have h:=Dg6.1 (hs x (List.mem_filter.1 hx).1)
  rw [← Bool.not_eq_true,Dg6];omega
 ·exact p4 x (List.mem_filter.1 hx).1
structure Tw (nc:Nat) (X Y:CX):Prop where
 l:X.m.length=nc
 m:Y.m=X.m
 b:Y.bad=Bz4 nc X.bad
 v:∀ q ∈ X.bad,q ∈ Gw5 nc
theorem Tw.mem {nc:Nat} {X Y:CX} (T:Tw nc X Y) (q:RecS):q ∈ Y.bad↔q ∈ X.bad:=by
 rw [T.b,Ek5,List.mem_filter,decide_eq_true_iff]
 exact ⟨fun h=>h.2,fun h=>⟨T.v q h,h⟩⟩
theorem Tw.rd {nc:Nat} {X Y:CX} (T:Tw nc X Y) (q:RecS):rdX Y q=rdX X q:=by
 unfold rdX
 rw [T.m]
 split
 ·simp only [T.mem]
 ·rfl
theorem Tw.wr {nc:Nat} {X Y:CX} (T:Tw nc X Y) (q:RecS) (b:List UInt8) (ok:Bool):(wrX Y q b ok).1=(wrX X q b ok).1∧Tw nc (wrX X q b ok).2 (wrX Y q b ok).2:=by
 unfold wrX
 rw [T.m]
 split
 ·simp only [T.mem]
  split
  ·exact ⟨rfl,by rw [List.length_set];exact T.l,rfl,T.b,T.v⟩
  ·exact ⟨rfl,T⟩
 ·exact ⟨rfl,T⟩
theorem Iu2 {nc:Nat} {X:CX} (hl:X.m.length=nc) {q:RecS} (hk:1≤q.kind∧q.kind≤5) {l:List UInt8} (h:rdX X q=some l):q ∈ Gw5 nc:=by
 unfold rdX at h
 rw [hl] at h
 split at h
 ·rename_i h1
  refine Gl1.2 ⟨hk.1,by omega,?_⟩
  unfold H4 at h1
  split at h1
  ·cases h1
  ·omega
 ·cases h
theorem Tw.re {nc:Nat} {X Y:CX} (T:Tw nc X Y) {α:Type} (dec:List UInt8→α × Int) (z:α) (q:RecS) (hk:1≤q.kind∧q.kind≤5):(rrX dec z Y q).1=(W1 dec z X q).1∧Tw nc (W1 dec z X q).2 (rrX dec z Y q).2:=by
 unfold rrX W1
 rw [T.rd]
 cases h:rdX X q with
 | none=>exact ⟨rfl,T⟩
 | some l =>
  refine ⟨rfl,?_⟩
  have ha:=Iu2 T.l hk h
  simp only
  split
  ·exact ⟨T.l,T.m,by show Db9 Y.bad q=_;rw [T.b];exact H90 ha (Dy6 h),fun x hx=>by
    rcases List.mem_append.1 hx with h|h
    ·exact T.v x h
    ·rw [List.mem_singleton.1 h];exact ha⟩
  ·exact T
theorem Tw.loop {nc:Nat} {f g:CX→Int→CX} (h:∀ X Y i,Tw nc X Y→Tw nc (f X i) (g Y i)):∀ (m:Nat) (i:Int) {X Y:CX},Tw nc X Y→Tw nc (Az9 f m i X) (Az9 g m i Y)
 | 0,i,X,Y,T=>T
 | m+1,i,X,Y,T=>Tw.loop h m (i+1) (h X Y i T)
theorem Tw.look {nc:Nat} {X Y:CX} (T:Tw nc X Y):Tw nc (Gl6 X) (H16 nc Y):=by
 unfold Gl6
 rw [T.l]
 unfold lookN Hg0 Hh3 Hm6 H16 Gl3 Gs4 Gr6
 have T1:=Tw.loop (fun X Y i T=>(T.re Q4 .zero ⟨1,i⟩ (by simp)).2) 8 0 T
 have T2:=Tw.loop (fun X Y i T=>(T.re V3 .zero ⟨2,i⟩ (by simp)).2) 12 0 T1
 have T3:=Tw.loop (fun X Y i T=>(T.re H7 .zero ⟨3,i⟩ (by simp)).2) (3+nc) 0 T2
 have T4:=(T3.re H7 .zero ⟨4,0⟩ (by simp)).2
 exact (T4.re V9 0 ⟨5,0⟩ (by simp)).2
theorem Tw.len {X Y:CX} (T:Tw 3 X Y):Y.bad.length≤28:=by
 rw [T.b,Ek5]
 exact Nat.le_trans (List.length_filter_le _ _) (show (Gw5 3).length≤28 by decide)
def Q7 (m:List (List UInt8)) (j:Nat) (a:Int) (b:List UInt8):Int × List (List UInt8) :=
 if j<m.length then if 0≤a∧a+b.length≤(m.getD j []).length then (0,m.set j (Q5 (m.getD j []) a.toNat b)) else (1,m) else (2,m)
theorem I04 {S:KS} {env cap obj:Int} {n:Nat} {e1 e2:Int} (hg:Aq4 S.tabs env cap=some ⟨obj,3,0,(n:Int),e1,e2⟩) (a m:Int) (hx:¬ (0≤a∧a+m≤n)) (hm:0≤m) (hn:n≤65536):I8 S.tabs S.regs env cap 2 a m=(0,1):=by
 unfold I8
 rw [hg]
 have b2:(B5 .i64 3 2==0)=false:=by kernel_rfl
 simp only [b2,Bool.false_eq_true,if_false]
 rw [if_pos]
 simp only [Bool.or_eq_true,decide_eq_true_eq,B0]
 omega
theorem Fit.getD {size:Nat} {rg:Rg} {m:List (List UInt8)} (f:Fit size rg m) {j lo n:Nat} (h:rg[j]?=some (lo,n)):m[j]?=some (m.getD j [])∧(m.getD j []).length=n∧lo+n≤size:=by
 obtain ⟨h1,x,hx,hl⟩:=f.each j lo n h
 have e:m.getD j []=x:=by rw [List.getD_eq_getElem?_getD,hx];rfl
 rw [e];exact ⟨hx,hl,h1⟩
theorem He5 {F:Fr} (k:FrOk F) {m:List (List UInt8)} (f:Fit F.S.mem.length F.rg m) {j lo n:Nat} {cap obj e1 e2:Int} (hr:F.rg[j]?=some (lo,n)) (hc:F.caps[j]?=some cap)
  (hg:Aq4 F.S.tabs F.env cap=some ⟨obj,3,0,(n:Int),e1,e2⟩) (a:Int) (b:List UInt8) (hn:n≤65536) :
  Y8 (F.at m) F.env ⟨2,cap,a,0,0,0,b⟩=(((Q7 m j a b).1,0,[]),F.at (Q7 m j a b).2):=by
 obtain ⟨hx,hl,hz⟩:=f.getD hr
 have hj:=(List.getElem?_eq_some_iff.1 hx).1
 have lp:=Bg4 f
 unfold Q7 Y8
 rw [if_neg (show ¬ (F.env<0∨F.env≥((F.at m).envs.length:Int)) from k.env),if_pos hj,hl]
 unfold kDo
 rw [if_neg (show ¬ ((2:Int)=1) by decide),if_pos rfl]
 by_cases hi:0≤a∧a+(b.length:Int)≤n
 ·rw [if_pos hi]
  have hp:I8 F.S.tabs F.S.regs F.env cap 2 ((a.toNat:Nat):Int) (b.length:Int)=(((lo+a.toNat:Nat):Int),0):=k.pl j cap lo n hc hr a.toNat b.length 2 (.inr rfl) (by omega)
  rw [show ((a.toNat:Nat):Int)=a by omega] at hp
  have hs:Bb1 (U2 F.S.mem F.rg m) ((lo+a.toNat:Nat):Int) b=some (U2 F.S.mem F.rg (m.set j (Q5 (m.getD j []) a.toNat b))):=by
   unfold Bb1
   rw [if_pos (by rw [lp];omega),Int.toNat_natCast,← Di6 f k.dj hr hx (by omega)];rfl
  have e:Ac9 (F.at m).tabs (F.at m).regs (F.at m).mem F.env cap a b=(0,U2 F.S.mem F.rg (m.set j (Q5 (m.getD j []) a.toNat b))):=by
   unfold Ac9
   rw [show I8 (F.at m).tabs (F.at m).regs F.env cap 2 a (b.length:Int)=(((lo+a.toNat:Nat):Int),0) from hp]
   rw [if_neg (by simp),show Bb1 (F.at m).mem _ _=_ from hs]
  rw [e];rfl
 ·rw [if_neg hi]
  have hp:I8 F.S.tabs F.S.regs F.env cap 2 a (b.length:Int)=(0,1):=I04 hg a b.length hi (by omega) hn
  have e:Ac9 (F.at m).tabs (F.at m).regs (F.at m).mem F.env cap a b=(1,(F.at m).mem):=by
   unfold Ac9
   rw [show I8 (F.at m).tabs (F.at m).regs F.env cap 2 a (b.length:Int)=(0,1) from hp,if_pos (by simp)]
  rw [e];rfl
theorem Ix8 {F:Fr} (k:FrOk F) {m:List (List UInt8)} (f:Fit F.S.mem.length F.rg m) {cap:Int} {j:Nat} (hj:¬ j<m.length) (hg:Aq4 F.S.tabs F.env cap=none) (a:Int) (b:List UInt8) :
  Y8 (F.at m) F.env ⟨2,cap,a,0,0,0,b⟩=(((Q7 m j a b).1,0,[]),F.at (Q7 m j a b).2):=by
 unfold Q7 Y8
 rw [if_neg (show ¬ (F.env<0∨F.env≥((F.at m).envs.length:Int)) from k.env),if_neg hj]
 unfold kDo
 rw [if_neg (show ¬ ((2:Int)=1) by decide),if_pos rfl]
 have hp:I8 F.S.tabs F.S.regs F.env cap 2 a (b.length:Int)=(0,2):=by unfold I8;rw [hg]
 have e:Ac9 (F.at m).tabs (F.at m).regs (F.at m).mem F.env cap a b=(2,(F.at m).mem):=by
  unfold Ac9
  rw [show I8 (F.at m).tabs (F.at m).regs F.env cap 2 a (b.length:Int)=(0,2) from hp,if_pos (by simp)]
 rw [e];rfl
theorem I06:Aq4 S00.tabs 1 259=none:=by kernel_rfl
theorem I34 {m:List (List UInt8)} (f:Fit F0.S.mem.length F0.rg m) {j:Nat} (hj:j<4) (a:Int) (b:List UInt8):Y8 (F0.at m) 1 ⟨2,256+(j:Int),a,0,0,0,b⟩=(((Q7 m j a b).1,0,[]),F0.at (Q7 m j a b).2):=by
 have k:FrOk (frP S0 0 1):=H81 D58 H49
 have ht:S0.tabs=S00.tabs:=D58.tabs
 have hl:m.length=3:=f.len
 match j,hj with
 | 0,_=>exact He5 (F:=frP S0 0 1) k f (j:=0) (lo:=0) (n:=492) rfl rfl (by show Aq4 S0.tabs 1 256=_;rw [ht];exact H49.a) a b (by omega)
 | 1,_=>exact He5 (F:=frP S0 0 1) k f (j:=1) (lo:=512) (n:=40) rfl rfl (by show Aq4 S0.tabs 1 257=_;rw [ht];exact H49.b) a b (by omega)
 | 2,_=>exact He5 (F:=frP S0 0 1) k f (j:=2) (lo:=1856) (n:=40) rfl rfl (by show Aq4 S0.tabs 1 258=_;rw [ht];exact H49.c) a b (by omega)
 | 3,_=>exact Ix8 (F:=frP S0 0 1) k f (j:=3) (by omega) (by show Aq4 S0.tabs 1 259=_;rw [ht];exact I06) a b
theorem I31:Aj1 K0.R.N K0.R.C 1 256=some (Dx0 0 492):=by kernel_rfl
theorem I27:Aj1 K0.R.N K0.R.C 1 257=some (Dx0 2 40):=by kernel_rfl
theorem I05:Aj1 K0.R.N K0.R.C 1 258=some (Dx0 3 40):=by kernel_rfl
theorem I11:Aj1 K0.R.N K0.R.C 1 259=none:=by kernel_rfl
theorem Ic7 {R:RgS} {name obj n lo:Int} (hg:Aj1 R.N R.C 1 name=some (Dx0 obj n)) (ho:0≤obj∧obj<R.lo.length) (hn:R.n.getD obj.toNat 0=n) (hl:R.lo.getD obj.toNat 0=lo) (hs:0≤n∧n≤1000) (hlo:0≤lo∧lo≤10000)
  (a m:Int) (h1:0≤m):D5 R 1 name 2 a m=if 0≤a∧a+m≤n then (lo+a,0) else (0,1):=by
 obtain ⟨c,hc⟩:∃ c,c=Dx0 obj n:=⟨_,rfl⟩
 rw [← hc] at hg
 have c1:c.obj=obj:=by rw [hc];rfl
 have c2:c.n=n:=by rw [hc];rfl
 have c3:c.lo=0:=by rw [hc];rfl
 have c4:c.rights=3:=by rw [hc];rfl
 clear hc
 have b1:(B5 .i64 c.rights 2==0)=false:=by rw [c4];exact Hu3 (.inr rfl)
 unfold D5
 rw [hg]
 simp only [b1,Bool.false_eq_true,if_false]
 by_cases hi:0≤a∧a+m≤n
 ·rw [if_pos hi]
  have b2:(!V5 a m c.n || decide (c.obj<0) || decide (c.obj≥R.lo.length))=false:=by
   rw [c2,Bs9 hi.1 h1 hi.2 (by omega),decide_eq_false (show ¬ c.obj<0 by omega),decide_eq_false (show ¬ c.obj≥R.lo.length by omega)];rfl
  have e:IntKind.wrap .i64 (c.lo+a)=a:=by rw [B0];omega
  have b3:(!V5 c.lo a (R.n.getD c.obj.toNat 0) || !V5 (IntKind.wrap .i64 (c.lo+a)) m (R.n.getD c.obj.toNat 0))=false:=by
   rw [e,c1,hn,Bs9 (by omega) hi.1 (by omega) (by omega),Bs9 hi.1 h1 hi.2 (by omega)];rfl
  have b4:IntKind.wrap .i64 (IntKind.wrap .i64 (R.lo.getD c.obj.toNat 0+c.lo)+a)=lo+a:=by rw [c1,hl];simp only [B0];omega
  simp only [b2,b3,b4,Bool.false_eq_true,if_false]
 ·rw [if_neg hi]
  have b2:(!V5 a m c.n || decide (c.obj<0) || decide (c.obj≥R.lo.length))=true:=by
   rw [c2]
   have:V5 a m n=false:=by
    rw [← Bool.not_eq_true]
    unfold V5
    simp only [Bool.and_eq_true,decide_eq_true_eq,B0]
    omega
   rw [this];rfl
  simp only [b2,if_true]
theorem G98 (m:List (List UInt8)):D5 (FR.at m).R=D5 K0.R:=Il6 K0.R _
theorem Iw4 {F:RFr} (k:RFrOk F) {m:List (List UInt8)} (f:Fit F.K.R.M.length F.rg m) {j lo n:Nat} {cap:Int} (hr:F.rg[j]?=some (lo,n)) (a:Int) (b:List UInt8)
  (hp2:D5 (F.at m).R 1 cap 2 a b.length=if 0≤a∧a+(b.length:Int)≤n then ((lo:Int)+a,0) else (0,1)) :
  V7 (F.at m).R 1 cap a b=((Q7 m j a b).1,(F.at (Q7 m j a b).2).R):=by
 obtain ⟨hx,hxl,hz⟩:=f.getD hr
 have hj:=(List.getElem?_eq_some_iff.1 hx).1
 unfold Q7 V7
 rw [hp2,if_pos hj,hxl]
 by_cases hi:0≤a∧a+(b.length:Int)≤n
 ·rw [if_pos hi,if_pos rfl,if_pos hi]
  have:=Di6 f k.dj hr hx (a:=a.toNat) (b:=b) (by omega)
  have e:((lo:Int)+a).toNat=lo+a.toNat:=by omega
  simp only [e]
  show (0,({ (F.at m).R with M:=Q5 (U2 F.K.R.M F.rg m) (lo+a.toNat) b }:RgS))=_
  rw [this];rfl
 ·rw [if_neg hi,if_neg hi];rfl
theorem Hf3 {m:List (List UInt8)} (f:Fit FR.K.R.M.length FR.rg m) {j lo n:Nat} {cap obj:Int} (hr:FR.rg[j]?=some (lo,n)) (hg:Aj1 K0.R.N K0.R.C 1 cap=some (Dx0 obj n)) (ho:0≤obj∧obj<K0.R.lo.length) (hn:K0.R.n.getD obj.toNat 0=n) (hl:K0.R.lo.getD obj.toNat 0=lo) (hs:n≤1000) (hlo:lo≤10000) (a:Int) (b:List UInt8) :
  V7 (FR.at m).R 1 cap a b=((Q7 m j a b).1,(FR.at (Q7 m j a b).2).R) :=
 Iw4 Az7 f hr a b (by rw [G98];exact Ic7 (R:=K0.R) hg ho hn hl (by omega) (by omega) a b.length (by omega))
theorem I12 {m:List (List UInt8)} (f:Fit FR.K.R.M.length FR.rg m) {j:Nat} (hj:j<4) (a:Int) (b:List UInt8):V7 (FR.at m).R 1 (256+(j:Int)) a b=((Q7 m j a b).1,(FR.at (Q7 m j a b).2).R):=by
 have hl:m.length=3:=f.len
 have h4:K0.R.lo.length=4:=by rw [Dr7];rfl
 match j,hj with
 | 0,_=>exact Hf3 f (j:=0) (lo:=0) (n:=492) rfl I31 (by omega) (by rw [Gh2];rfl) (by rw [Dr7];rfl) (by omega) (by omega) a b
 | 1,_=>exact Hf3 f (j:=1) (lo:=512) (n:=40) rfl I27 (by omega) (by rw [Gh2];rfl) (by rw [Dr7];rfl) (by omega) (by omega) a b
 | 2,_=>exact Hf3 f (j:=2) (lo:=1856) (n:=40) rfl I05 (by omega) (by rw [Gh2];rfl) (by rw [Dr7];rfl) (by omega) (by omega) a b
 | 3,_ =>
  unfold V7 Q7
  have hp:D5 (FR.at m).R 1 (256+((3:Nat):Int)) 2 a b.length=(0,2):=by
   rw [G98]
   show D5 K0.R 1 259 2 a b.length=_
   unfold D5;rw [I11]
  rw [hp,if_neg (by decide),if_neg (by omega)]
theorem Hf0 {size:Nat} {rg:Rg} {m:List (List UInt8)} (f:Fit size rg m) (j:Nat) (a:Int) (b:List UInt8):Fit size rg (Q7 m j a b).2:=by
 unfold Q7
 split
 ·rename_i hj
  split
  ·rename_i hi
   obtain ⟨lo,n,hr⟩:∃ lo n,rg[j]?=some (lo,n):=⟨_,_,List.getElem?_eq_getElem (by rw [← f.len];exact hj)⟩
   refine f.set hr ?_
   obtain ⟨hx,hl,_⟩:=f.getD hr
   rw [Bd3 (by omega)];exact hl
  ·exact f
 ·exact f
theorem Ei7 {n:Int} (h1:-9223372036854775808≤n) (h2:n≤9223372036854775807) (h:N9 .i64 n 65534=0):0≤n∧n≤65535:=by
 have e:BitVec.ofInt 64 n &&& ~~~ BitVec.ofInt 64 65534=0#64:=by
  have h3:BitVec.ofInt 64 (N9 .i64 n 65534)=BitVec.ofInt 64 n &&& ~~~ BitVec.ofInt 64 65534:=by
   unfold N9;rw [E98];exact Gn0 _
  rw [← h3,h];rfl
 have e2:BitVec.ofInt 64 n=BitVec.ofInt 64 n &&& BitVec.ofInt 64 65534:=by
  apply BitVec.eq_of_getLsbD_eq
  intro i hi
  have:=congrArg (·.getLsbD i) e
  simp only [BitVec.getLsbD_and,BitVec.getLsbD_not,BitVec.getLsbD_zero,hi,decide_true,Bool.true_and] at this
  rw [BitVec.getLsbD_and]
  revert this
  cases (BitVec.ofInt 64 n).getLsbD i<;>cases (BitVec.ofInt 64 65534).getLsbD i<;>simp
 have e3:(BitVec.ofInt 64 n).toNat≤65534:=by
  rw [e2,BitVec.toNat_and]
  exact Nat.le_trans Nat.and_le_right (by decide)
 rw [BitVec.toNat_ofInt] at e3
 omega
def Hc7 (n:Int):Prop:=-9223372036854775808≤n∧n≤9223372036854775807
theorem Iz5 {p:ProcS} (a:Hc7 p.pending) (b:Hc7 p.mask) (c:Hc7 p.ignored) (d:Hc7 p.caught):InW p :=
 ⟨Ei7 a.1 a.2,Ei7 b.1 b.2,Ei7 c.1 c.2,Ei7 d.1 d.2⟩
theorem G54 (m w:Nat) (F:RFr) (X:CX) (ok:RFrOk F) (hb:X.bad.length≤1000) (g:Int):Ct A4 Aj5 [P0 m,int g] [rmC m w F X] fun v own=>v=.bool (Bp7 X g).1∧own [rmC m w F (Bp7 X g).2]:=by
 have J:=B88 m w F X ok ⟨5,0⟩ ⟨by simp,by simp,by simp⟩ hb (Bz1 g) rfl
 unfold Bp7
 refine Ct.of Dw2 rfl fun h r=>Tr.eq (Dv3 ..) ?_;refine Je ?_
 refine Tr.andG (c:=decide (g<8)) (fun hb=>?_) ?_
 ·exact Jz
 by_cases hg:0≤g∧g<8
 ·rw [decide_eq_true hg]
  refine Tr.bnd (Tr.condT (by simpa using hg) ?_)
  refine Tr.xCall (Ew1 g) ?_;rintro _ h ⟨rfl,o⟩<;>refine Jh o ?_
  (refine Jb ?_;unhygienic intros)
  refine Tr.xCall (J) ?_;rintro _ h ⟨rfl,o⟩<;>refine Jh o ?_
  (refine Jb ?_;unhygienic intros)
  refine Tr.some fun o=>(?_:Tr _ _ _ _) o;refine Je ?_
  refine Tr.some fun o=>?_
  exact ⟨rfl,o.sub⟩
 ·rw [decide_eq_false hg,Bh7]
  refine Tr.bnd (Tr.condF (by rw [Bool.and_eq_false_iff,decide_eq_false_iff_not,decide_eq_false_iff_not];omega) ?_)
  refine Tr.some fun o=>(?_:Tr _ _ _ _) o;refine Je ?_
  refine Tr.some fun o=>?_
  exact ⟨rfl,o.sub⟩
theorem Iu7 (rg m s:Nat) (bs:List UInt8) (hl:bs.length=2560) (j:Nat) {lo n:Nat} (hj:B69[j]?=some ((lo:Int),(n:Int))) (hn:lo+n≤2560):Ct A4 Ai2 [P0 rg,int j] [Z4 rg m s B69,Ag6 m bs] fun v own =>
  ∃ x d,v=.tuple ⟨[.slice x n d,int 0]⟩∧own [slC false A2 1 x n d (A0 (slice bs lo n)),Z4 rg m s B69,Ag6 m bs]:=by
 have hb:Bq9 bs lo n=some (slice bs lo n):=by unfold Bq9;rw [if_pos (by omega)];simp [slice]
 have hsl:(slice bs lo n).length=n:=D65 (by omega)
 have hlt:j<4:=(List.getElem?_eq_some_iff.1 hj).1
 have g:(B69.flatMap D49)[((j:Int)).toNat*2+0]?=some (int lo)∧(B69.flatMap D49)[((j:Int)).toNat*2+1]?=some (int n):=by
  match j,hlt with
  | 0,_=>cases hj;exact ⟨rfl,rfl⟩
  | 1,_=>cases hj;exact ⟨rfl,rfl⟩
  | 2,_=>cases hj;exact ⟨rfl,rfl⟩
  | 3,_=>cases hj;exact ⟨rfl,rfl⟩
 refine Ct.of Er2 rfl fun h r=>Tr.eq (El6 ..) ?_;refine Je ?_
 refine A7 (Z4 rg m s B69) fun ⟨ra,rc⟩=>?_;refine Je ?_
 (refine Jb ?_;unhygienic intros)
 refine Tr.bnd (Tr.condF (by simp) ?_)
 (refine Jb ?_;unhygienic intros)
 refine Tr.some fun o=>(?_:Tr _ _ _ _) o;refine Je ?_
 refine Tr.condF (by simp;omega) ?_
 (refine Ja ?_;unhygienic intros)
 refine B42 1 rfl (show 0<B69.length by decide) fun px e=>?_
 subst e
 (refine Ja ?_;unhygienic intros)
 refine Tr.ck ⟨by omega,by show (j:Int)<4;omega⟩ ?_
 refine Tr.xIntS (v:=lo) g.1 ?_
 (refine Ja ?_;unhygienic intros)
 refine Tr.ck ⟨by omega,by show (j:Int)<4;omega⟩ ?_
 refine Tr.xIntS (v:=n) g.2 ?_
 (refine Ja ?_;unhygienic intros)
 refine Tr.xCall (Hu9 m bs lo n (by omega)) ?_
 rintro v h (⟨l,x,d,e,rfl,o⟩|⟨e,_⟩)
 ·rw [hb] at e;cases e
  refine (?_:Tr _ _ _ _) o
  refine Je ?_
  rw [hsl]
  (refine Ja ?_;unhygienic intros)
  refine A5 (Z4 rg m s B69) (some px,rc) ?_;refine Je ?_
  refine Tr.some fun o=>?_
  exact ⟨x,d,rfl,o.sub⟩
 ·rw [hb] at e;cases e
theorem Iv3 {r:List HP} {h:H} {α:Type} {Q:α→H→Prop} {kk:Value→H→Option (α × H)} (c k:Nat) (X:CX) (j:Nat) {lo n:Nat} (hj:B69[j]?=some ((lo:Int),(n:Int))) (hn:lo+n≤2560)
  (t:∀ y d h',Fit F0.S.mem.length F0.rg X.m→Tr (slC false A2 1 y n d (A0 (slice (U2 S0.mem (rgP 0) X.m) lo n))::cmC c k F0 X::r) h' (kk (.tuple ⟨[.slice y n d,int 0]⟩) h') Q) :
  Tr (cmC c k F0 X::r) h (bnd (A4 Ab7 [P0 k] h) fun v hv=>aPtr v fun x=>bnd (A4 Ai2 [.pointer x,int j] hv) kk) Q:=by
 have hr:(F0.at X.m).regs=B69:=by rw [Iu3,I35,D58.regs,Go0]
 have h2:(F0.at X.m).mem=U2 S0.mem (rgP 0) X.m:=F0.mem_at X.m
 refine A7 (cmC c k F0 X) fun u=>?_;refine Je ?_
 refine H2 2 rfl fun f=>?_
 have hl:(F0.at X.m).mem.length=2560:=by rw [h2];exact (Bg4 f).trans D58.mem
 refine A7 (E5 k (F0.at X.m)) fun ⟨m,s,q,rg,ea,ec,ma,mc,ms,sa,sc,ss⟩=>?_;refine Je ?_
 refine Tr.pcall (He4 k (F0.at X.m) ⟨m,s,q,rg,ea,ec,ma,mc,ms,sa,sc,ss⟩) ?_;refine Je ?_;(refine Ja ?_;unhygienic intros)
 try dsimp only
 rw [hr]
 refine Tr.xCall (Iu7 rg m s (F0.at X.m).mem hl j hj hn) ?_;rintro _ h ⟨y,d,rfl,o⟩<;>refine Jh o ?_
 rw [← hr]
 refine A5 (E5 k (F0.at X.m)) ⟨m,s,q,rg,ea,ec,ma,mc,ms,sa,sc,ss⟩ ?_;refine Je ?_
 refine A5 (cmC c k F0 X) () ?_;refine Je ?_
 refine U0 [1,0] 0 rfl rfl ?_
 exact t y d _ f
end Go.EQ

namespace Go.NN
open Go.ChangeShapes Go.WideShapes Go.RowKit
section
variable {P:Program} {W:World} {t e:TypeId}
theorem Ih5 {H:Type} {enc:TypeId × Value→H} {base fuel n:Nat} {spare:Nat→Bool} {held:Bool} {cs:List Value} {x:DataW H × List MemPlace} (ht:P.underlying t=some (.array n e)) (h:DataW.trod enc P W base spare held fuel t cs=some x) :
  ∃ m,cs.length=P.cellsOf t∧∀ i,i<n→∃ y,DataW.trod enc P W base spare held m e ((cs.drop (i*P.cellsOf e)).take (P.cellsOf e))=some y:=by
 cases fuel with
 | zero=>simp [DataW.trod] at h
 | succ m =>
  unfold DataW.trod at h
  rw [ht] at h
  split at h<;>simp_all
  obtain ⟨hl,xs,hp,hd⟩:=h
  refine ⟨m,fun i hi=>?_⟩
  have:=mapM_some_get hp i i (by simpa using List.getElem?_range hi)
  have hlen:=mapM_some_length hp
  have hlt:i<xs.length:=by simp at hlen;omega
  rw [List.getElem?_eq_getElem hlt] at this
  exact ⟨_,_,this⟩
theorem H3.arr {k:IntKind} {n:Nat} (ht:P.underlying t=some (.array n e)) (he:P.underlying e=some (.int k)) (hc:P.cellsOf e=1) (hn:P.cellsOf t=n) :
  H3 P W t (fun (_:Unit) (l:List Int)=>l.map (Value.int k)) (fun _ _=>sl []) (fun l=>l.length=n∧∀ x ∈ l,(Lit.int k x).wf=true):=fun H enc base fuel cs x h=>by
 obtain ⟨m,hl,hf⟩:=Ih5 ht h
 have each:∀ i,i<n→∃ z,cs[i]?=some (.int k z)∧(Lit.int k z).wf=true:=fun i hi=>by
  obtain ⟨y,hy⟩:=hf i hi
  obtain ⟨z,h1,_,h3⟩:=DataW.trod_int he hy
  rw [hc,Nat.mul_one] at h1
  refine ⟨z,?_,h3⟩
  have:=congrArg (·[0]?) h1
  simpa using this
 have all:∀ j,j≤n→∃ l:List Int,l.length=j∧(∀ x ∈ l,(Lit.int k x).wf=true)∧cs.take j=l.map (Value.int k):=by
  intro j
  induction j with
  | zero=>intro _;exact ⟨[],rfl,by simp,by simp⟩
  | succ j ih =>
   intro hj
   obtain ⟨l,h1,h2,h3⟩:=ih (by omega)
   obtain ⟨z,h4,h5⟩:=each j (by omega)
   refine ⟨l++[z],by simp [h1],?_,?_⟩
   ·intro y hy
    rcases List.mem_append.1 hy with h|h
    ·exact h2 y h
    ·rw [List.mem_singleton.1 h];exact h5
   ·rw [List.take_succ,h3,h4];simp
 obtain ⟨l,h1,h2,h3⟩:=all n (Nat.le_refl n)
 have e0:cs=l.map (Value.int k):=by rw [← h3,List.take_of_length_le (by omega)]
 subst e0
 exact ⟨l,⟨h1,h2⟩,(Imp.emp (by simp [D45])).mono fun vs ps ⟨h1,h2⟩=>⟨(),h1,h2⟩⟩
end
end Go.NN

set_option maxRecDepth 10000
namespace Go.EQ
open Go Go.NN
theorem Hh6 {n:Int} (h:(Lit.int .i64 n).wf=true):Hc7 n:=by
 simp only [Lit.wf] at h
 rw [Bool.and_eq_true,decide_eq_true_iff,decide_eq_true_iff] at h
 exact h
theorem I20 {W:World}:H3 PR W B6 (fun (_:Unit) (p:ProcS)=>B9 p) (fun _ _=>sl []) (fun p=>InW p) :=
 (H3.struct H27 (by kernel_rfl) (V4.cons (H3.int Ao3) (V4.cons (H3.int Ao3) (V4.cons (H3.int Ao3) (V4.cons (H3.int Ao3) (V4.cons (H3.int Ao3) (V4.cons (H3.int Ao3) (V4.cons (H3.int Ao3) (V4.cons (H3.int Ao3)
  (V4.cons (H3.arr (n:=8) Iq7 Ao3 (by kernel_rfl) (by kernel_rfl)) V4.nil)))))))))).as
  fun ⟨s,pa,g,c,pe,m,ig,ca,fds,_⟩ hy=>by
   obtain ⟨_,_,_,_,h5,h6,h7,h8,h9,_⟩:=hy
   exact ⟨⟨s,pa,g,c,pe,m,ig,ca,fds,h9.1⟩,Iz5 (Hh6 h5) (Hh6 h6) (Hh6 h7) (Hh6 h8),fun _=>⟨(),by simp [B9],fun hh r o=>Own.group (l:=[]) o.tail⟩⟩
theorem I13 {W:World}:H3 PR W D7 (fun (_:Unit) (f:FileS)=>Z6 f) (fun _ _=>sl []) (fun _=>True) :=
 (H3.struct H34 (by kernel_rfl) (V4.cons (H3.int Ao3) (V4.cons (H3.int Ao3) (V4.cons (H3.int Ao3) (V4.cons (H3.int Ao3) V4.nil))))).as
  fun ⟨k,p,r,f,_⟩ _=>⟨⟨k,p,r,f⟩,trivial,fun _=>⟨(),by simp,fun hh r o=>Own.group (l:=[]) o.tail⟩⟩
theorem I28 {W:World}:H3 PR W B3 (fun (_:Unit) (p:PipeS)=>D0 p) (fun _ _=>sl []) (fun _=>True) :=
 (H3.struct H01 (by kernel_rfl) (V4.cons (H3.int Ao3) (V4.cons (H3.int Ao3) (V4.cons (H3.int Ao3) (V4.cons (H3.int Ao3)
  (V4.cons (H3.arr (n:=32) H56 Hw6 (by kernel_rfl) (by kernel_rfl)) V4.nil)))))).as
  fun ⟨a,b,c,d,l,_⟩ hy=>by
   obtain ⟨_,_,_,_,h5,_⟩:=hy
   exact ⟨⟨a,b,c,d,l.map fun n=>UInt8.ofNat n.toNat,by simpa using h5.1⟩,trivial,fun _=>⟨(),by simp [D0,E56 h5.2],fun hh r o=>Own.group (l:=[]) o.tail⟩⟩
structure OpP where
 kind:Int
 i:Int
 x:Int
 l:List Int
 b:List UInt8
 p:ProcS
 f:FileS
 q:PipeS
 raw:Bool
structure OpOk (o:OpP):Prop where
 i:o.i≤9223372036854775807
 p:InW o.p
abbrev OpG:=(Option Addr × Nat) × (Option Addr × Nat)
abbrev opA (g:OpG) (o:OpP):List Value:=[int o.kind,int o.i,int o.x,.slice g.1.1 o.l.length g.1.2,.slice g.2.1 o.b.length g.2.2]
def opL (g:OpG) (o:OpP):List Value:=opA g o++(B9 o.p++(Z6 o.f++(D0 o.q++[.bool o.raw])))
abbrev opF (g:OpG) (o:OpP):List HP:=[slC true B2 1 g.1.1 o.l.length g.1.2 (o.l.map int),slC true A2 1 g.2.1 o.b.length g.2.2 (A0 o.b)]
def opC (g:OpG) (o:OpP):HP:=hex fun _:Unit=>sl (opF g o)
instance {g:OpG} {o:OpP}:Chk (opC g o) (fun _:Unit=>opF g o):=⟨rfl⟩
theorem I16 {W:World}:H3 PR W L6 (fun (g:Option Addr × Nat) (l:List Int)=>[.slice g.1 l.length g.2]) (fun g l=>slC true B2 1 g.1 l.length g.2 (l.map (Value.int .i64))) (fun l=>l.length≤maxLen∧∀ n ∈ l,(Lit.int .i64 n).wf=true) :=
 H3.ints B2 It8 Ao3 (by kernel_rfl)
theorem I38 {W:World}:H3 PR W Ig0 (fun (g:Option Addr × Nat) (l:List UInt8)=>[.slice g.1 l.length g.2]) (fun g l=>slC true A2 1 g.1 l.length g.2 (A0 l)) (fun l=>l.length≤maxLen) :=
 H3.bytes A2 Ib7 Hw6 (by kernel_rfl)
theorem opT {W:World}:H3 PR W A37 opL opC OpOk :=
 (H3.struct H44 (by kernel_rfl) (V4.cons (H3.int Ao3) (V4.cons (H3.int Ao3) (V4.cons (H3.int Ao3) (V4.cons I16 (V4.cons I38 (V4.cons I20 (V4.cons I13 (V4.cons I28 (V4.cons (H3.bool H86) V4.nil)))))))))).as
  fun ⟨k,i,x,l,b,p,f,q,raw,_⟩ hg=>⟨⟨k,i,x,l,b,p,f,q,raw⟩,⟨(Hh6 hg.2.1).2,hg.2.2.2.2.2.1⟩,fun ⟨_,_,_,g0,g1,_⟩=>⟨(g0,g1),by simp [opL],fun hh r o=>by
   have o1:=(((o.of_sl 1 rfl).of_sl 1 rfl).of_sl 1 rfl).join
   have o2:=((Own.perm (r:=_::_::r) o1 (.swap _ _ _)).of_sl 0 rfl)
   exact Own.fold (opC (g0,g1) ⟨k,i,x,l,b,p,f,q,raw⟩) () (o2.perm ((List.reverse_perm [_,_]).append_right r))⟩⟩
theorem I47 {W:World}:H3 PR W Dw9 (fun (g:(Option Addr × Nat) × List OpG) (ys:List OpP)=>[.slice g.1.1 ys.length g.1.2])
  (fun g ys=>sl [slC true A37 62 g.1.1 ys.length g.1.2 ((List.zip g.2 ys).flatMap fun p=>opL p.1 p.2),I1 opC g.2 ys,pu (g.2.length=ys.length)]) (fun ys=>ys.length≤maxLen∧∀ y ∈ ys,OpOk y) :=
 H3.slice (sz:=62) A37 E58 (by kernel_rfl) (by omega) (fun _ y=>by simp [opL,B9,Z6,D0,A0,y.p.len,y.q.len]) opT
theorem Is3 (g:Nat) (R:RgS) (k:RgOkS R) (j:Nat) {lo n:Int} (h1:R.lo[j]?=some lo) (h2:R.n[j]?=some n):Ct A4 A36 [P0 g,int j] [rgC g R] fun v own=>v=.tuple ⟨[.string (bs (slice R.M lo.toNat n.toNat)),int 0]⟩∧own [rgC g R]:=by
 obtain ⟨c1,c2,c3⟩:=k.each j lo n h1 h2
 have hm:=k.mem
 have e2:IntKind.wrap .i64 (lo+n)=lo+n:=by rw [B0];omega
 have hlt:=(List.getElem?_eq_some_iff.1 h1).1
 have hlt2:=(List.getElem?_eq_some_iff.1 h2).1
 have g1:(R.lo.map int)[((j:Nat):Int).toNat]?=some (.int .i64 lo):=by rw [Int.toNat_natCast,List.getElem?_map,h1];rfl
 have g2:(R.n.map int)[((j:Nat):Int).toNat]?=some (.int .i64 n):=by rw [Int.toNat_natCast,List.getElem?_map,h2];rfl
 refine Ct.of Ex7 rfl fun h r=>Tr.eq (E50 ..) ?_;refine Je ?_
 refine A7 (rgC g R) fun ⟨q,la,lc,za,zc,s⟩=>?_;refine Je ?_
 (refine Jb ?_;unhygienic intros)
 refine Tr.bnd (Tr.condF (by simp) ?_)
 (refine Jb ?_;unhygienic intros)
 refine Tr.some fun o=>(?_:Tr _ _ _ _) o;refine Je ?_
 refine Tr.condF (by simp;omega) ?_
 refine B42 2 rfl (show 0<R.lo.length by omega) fun p1 e=>?_
 subst e
 refine B42 3 rfl (show 0<R.n.length by omega) fun p2 e=>?_
 subst e
 (refine Ja ?_;unhygienic intros)
 rw [e2]
 refine Je ?_
 have hoff:(bif decide (lo.toNat<R.M.length) then lo.toNat else 0)=lo.toNat∨(n.toNat=0∧(bif decide (lo.toNat<R.M.length) then lo.toNat else 0)=0):=by
  by_cases hlt:lo.toNat<R.M.length
  ·left;simp [hlt]
  ·right;exact ⟨by omega,by simp [hlt]⟩
 rw [show (lo+n).toNat-lo.toNat=n.toNat by omega]
 refine Tr.xCellsB (xs:=A0 ((R.M.drop lo.toNat).take n.toNat)) ⟨?_,?_⟩ ?_
 ·simp only [Ae2];rcases hoff with e|⟨e0,e⟩<;>rw [e]<;>omega
 ·rcases hoff with e|⟨e0,e⟩<;>rw [e]
  ·rw [A98,Bs5]
  ·rw [e0,List.take_zero,List.take_zero];rfl
 (refine Ja ?_;unhygienic intros)
 refine A5 (rgC g R) ⟨q,some p1,lc,some p2,zc,s⟩ ?_;refine Je ?_
 refine Tr.some fun o=>?_
 exact ⟨rfl,o.sub⟩
theorem Id5 (m w:Nat) (F:RFr) (X:CX) (ok:RFrOk F):Ct A4 At1 [P0 m] [rmC m w F X] fun v own=>v=.string (bs (X.m.getD 0 []))∧own [rmC m w F X]:=by
 have hne:=ok.ne
 obtain ⟨lo,h0⟩:=ok.own
 have hc:=J7 0 hne
 have hcx:(F.caps.map int)[0]?=some (int (F.caps.getD 0 0)):=Du3 hne
 refine Ct.of Em0 rfl fun h r=>Tr.eq (En8 ..) ?_;refine Je ?_
 refine A7 (rmC m w F X) fun u=>?_;refine Je ?_
 refine H2 2 rfl fun f=>?_
 obtain ⟨_,x,hx,hl⟩:=f.each 0 lo 492 h0
 have ex:X.m.getD 0 []=x:=by rw [List.getD_eq_getElem?_getD,hx];rfl
 have hp:D5 (F.at X.m).R F.e (F.caps.getD 0 0) 1 ((0:Nat):Int) ((492:Nat):Int)=(((lo+0:Nat):Int),0):=ok.pl 0 _ lo 492 hc h0 0 492 1 (.inl rfl) (by omega)
 have hrd:Bz6 (F.at X.m).R F.e (F.caps.getD 0 0) 0 492=(x,0):=by
  have:=Dq6 f ok.dj h0 hx (show 0+492≤492 by omega)
  unfold Bz6
  rw [show D5 (F.at X.m).R F.e (F.caps.getD 0 0) 1 0 492=_ from hp,if_pos rfl]
  show (slice (U2 F.K.R.M F.rg X.m) (lo+0) 492,(0:Int))=_
  rw [this]
  unfold slice
  rw [List.drop_zero,List.take_of_length_le (by omega)]
 have R:=Hv9 w (F.at X.m) (RFr.at_ok ok f) F.e ok.env ⟨1,F.caps.getD 0 0,0,492,0,0,[]⟩ rfl none 0
 simp only [hrd] at R
 rw [ex]
 refine A7 (rcC m w F.e F.caps (X.bad.map G8)) fun ⟨a1,c1,a2,c2⟩=>?_;refine Je ?_
 (refine Jb ?_;unhygienic intros;repeat(refine Gw ?_;rintro px rfl;refine Jb ?_;unhygienic intros))
 simp only [Bs6] at R
 refine Tr.xCall (R) ?_;rintro _ h ⟨rfl,o⟩<;>refine Jh o ?_
 (refine Jb ?_;unhygienic intros)
 refine Tr.condF rfl ?_
 refine U0 [1,1,1,0,0] 0 rfl rfl ?_
 refine D3 (rcC m w F.e F.caps (X.bad.map G8)) (some px,c1,a2,c2) [0,0,0] rfl ?_;refine Je ?_
 refine D3 (rmC m w F X) () [0,0,0] rfl ?_;refine Je ?_
 refine Tr.some fun o=>?_
 exact ⟨rfl,o.sub⟩
theorem Ii3 {l:List RecS} {i:Nat} {x:RecS} (h:l[i]?=some x):((l.flatMap E2).drop (i*2)).take 2=E2 x:=Ay8 (f:=E2) (k:=2) (fun x=>rfl) h
theorem Gp6 (a b:Option Addr) (ac bc:Nat) (l:List RecS) (hl:l.length≤100):∀ (m i:Nat),i+m=l.length →
  CtJ E9 Y0 Az4 [(0,.slice a l.length ac),(1,.slice b (l.map G8).length bc),(5,int i)] [slC false A6 2 a l.length ac (l.flatMap E2),slC false A6 2 b (l.map G8).length bc ((l.map G8).flatMap brL)] fun v own=>v=.bool true∧own [slC false A6 2 b (l.map G8).length bc ((l.map G8).flatMap brL)]
 | 0,i,hi=>by
  obtain rfl:i=l.length:=by omega
  refine CtJ.of B31 fun h r=>Tr.eq (Dd3 ..) ?_;refine Je ?_
  refine Tr.condF (by simp) ?_
  refine Tr.some fun o=>?_
  exact ⟨rfl,(show Own h (slC false A6 2 b (l.map G8).length bc ((l.map G8).flatMap brL)::r) from Own.weak1 0 o).sub⟩
 | m+1,i,hi=>by
  have ih:=Gp6 a b ac bc l hl m (i+1) (by omega)
  have hx:l[i]?=some l[i]:=List.getElem?_eq_getElem (by omega)
  have hf:(l.flatMap E2).length=l.length*2:=N3 (f:=E2) (k:=2) (fun _=>rfl) l
  have hg:((l.map G8).flatMap brL).length=l.length*2:=by rw [N3 (f:=brL) (k:=2) (fun _=>rfl),List.length_map]
  have hm:(l.map G8).length=l.length:=List.length_map _
  have e1:=wN i
  refine CtJ.of B31 fun h r=>Tr.eq (Dd3 ..) ?_;refine Je ?_
  refine Tr.condT (by simp;omega) ?_
  (refine Ja ?_;unhygienic intros;repeat(refine Gw ?_;rintro px rfl;refine Ja ?_;unhygienic intros))
  rw [Int.toNat_natCast]
  refine Tr.xAggS (xs:=E2 l[i]) ⟨by omega,by rw [hf];omega,Ii3 hx⟩ ?_
  (refine Ja ?_;unhygienic intros;repeat(refine Gw ?_;rintro px rfl;refine Ja ?_;unhygienic intros))
  refine Tr.xAggS (xs:=E2 l[i]) ⟨by omega,by rw [hg];omega,E75 l hx⟩ ?_
  rw [Io6,decide_eq_true rfl]
  refine Tr.condF rfl ?_
  rw [e1]
  refine Tr.xRun (ih) ?_;rintro _ h ⟨rfl,o⟩
  exact ⟨rfl,o.sub⟩
theorem Iq8 (a b:Option Addr) (ac bc:Nat) (l:List RecS) (hl:l.length≤100):Ct A4 Y0 [.slice a l.length ac,.slice b (l.map G8).length bc] [slC false A6 2 a l.length ac (l.flatMap E2),slC false A6 2 b (l.map G8).length bc ((l.map G8).flatMap brL)] fun v own=>v=.bool true∧own [slC false A6 2 b (l.map G8).length bc ((l.map G8).flatMap brL)]:=by
 have J:=Gp6 a b ac bc l hl l.length 0 (by omega)
 refine Ct.of B31 rfl fun h r=>Tr.eq (Gj2 ..) ?_;refine Je ?_
 (refine Ja ?_;unhygienic intros)
 refine Tr.condF (by simp) ?_
 refine Tr.xRun (J) ?_;rintro _ h ⟨rfl,o⟩
 exact ⟨rfl,o.sub⟩
theorem eqF {α:Type} (f:FileS) (k:Bool→Option α):Af8 PR D7 (Z6 f) (Z6 f) k=k true:=by
 have e:Ad7 PR 8 D7=some (List.replicate 4 (TypeDesc.int .i64)):=by kernel_rfl
 unfold Af8
 rw [e]
 simp [E4,eqs,eq1,eqK,ckB,List.replicate]
theorem De7 (g:OpG) (y:OpP):(opL g y).length=62:=by
 unfold opL
 rw [List.length_append,List.length_append,List.length_append,List.length_append,Aa9,O0 y.q.len];rfl
theorem Is4 (g:OpG) (y:OpP):(opL g y)[61]?=some (.bool y.raw):=by
 show (B9 y.p++(Z6 y.f++(D0 y.q++[.bool y.raw])))[56]?=_
 rw [List.getElem?_append_right (by rw [Aa9];omega),Aa9,List.getElem?_append_right (by show 4≤_;omega)]
 show (D0 y.q++[Value.bool y.raw])[36]?=_
 rw [List.getElem?_append_right (by rw [O0 y.q.len];omega),O0 y.q.len];rfl
instance {g:OpG} {y:OpP}:LenC (opL g y) 62:=⟨De7 g y⟩
instance {g:OpG} {y:OpP}:PartC (opL g y) 5 16 (B9 y.p):=⟨by
 unfold B70
 rw [De7,show Nat.ble (5+16) 62=true from rfl,cond_true]
 show some (List.take 16 (B9 y.p++_))=_
 rw [List.take_left' (Aa9 _)]⟩
instance {g:OpG} {y:OpP}:PartC (opL g y) 21 4 (Z6 y.f):=⟨by
 unfold B70
 rw [De7,show Nat.ble (21+4) 62=true from rfl,cond_true]
 show some (List.take 4 (List.drop 16 (B9 y.p++_)))=_
 rw [List.drop_left' (Aa9 _)];rfl⟩
instance {g:OpG} {y:OpP}:PartC (opL g y) 25 36 (D0 y.q):=⟨by
 unfold B70
 rw [De7,show Nat.ble (25+36) 62=true from rfl,cond_true]
 show some (List.take 36 (List.drop 20 (B9 y.p++(Z6 y.f++_))))=_
 rw [← List.append_assoc,List.drop_left' (by rw [List.length_append,Aa9];rfl),List.take_left' (O0 y.q.len)]⟩
theorem Id3 (m:List (List UInt8)) (j:Nat) (a:Int) (l:List UInt8):(Q7 m j a l).2.length=m.length:=by
 unfold Q7
 split
 ·split
  ·rw [List.length_set]
  ·rfl
 ·rfl
theorem Ip8 (F:RFr) (m m':List (List UInt8)) {Rg:RgS} (h:Rg=(F.at m').R):({ F.at m with R:=Rg }:RKS)=F.at m':=by subst h;rfl
theorem Ij5 (m w:Nat) (Y:CX) {j:Nat} (hj:j<4) (a:Int) (l:List UInt8) (hl:l.length≤A8) (p:HP) (ba:Option Addr) (bc:Nat) (ro:Bool) [ks:IsSl p ba ro A2 1 l.length bc (A0 l)] :
  Ct A4 U5 [P0 w,int 1,.agg ⟨Bs6 ⟨2,256+(j:Int),a,0,0,0,l⟩ ba bc⟩] [rmC m w FR Y,p] fun v own=>v=.tuple ⟨[int (Q7 Y.m j a l).1,int 0,.string (bs [])]⟩∧own [rmC m w FR ⟨(Q7 Y.m j a l).2,Y.bad⟩,p]:=by
 intro h r o
 obtain ⟨u,o1⟩:=Own.unfold (rmC m w FR Y) o
 have f:Fit FR.K.R.M.length FR.rg Y.m:=(o1.picks [2] rfl).pure
 have he:1<(FR.at Y.m).B.envs.length:=by show 1<(De0 Ai0).B.envs.length;rw [D10.2,Bq3];simp
 have R:=Gz0 w (FR.at Y.m) (RFr.at_ok Az7 f) 1 he ⟨2,256+(j:Int),a,0,0,0,l⟩ rfl hl p ba bc ro
 have e2:=I12 f hj a l
 have e1:(V7 (FR.at Y.m).R ((1:Nat):Int) (256+(j:Int)) a l).1=(Q7 Y.m j a l).1:=by rw [show ((1:Nat):Int)=1 from rfl,e2]
 have e3:=Ip8 FR Y.m (Q7 Y.m j a l).2 (Rg:=(V7 (FR.at Y.m).R ((1:Nat):Int) (256+(j:Int)) a l).2) (by rw [show ((1:Nat):Int)=1 from rfl,e2])
 dsimp only at R
 rw [e1,e3] at R
 obtain ⟨v,h',e,hv,o2⟩:=R h _ (o1.picks [1,2] rfl)
 have o3:Own h' (rkC w (FR.at (Q7 Y.m j a l).2)::p::rcC m w FR.e FR.caps (Y.bad.map G8)::pu (Fit FR.K.R.M.length FR.rg Y.m)::r):=o2
 have o4:=Own.inpure (Hf0 f j a l) (Own.weak1 3 o3)
 exact ⟨v,h',e,hv,Own.shut (f:=fun _:Unit=>rmF m w FR ⟨(Q7 Y.m j a l).2,Y.bad⟩) () (o4.picks [3,1,0] rfl)⟩
theorem In0 (c k:Nat) (X:CX) {j:Nat} (hj:j<4) (a:Int) (l:List UInt8) (ba:Option Addr) (bc:Nat) (ro:Bool) :
  Ct A4 Q6 [P0 k,int 1,.agg ⟨Bs6 ⟨2,256+(j:Int),a,0,0,0,l⟩ ba bc⟩] [cmC c k F0 X,slC ro A2 1 ba l.length bc (A0 l)] fun v own=>∃ x d,v=.agg ⟨[int (Q7 X.m j a l).1,int 0,.slice x 0 d]⟩∧own [cmC c k F0 ⟨(Q7 X.m j a l).2,X.bad⟩,slC ro A2 1 ba l.length bc (A0 l)]:=by
 intro h r o
 obtain ⟨u,o1⟩:=Own.unfold (cmC c k F0 X) o
 have f:Fit F0.S.mem.length F0.rg X.m:=(o1.picks [2] rfl).pure
 have R:=Gz6 k (F0.at X.m) F0.N (F0.at_ok Z5 f) Z5.hN 1 ⟨2,256+(j:Int),a,0,0,0,l⟩ ba bc ro (by simp)
 simp only [I34 f hj] at R
 obtain ⟨v,h',e,y,d,hv,o2⟩:=R h _ (o1.picks [0,2] rfl)
 have o3:Own h' (slC false A2 1 y 0 d (A0 [])::E5 k (F0.at (Q7 X.m j a l).2)::slC ro A2 1 ba l.length bc (A0 l)::N5 c k F0.env F0.caps X.bad::pu (Fit F0.S.mem.length F0.rg X.m)::r):=o2
 have o4:=Own.inpure (Hf0 f j a l) (Own.weak1 3 (Own.weak1 0 o3))
 exact ⟨v,h',e,y,d,hv,Own.shut (f:=fun _:Unit=>cmF c k F0 ⟨(Q7 X.m j a l).2,X.bad⟩) () (o4.picks [1,2,0] rfl)⟩
abbrev doQ (c k m w:Nat) (g:OpG) (y:OpP):Value→(List HP→Prop)→Prop:=fun v own=>∃ X' Y',Tw 3 X' Y'∧v=.bool true∧own [cmC c k F0 X',rmC m w FR Y',opC g y]
theorem Hc2 (c k m w:Nat) (g:OpG) (y:OpP) (hy:OpOk y) (p:ProcS) (f:FileS) (q:PipeS) (hp:InW p) (hlen:y.b.length≤A8) (bo bp bf bq:Nat) (X Y:CX) (T:Tw 3 X Y) :
  CtJ E9 A38 B04 [(0,P0 k),(1,P0 c),(2,P0 w),(3,P0 m),(9,P0 bo),(11,P0 bp),(12,P0 bf),(13,P0 bq)]
   [cmC c k F0 X,rmC m w FR Y,pt bo (.cells A37 false (opL g y)),opC g y,pt bp (.cells B6 false (B9 p)),pt bf (.cells D7 false (Z6 f)),pt bq (.cells B3 false (D0 q))] (doQ c k m w g y):=by
 have hb:Y.bad.length≤1000:=Nat.le_trans T.len (by omega)
 have hi:=hy.i
 refine CtJ.of Gs7 fun h r=>Tr.eq (G56 ..) ?_;refine Je ?_
 (refine Ja ?_;unhygienic intros)
 by_cases h0:y.kind=0
 ·have T1:=T.re Q4 .zero ⟨1,y.i⟩ (by simp)
  refine Tr.condT (by simpa using h0) ?_
  (refine Ja ?_;unhygienic intros)
  refine Tr.xCall (Gh5 c k F0 X Z5 y.i) ?_;rintro _ h ⟨rfl,o⟩<;>refine Jh o ?_
  (refine Jc ?_;unhygienic intros)
  refine Tr.nw fun b1 h=>?_
  (refine Jc ?_;unhygienic intros)
  refine Tr.xCall (Gz8 m w FR Y Az7 hb y.i) ?_;rintro _ h ⟨rfl,o⟩<;>refine Jh o ?_
  rw [T1.1]
  (refine Jc ?_;unhygienic intros)
  refine Tr.nw fun b2 h=>?_
  (refine Jc ?_;unhygienic intros)
  rw [eqS]
  refine Tr.bnd (Tr.condT rfl ?_)
  refine Tr.some fun o=>(?_:Tr _ _ _ _) o;refine Je ?_
  refine Tr.some fun o=>?_
  exact ⟨_,_,T1.2,by rw [beq_self_eq_true],o.sub⟩
 refine Tr.condF (by simpa using h0) ?_
 by_cases h1:y.kind=1
 ·have T1:=T.wr ⟨1,y.i⟩ (Bb4 p) (okS p)
  refine Tr.condT (by simpa using h1) ?_
  (refine Ja ?_;unhygienic intros)
  refine Tr.xCall (Hr1 c k F0 X Z5 y.i p) ?_;rintro _ h ⟨rfl,o⟩<;>refine Jh o ?_
  (refine Ja ?_;unhygienic intros)
  refine Tr.xCall (Hf5 m w FR Y Az7 hb y.i p hp) ?_;rintro _ h ⟨rfl,o⟩<;>refine Jh o ?_
  rw [T1.1]
  (refine Ja ?_;unhygienic intros)
  refine Tr.some fun o=>?_
  exact ⟨_,_,T1.2,by rw [beq_self_eq_true],o.sub⟩
 refine Tr.condF (by simpa using h1) ?_
 by_cases h2:y.kind=2
 ·have T1:=T.wr ⟨1,y.i⟩ (List.replicate (Q3 1) 0) true
  refine Tr.condT (by simpa using h2) ?_
  (refine Ja ?_;unhygienic intros)
  refine Tr.xCall (Hj9 c k F0 X Z5 y.i) ?_;rintro _ h ⟨rfl,o⟩<;>refine Jh o ?_
  (refine Ja ?_;unhygienic intros)
  refine Tr.xCall (G61 m w FR Y Az7 hb y.i) ?_;rintro _ h ⟨rfl,o⟩<;>refine Jh o ?_
  rw [T1.1]
  (refine Ja ?_;unhygienic intros)
  refine Tr.some fun o=>?_
  exact ⟨_,_,T1.2,by rw [beq_self_eq_true],o.sub⟩
 refine Tr.condF (by simpa using h2) ?_
 by_cases h3:y.kind=3
 ·have T1:=T.re V3 .zero ⟨2,y.i⟩ (by simp)
  refine Tr.condT (by simpa using h3) ?_
  (refine Ja ?_;unhygienic intros)
  refine Tr.xCall (G94 c k F0 X Z5 y.i) ?_;rintro _ h ⟨rfl,o⟩<;>refine Jh o ?_
  (refine Jc ?_;unhygienic intros)
  refine Tr.nw fun b1 h=>?_
  (refine Jc ?_;unhygienic intros)
  refine Tr.xCall (G49 m w FR Y Az7 hb y.i) ?_;rintro _ h ⟨rfl,o⟩<;>refine Jh o ?_
  rw [T1.1]
  (refine Jc ?_;unhygienic intros)
  refine Tr.nw fun b2 h=>?_
  (refine Jc ?_;unhygienic intros)
  rw [eqF]
  refine Tr.bnd (Tr.condT rfl ?_)
  refine Tr.some fun o=>(?_:Tr _ _ _ _) o;refine Je ?_
  refine Tr.some fun o=>?_
  exact ⟨_,_,T1.2,by rw [beq_self_eq_true],o.sub⟩
 refine Tr.condF (by simpa using h3) ?_
 by_cases h4:y.kind=4
 ·have T1:=T.wr ⟨2,y.i⟩ (Bf2 f) (okF f)
  refine Tr.condT (by simpa using h4) ?_
  (refine Ja ?_;unhygienic intros)
  refine Tr.xCall (Hu0 c k F0 X Z5 y.i f) ?_;rintro _ h ⟨rfl,o⟩<;>refine Jh o ?_
  (refine Ja ?_;unhygienic intros)
  refine Tr.xCall (Hm0 m w FR Y Az7 hb y.i f) ?_;rintro _ h ⟨rfl,o⟩<;>refine Jh o ?_
  rw [T1.1]
  (refine Ja ?_;unhygienic intros)
  refine Tr.some fun o=>?_
  exact ⟨_,_,T1.2,by rw [beq_self_eq_true],o.sub⟩
 refine Tr.condF (by simpa using h4) ?_
 by_cases h5:y.kind=5
 ·have T1:=T.wr ⟨2,y.i⟩ (List.replicate (Q3 2) 0) true
  refine Tr.condT (by simpa using h5) ?_
  (refine Ja ?_;unhygienic intros)
  refine Tr.xCall (Hn6 c k F0 X Z5 y.i) ?_;rintro _ h ⟨rfl,o⟩<;>refine Jh o ?_
  (refine Ja ?_;unhygienic intros)
  refine Tr.xCall (G55 m w FR Y Az7 hb y.i) ?_;rintro _ h ⟨rfl,o⟩<;>refine Jh o ?_
  rw [T1.1]
  (refine Ja ?_;unhygienic intros)
  refine Tr.some fun o=>?_
  exact ⟨_,_,T1.2,by rw [beq_self_eq_true],o.sub⟩
 refine Tr.condF (by simpa using h5) ?_
 by_cases h6:y.kind=6
 ·have T1:=T.re H7 .zero ⟨3,y.i⟩ (by simp)
  refine Tr.condT (by simpa using h6) ?_
  (refine Ja ?_;unhygienic intros)
  refine Tr.xCall (Hn1 c k F0 X Z5 y.i) ?_;rintro _ h ⟨rfl,o⟩<;>refine Jh o ?_
  (refine Jc ?_;unhygienic intros)
  refine Tr.nw fun b1 h=>?_
  (refine Jc ?_;unhygienic intros)
  refine Tr.xCall (G32 m w FR Y Az7 hb y.i hi) ?_;rintro _ h ⟨rfl,o⟩<;>refine Jh o ?_
  rw [T1.1]
  (refine Jc ?_;unhygienic intros)
  refine Tr.nw fun b2 h=>?_
  (refine Jc ?_;unhygienic intros)
  rw [eqP]
  refine Tr.bnd (Tr.condT rfl ?_)
  refine Tr.some fun o=>(?_:Tr _ _ _ _) o;refine Je ?_
  refine Tr.some fun o=>?_
  exact ⟨_,_,T1.2,by rw [beq_self_eq_true],o.sub⟩
 refine Tr.condF (by simpa using h6) ?_
 by_cases h7:y.kind=7
 ·have T1:=T.wr ⟨3,y.i⟩ (Al3 q) (okP q)
  refine Tr.condT (by simpa using h7) ?_
  (refine Ja ?_;unhygienic intros)
  refine Tr.xCall (Hp4 c k F0 X Z5 y.i q) ?_;rintro _ h ⟨rfl,o⟩<;>refine Jh o ?_
  (refine Ja ?_;unhygienic intros)
  refine Tr.xCall (Hj2 m w FR Y Az7 hb y.i hi q) ?_;rintro _ h ⟨rfl,o⟩<;>refine Jh o ?_
  rw [T1.1]
  (refine Ja ?_;unhygienic intros)
  refine Tr.some fun o=>?_
  exact ⟨_,_,T1.2,by rw [beq_self_eq_true],o.sub⟩
 refine Tr.condF (by simpa using h7) ?_
 by_cases h8:y.kind=8
 ·have T1:=T.wr ⟨3,y.i⟩ (List.replicate (Q3 3) 0) true
  refine Tr.condT (by simpa using h8) ?_
  (refine Ja ?_;unhygienic intros)
  refine Tr.xCall (Hm2 c k F0 X Z5 y.i) ?_;rintro _ h ⟨rfl,o⟩<;>refine Jh o ?_
  (refine Ja ?_;unhygienic intros)
  refine Tr.xCall (G79 m w FR Y Az7 hb y.i hi) ?_;rintro _ h ⟨rfl,o⟩<;>refine Jh o ?_
  rw [T1.1]
  (refine Ja ?_;unhygienic intros)
  refine Tr.some fun o=>?_
  exact ⟨_,_,T1.2,by rw [beq_self_eq_true],o.sub⟩
 refine Tr.condF (by simpa using h8) ?_
 by_cases h9:y.kind=9
 ·have T1:=T.re H7 .zero ⟨4,0⟩ (by simp)
  refine Tr.condT (by simpa using h9) ?_
  (refine Ja ?_;unhygienic intros)
  refine Tr.xCall (Gg4 c k F0 X Z5) ?_;rintro _ h ⟨rfl,o⟩<;>refine Jh o ?_
  (refine Jc ?_;unhygienic intros)
  refine Tr.nw fun b1 h=>?_
  (refine Jc ?_;unhygienic intros)
  refine Tr.xCall (G21 m w FR Y Az7 hb) ?_;rintro _ h ⟨rfl,o⟩<;>refine Jh o ?_
  rw [T1.1]
  (refine Jc ?_;unhygienic intros)
  refine Tr.nw fun b2 h=>?_
  (refine Jc ?_;unhygienic intros)
  rw [eqP]
  refine Tr.bnd (Tr.condT rfl ?_)
  refine Tr.some fun o=>(?_:Tr _ _ _ _) o;refine Je ?_
  refine Tr.some fun o=>?_
  exact ⟨_,_,T1.2,by rw [beq_self_eq_true],o.sub⟩
 refine Tr.condF (by simpa using h9) ?_
 by_cases h10:y.kind=10
 ·have T1:=T.wr ⟨4,0⟩ (Al3 q) (okP q)
  refine Tr.condT (by simpa using h10) ?_
  (refine Ja ?_;unhygienic intros)
  refine Tr.xCall (Ho9 c k F0 X Z5 q) ?_;rintro _ h ⟨rfl,o⟩<;>refine Jh o ?_
  (refine Ja ?_;unhygienic intros)
  refine Tr.xCall (Hl9 m w FR Y Az7 hb q) ?_;rintro _ h ⟨rfl,o⟩<;>refine Jh o ?_
  rw [T1.1]
  (refine Ja ?_;unhygienic intros)
  refine Tr.some fun o=>?_
  exact ⟨_,_,T1.2,by rw [beq_self_eq_true],o.sub⟩
 refine Tr.condF (by simpa using h10) ?_
 by_cases h11:y.kind=11
 ·have T1:=T.re V9 0 ⟨5,0⟩ (by simp)
  refine Tr.condT (by simpa using h11) ?_
  refine Tr.xCall (Ex3 c k F0 X Z5) ?_;rintro _ h ⟨rfl,o⟩<;>refine Jh o ?_
  (refine Ja ?_;unhygienic intros)
  refine Tr.xCall (Gt4 m w FR Y Az7 hb) ?_;rintro _ h ⟨rfl,o⟩<;>refine Jh o ?_
  rw [T1.1]
  (refine Jb ?_;unhygienic intros)
  refine Tr.bnd (Tr.condT (by rw [beq_self_eq_true]) ?_)
  refine Tr.some fun o=>(?_:Tr _ _ _ _) o;refine Je ?_
  refine Tr.some fun o=>?_
  exact ⟨_,_,T1.2,by rw [beq_self_eq_true],o.sub⟩
 refine Tr.condF (by simpa using h11) ?_
 by_cases h12:y.kind=12
 ·have T1:=T.wr ⟨5,0⟩ (Bz1 y.i) (decide (0≤y.i∧y.i<8))
  refine Tr.condT (by simpa using h12) ?_
  (refine Ja ?_;unhygienic intros)
  refine Tr.xCall (Hi2 c k F0 X Z5 y.i) ?_;rintro _ h ⟨rfl,o⟩<;>refine Jh o ?_
  (refine Ja ?_;unhygienic intros)
  refine Tr.xCall (G54 m w FR Y Az7 hb y.i) ?_;rintro _ h ⟨rfl,o⟩<;>refine Jh o ?_
  rw [T1.1]
  (refine Ja ?_;unhygienic intros)
  refine Tr.some fun o=>?_
  exact ⟨_,_,T1.2,by rw [beq_self_eq_true],o.sub⟩
 refine Tr.condF (by simpa using h12) ?_
 by_cases h15:y.kind=15
 ·refine Tr.condT (by simpa using h15) ?_
  refine Tr.xCall (Iq3 c k F0 X Z5) ?_;rintro _ h ⟨rfl,o⟩<;>refine Jh o ?_
  (refine Ja ?_;unhygienic intros)
  have L:=Ia4 m w FR Y Az7 (Nat.le_trans T.len (by omega))
  rw [show FR.caps.length=3 from rfl] at L
  refine Tr.xCall (L) ?_;rintro _ h ⟨rfl,o⟩<;>refine Jh o ?_
  (refine Ja ?_;unhygienic intros)
  refine Tr.some fun o=>?_
  exact ⟨_,_,T.look,rfl,o.sub⟩
 refine Tr.condF (by simpa using h15) ?_
 by_cases h13:y.kind=13
 ·have hj:0≤B5 .i64 y.i 3∧B5 .i64 y.i 3<4:=by rw [Hd6];omega
  obtain ⟨j,hj2⟩:∃ j:Nat,B5 .i64 y.i 3=(j:Int):=⟨_,(Int.toNat_of_nonneg hj.1).symm⟩
  rw [hj2] at hj
  have T1:Tw 3 ⟨(Q7 X.m j y.x y.b).2,X.bad⟩ ⟨(Q7 X.m j y.x y.b).2,Y.bad⟩:=⟨by rw [Id3];exact T.l,rfl,T.b,T.v⟩
  have R:=Ij5 m w Y (show j<4 by omega) y.x y.b hlen (slC true A2 1 g.2.1 y.b.length g.2.2 (A0 y.b)) g.2.1 g.2.2 true
  rw [T.m] at R
  refine Tr.condT (by simpa using h13) ?_
  (refine Jc ?_;unhygienic intros)
  rw [hj2,show IntKind.wrap .i64 (256+(j:Int))=256+(j:Int) by rw [B0];omega]
  refine Tr.nw fun b1 h=>?_
  (refine Jc ?_;unhygienic intros)
  refine A7 (opC g y) fun u=>?_;refine Je ?_
  refine Tr.xCall (R) ?_;rintro _ h ⟨rfl,o⟩<;>refine Jh o ?_
  (refine Jc ?_;unhygienic intros)
  refine Tr.xCall (In0 c k X (show j<4 by omega) y.x y.b g.2.1 g.2.2 true) ?_;rintro _ h ⟨x1,d1,rfl,o⟩<;>refine Jh o ?_
  (refine Jc ?_;unhygienic intros)
  refine A5 (opC g y) () ?_;refine Je ?_
  refine Tr.some fun o=>?_
  exact ⟨_,_,T1,by rw [beq_self_eq_true],o.sub⟩
 refine Tr.condF (by simpa using h13) ?_
 refine Tr.xCall (Hh2 c k F0 X Z5) ?_;rintro _ h ⟨x1,d1,rfl,o⟩<;>refine Jh o ?_
 (refine Ja ?_;unhygienic intros)
 refine Tr.xCall (Id5 m w FR Y Az7) ?_;rintro _ h ⟨rfl,o⟩<;>refine Jh o ?_
 rw [T.m]
 (refine Ja ?_;unhygienic intros)
 refine Tr.some fun o=>?_
 exact ⟨_,_,T,by rw [beq_self_eq_true],o.sub⟩
theorem I36 (c k m w:Nat) (g:OpG) (y:OpP) (hy:OpOk y) (hlen:y.b.length≤100) (X Y:CX) (T:Tw 3 X Y) :
  Ct A4 A38 [P0 k,P0 c,P0 w,P0 m,.agg ⟨opL g y⟩] [cmC c k F0 X,rmC m w FR Y,opC g y] (doQ c k m w g y):=by
 have hraw:=Is4 g y
 have hl2:y.b.length≤A8:=by simp only [A8];omega
 refine Ct.of Gs7 rfl fun h r=>Tr.eq (Hz1 ..) ?_;refine Je ?_
 refine Tr.nw fun bo h=>?_
 (refine Jc ?_;unhygienic intros)
 refine Tr.nw fun bp h=>?_
 refine Tr.nw fun bf h=>?_
 refine Tr.nw fun bq h=>?_
 refine A7 (opC g y) fun u=>?_;refine Je ?_
 refine Tr.xCall (Im6 (slC true B2 1 g.1.1 y.l.length g.1.2 (y.l.map int)) g.1.1 true g.1.2 y.l) ?_;rintro _ h ⟨rfl,o⟩<;>refine Jh o ?_
 (refine Jc ?_;unhygienic intros)
 refine Tr.xCall (Io0 y.x) ?_;rintro _ h ⟨⟨f,hf,rfl⟩,o⟩<;>refine Jh o ?_
 (refine Jc ?_;unhygienic intros)
 refine Tr.xCall (Ij2 y.x (slC true A2 1 g.2.1 y.b.length g.2.2 (A0 y.b)) g.2.1 true y.b.length g.2.2 y.b rfl) ?_;rintro _ h ⟨⟨q,hq,rfl⟩,o⟩<;>refine Jh o ?_
 (refine Jc ?_;unhygienic intros)
 refine A5 (opC g y) () ?_;refine Je ?_
 cases hr:y.raw with
 | true =>
  refine Tr.condT rfl ?_
  (refine Jc ?_;unhygienic intros)
  refine Tr.xRun (Hc2 c k m w g y hy y.p y.f y.q hy.p hl2 bo bp bf bq X Y T) ?_;rintro _ h ⟨X',Y',T',rfl,o⟩
  exact ⟨X',Y',T',rfl,o.sub⟩
 | false =>
  refine Tr.condF rfl ?_
  refine Tr.xRun (Hc2 c k m w g y hy (D50 y.l) f q (Ik1 y.l).2.w hl2 bo bp bf bq X Y T) ?_;rintro _ h ⟨X',Y',T',rfl,o⟩
  exact ⟨X',Y',T',rfl,o.sub⟩
theorem Iw6 {j:Nat} (hj:j<4):∃ lo n:Nat,B69[j]?=some ((lo:Int),(n:Int))∧K0.R.lo[j]?=some (lo:Int)∧K0.R.n[j]?=some (n:Int)∧lo+n≤2560:=by
 rw [Dr7,Gh2]
 match j,hj with
 | 0,_=>exact ⟨0,492,rfl,rfl,rfl,by omega⟩
 | 1,_=>exact ⟨1280,492,rfl,rfl,rfl,by omega⟩
 | 2,_=>exact ⟨512,40,rfl,rfl,rfl,by omega⟩
 | 3,_=>exact ⟨1856,40,rfl,rfl,rfl,by omega⟩
theorem Hy8:K0.R.M=S0.mem:=by kernel_rfl
theorem I18 (F:RFr) (m:List (List UInt8)):(F.at m).R.lo=F.K.R.lo:=rfl
theorem I46 (F:RFr) (m:List (List UInt8)):(F.at m).R.n=F.K.R.n:=rfl
theorem H65:FR.K=K0:=rfl
theorem H87 (m:List (List UInt8)):(FR.at m).R.M=U2 S0.mem (rgP 0) m:=by
 show U2 K0.R.M (rgP 0) m=_
 rw [Hy8]
theorem Io1 (c k m w:Nat) (X Y:CX) (T:Tw 3 X Y):∀ z j,j+z=4 →
  CtJ E9 B8 Am4 [(3,P0 k),(5,P0 w),(8,int (j:Nat))] [cmC c k F0 X,rmC m w FR Y] fun v own=>v=.bool true
 | 0,j,hj=>by
  refine CtJ.of Aj0 fun h r=>Tr.eq (Bu1 ..) ?_;refine Je ?_
  refine Tr.condF (by simp;omega) ?_
  refine Tr.some fun o=>?_
  rfl
 | z+1,j,hj=>by
  have ih:=Io1 c k m w X Y T z (j+1) (by omega)
  have e1:=wN j
  obtain ⟨lo,n,h1,h2,h3,h4⟩:=Iw6 (show j<4 by omega)
  refine CtJ.of Aj0 fun h r=>Tr.eq (Bu1 ..) ?_;refine Je ?_
  refine Tr.condT (by simp;omega) ?_
  refine Iv3 c k X j h1 h4 fun y d h f=>?_
  (refine Ja ?_;unhygienic intros)
  refine A7 (rmC m w FR Y) fun u=>?_;refine Je ?_
  refine H2 2 rfl fun fy=>?_
  have R:=fun g=>Is3 g (FR.at Y.m).R (RFr.at_ok Az7 fy).R j (lo:=(lo:Int)) (n:=(n:Int)) (by rw [I18,H65];exact h2) (by rw [I46,H65];exact h3)
  have e3:(FR.at Y.m).R.M=U2 S0.mem (rgP 0) X.m:=by rw [H87,T.m]
  rw [e3,Int.toNat_natCast,Int.toNat_natCast] at R
  refine A7 (rkC w (FR.at Y.m)) fun ⟨⟨fa,fc,ea,ec,sa,sc,ss,ha,hc,hs⟩,q,g,ta,tc,ts⟩=>?_;refine Je ?_
  (refine Ja ?_;unhygienic intros)
  refine Tr.xCall (R g) ?_;rintro _ h ⟨rfl,o⟩<;>refine Jh o ?_
  refine D3 (rkC w (FR.at Y.m)) ⟨⟨fa,fc,ea,ec,sa,sc,ss,ha,hc,hs⟩,q,g,ta,tc,ts⟩ [1,1,1,1,1,1,1,1,0,0,0,0] rfl ?_;refine Je ?_
  refine A5 (rmC m w FR Y) () ?_;refine Je ?_
  refine Je ?_
  refine Tr.xCells (by omega) ?_
  (refine Jb ?_;unhygienic intros)
  refine Tr.bnd (Tr.condF (by rw [beq_self_eq_true];rfl) ?_)
  refine Tr.some fun o=>(?_:Tr _ _ _ _) o;refine Je ?_
  refine Tr.condF rfl ?_
  rw [e1]
  refine Tr.xRun (ih) ?_;rintro _ h rfl
  rfl
section
variable (gs:List OpG) (ys:List OpP) (hok:∀ y ∈ ys,OpOk y) (hg:gs.length=ys.length) (a:Option Addr) (ac:Nat) (c k m w:Nat)
abbrev Gi1:List Value:=(List.zip gs ys).flatMap fun p=>opL p.1 p.2
theorem Ie6 (i:Nat) (X Y:CX) (T:Tw 3 X Y) (hn:¬ (i<ys.length∧i<80)) :
  CtJ E9 B8 Aa4 [(0,.slice a ys.length ac),(3,P0 k),(4,P0 c),(5,P0 w),(6,P0 m),(7,int (i:Nat))] [cmC c k F0 X,rmC m w FR Y,slC true A37 62 a ys.length ac (Gi1 gs ys),I1 opC gs ys] fun v own=>v=.bool true:=by
 have L2:=Io1 c k m w X Y T 4 0 (by omega)
 refine CtJ.of Aj0 fun h r=>Tr.eq (Bt4 ..) ?_;refine Je ?_
 refine Tr.andG (c:=decide ((i:Int)<80)) (fun hb=>?_) ?_
 ·exact Jz
 refine Tr.condF (by simp;omega) ?_
 refine A7 (cmC c k F0 X) fun u=>?_;refine Je ?_
 refine H2 2 rfl fun f=>?_
 refine A7 (E5 k (F0.at X.m)) fun ⟨m1,s,q,rg,ea,ec,ma,mc,ms,sa,sc,ss⟩=>?_;refine Je ?_
 refine Tr.pcall (He4 k (F0.at X.m) ⟨m1,s,q,rg,ea,ec,ma,mc,ms,sa,sc,ss⟩) ?_;refine Je ?_;(refine Ja ?_;unhygienic intros)
 refine A5 (E5 k (F0.at X.m)) ⟨m1,s,q,rg,ea,ec,ma,mc,ms,sa,sc,ss⟩ ?_;refine Je ?_
 refine A5 (cmC c k F0 X) () ?_;refine Je ?_
 refine Tr.xRun (L2) ?_;rintro _ h rfl
 rfl
include hok hg
theorem I25:∀ (z i:Nat) (X Y:CX),i+z=80→Tw 3 X Y →
  CtJ E9 B8 Aa4 [(0,.slice a ys.length ac),(3,P0 k),(4,P0 c),(5,P0 w),(6,P0 m),(7,int (i:Nat))] [cmC c k F0 X,rmC m w FR Y,slC true A37 62 a ys.length ac (Gi1 gs ys),I1 opC gs ys] fun v own=>v=.bool true:=by
 intro z
 induction z with
 | zero =>
  intro i X Y hi T
  exact Ie6 gs ys a ac c k m w i X Y T (by omega)
 | succ z ih =>
  intro i X Y hi T
  obtain hlt|hlt:=Classical.em (¬ (i<ys.length∧i<80))
  ·exact Ie6 gs ys a ac c k m w i X Y T hlt
  have hlt:=Classical.not_not.1 hlt
  have hx:ys[i]?=some ys[i]:=List.getElem?_eq_getElem hlt.1
  have hgi:gs[i]?=some (gs[i]'(by omega)):=List.getElem?_eq_getElem (by omega)
  have hy:=hok _ (List.mem_of_getElem? hx)
  generalize ys[i]=y at hx hy
  generalize gs[i]'(by omega)=g at hgi
  have hcell:((Gi1 gs ys).drop (i*62)).take 62=opL g y:=Ay8 (f:=fun p:OpG × OpP=>opL p.1 p.2) (k:=62) (fun p=>De7 p.1 p.2) (Ex9 hgi hx)
  have hlen:(Gi1 gs ys).length=ys.length*62:=by unfold Gi1;rw [N3 (f:=fun p:OpG × OpP=>opL p.1 p.2) (k:=62) (fun p=>De7 p.1 p.2)];simp [hg]
  have hsl:(Gi1 gs ys)[i*62+4]?=some (.slice g.2.1 y.b.length g.2.2):=A56 (f:=fun p:OpG × OpP=>opL p.1 p.2) (k:=62) (fun p=>De7 p.1 p.2) (Ex9 hgi hx) (by omega)
  have e1:=wN i
  have ih:=fun X Y=>ih (i+1) X Y (by omega)
  refine CtJ.of Aj0 fun h r=>Tr.eq (Bt4 ..) ?_;refine Je ?_
  refine Tr.andG (c:=decide ((i:Int)<80)) (fun hb=>?_) ?_
  ·exact Jz
  refine Tr.condT (by simp;omega) ?_
  (refine Ja ?_;unhygienic intros;repeat(refine Gw ?_;rintro px rfl;refine Ja ?_;unhygienic intros))
  by_cases h100:y.b.length>100
  ·refine Tr.condT (by simp;omega) ?_
   refine Tr.some fun o=>?_
   rfl
  refine Tr.condF (by simp;omega) ?_
  (refine Ja ?_;unhygienic intros)
  rw [Int.toNat_natCast]
  refine Tr.xAggS (xs:=opL g y) ⟨by omega,by rw [hlen];omega,hcell⟩ ?_
  refine Af1 opC gs ys hgi hx ?_
  refine Tr.xCall (I36 c k m w g y hy (by omega) X Y T) ?_;rintro _ h ⟨X',Y',T',rfl,o⟩<;>refine Jh o ?_
  refine Aq7 opC gs ys i hgi hx ?_
  have B:=Hm4 c k F0 X' Z5
  rw [show F0.caps.length=3 from rfl,← T'.b] at B
  refine A7 (rmC m w FR Y') fun u=>?_;refine Je ?_
  refine H2 2 rfl fun fy=>?_
  refine A7 (rcC m w FR.e FR.caps (Y'.bad.map G8)) fun ⟨a1,c1,a2,c2⟩=>?_;refine Je ?_
  (refine Jb ?_;unhygienic intros)
  refine Tr.bnd (Tr.condF rfl ?_)
  (refine Jb ?_;unhygienic intros)
  refine Tr.xCall (B) ?_;rintro _ h ⟨a3,c3,rfl,o⟩<;>refine Jh o ?_
  (refine Jb ?_;unhygienic intros)
  refine Tr.xCall (Iq8 a3 a2 c3 c2 Y'.bad (Nat.le_trans T'.len (by omega))) ?_;rintro _ h ⟨rfl,o⟩<;>refine Jh o ?_
  (refine Jb ?_;unhygienic intros)
  refine A5 (rcC m w FR.e FR.caps (Y'.bad.map G8)) ⟨a1,c1,a2,c2⟩ ?_;refine Je ?_
  refine A5 (rmC m w FR Y') () ?_;refine Je ?_
  refine Tr.some fun o=>(?_:Tr _ _ _ _) o;refine Je ?_
  refine Tr.condF rfl ?_
  rw [e1]
  refine Tr.xRun (ih X' Y' T') ?_;rintro _ h rfl
  rfl
end
theorem Iz3:Bs8 K0 0=[256,257,258]:=by kernel_rfl
theorem Iy8 (K:RKS) (M:List UInt8) (h:M=K.R.M):({ K with R:={ K.R with M:=M } }:RKS)=K:=by subst h;rfl
theorem I09:FR.at X0.m=K0:=by
 unfold RFr.at
 rw [H65]
 refine Iy8 K0 _ ?_
 show U2 K0.R.M (rgP 0) (B64 S0.mem (rgP 0))=_
 rw [Hy8]
 exact Hk7 Z5.dj (Gi5 D58 (by omega) 0)
theorem I01:Fit FR.K.R.M.length FR.rg X0.m:=by
 rw [H65,Hy8]
 exact Gk7 (Gi5 D58 (by omega) 0)
theorem Own.rmTake {r:List HP} {h:H} (m w:Nat) (o:Own h (rcC m w 0 (Bs8 K0 0) []::rkC w K0::r)):Own h (rmC m w FR X0::r):=by
 have o2:Own h (rcC m w FR.e FR.caps (X0.bad.map G8)::rkC w (FR.at X0.m)::r):=by
  rw [I09]
  rw [Iz3] at o
  exact o
 have o3:=Own.inpure I01 o2
 exact Own.shut (f:=fun _:Unit=>rmF m w FR X0) () (o3.picks [1,1,0] rfl)
theorem I23 {l r:List HP} {h:H} {α:Type} {Q:α→H→Prop} {x:Option (α × H)} (m w:Nat) [tk:Takes [rcC m w 0 (Bs8 K0 0) [],rkC w K0] l r] (t:Tr (rmC m w FR X0::r) h x Q):Tr l h x Q:=fun o=>t (Own.rmTake m w (o.perm tk.pm))
theorem tw0:Tw 3 X0 X0:=⟨by kernel_rfl,rfl,(G37 3).symm,fun q hq=>by cases hq⟩
theorem Gm6 (gs:List OpG) (ys:List OpP) (hok:∀ y ∈ ys,OpOk y) (hg:gs.length=ys.length) (a:Option Addr) (ac:Nat) :
  Ct A4 B8 [.slice a ys.length ac] [slC true A37 62 a ys.length ac (Gi1 gs ys),I1 opC gs ys] fun v own=>v=.bool true:=by
 have L1:=fun c k m w=>I25 gs ys hok hg a ac c k m w 80 0 X0 X0 rfl tw0
 refine Ct.of Aj0 rfl fun h r=>Tr.eq (Em2 ..) ?_;refine Je ?_
 refine Tr.xCall (He8) ?_;rintro _ h ⟨A,rfl,o⟩<;>refine Jh o ?_
 (refine Ja ?_;unhygienic intros)
 refine Tr.xCall (Hl4 A) ?_
 rintro _ h ⟨k,c,w,m,rfl,o⟩
 refine (?_:Tr _ _ _ _) o
 refine Je ?_
 refine I23 m w ?_
 (refine Jb ?_;unhygienic intros)
 refine Tr.bnd (Tr.condF rfl ?_)
 refine Tr.xCall (H23) ?_;rintro _ h ⟨rfl,o⟩<;>refine Jh o ?_
 (refine Jb ?_;unhygienic intros)
 refine Tr.some fun o=>(?_:Tr _ _ _ _) o;refine Je ?_
 refine Tr.condF rfl ?_
 refine Tr.xRun (L1 c k m w) ?_;rintro _ h rfl
 rfl
end Go.EQ

set_option maxRecDepth 100000
namespace Go.EQ
open Go Go.NN Go.Proofs Go.ChangeShapes Go.WideShapes Go.RowKit
theorem Ir4:∀ f,(cutsOf f).globs=0:=Ew6 Io5 (by kernel_rfl)
theorem It4:∀ f,(cutsOf f).globs≤PR.globals.size:=fun f=>by rw [Ir4 f];exact Nat.zero_le _
theorem Iu8:PR.follows .mixedOrders=true:=by kernel_rfl
theorem Iw8:laidOutB PR=true:=by kernel_rfl
theorem I33:ownKnob PR.godebug=none:=by kernel_rfl
end Go.EQ

set_option maxRecDepth 100000
namespace Go.EQ
open Go Go.NN Go.Proofs Go.Proofs.YtmhfkfijaamamaaGreat Go.ChangeShapes Go.WideShapes Go.RowKit
theorem Iu1 {H:Type} {enc:TypeId × Value→H} {W:World} {v0:Value} {d0:DataW H} {p0:List MemPlace} {b0:Nat} (k0:Value.okWide PR W .any b0 Dw9 v0)
  (h0:DataW.Trod enc PR W 0 (fun _=>true) true Dw9 v0 d0 p0) :
  Calls PR B8 #[v0] W fun e W'=>e=.returned (.bool true)∧Below W.heap.size W W':=by
 obtain ⟨ys,hys,i0⟩:=(I47 (W:=W)).arg (Hp7 E58 k0) h0
 refine i0.run Iu8 It4 fun vs ps J hh r o=>?_
 obtain ⟨⟨⟨a,ac⟩,gs⟩,e0a,e0b⟩:=J
 subst e0a
 subst e0b
 have hp:gs.length=ys.length:=(Own.of_sl o 2 rfl).pure
 have o3:=(Own.join o).weak1 2
 obtain ⟨v,h',e,rfl⟩:=Gm6 gs ys hys.2 hp a ac hh r o3
 exact ⟨h',e⟩
theorem Ij6 (os:Os) (started:os.Started) (H:Type) (enc:TypeId × Value→H) :
  ReturnsInHanded {} Tryz.checked os B8 .any (Rows.commonsPlaysSpec.pre6 enc Tryz.prog Tryz.f3 Rows.commonsPlaysRow.domain false) (Rows.commonsPlaysSpec.post enc Tryz.prog Tryz.f3 false true false false):=by
 refine returnsInHanded_of_change (C:=Tryz.checked) I33 started (by kernel_rfl) Tryz.func3
  (ChangeSpec.witness6 (enc:=enc) (C:=Tryz.checked) false ⟨#[],#[.slice none 0 0],[]⟩ 8 (by kernel_rfl) (by kernel_rfl) (by kernel_rfl) (by kernel_rfl)) ?_
 intro W base args ds gs before hval hW hcnd _
 have hW':=hW
 obtain ⟨p,q,hA,hV,rfl,hfz,hnd⟩:=hW
 rw [Tryz.params3] at hA hval
 obtain ⟨v0,d0,rfl,rfl,h0⟩:=trodAll_one hA
 refine (Iu1 (hval 0 _ v0 rfl rfl) h0).mono fun e W' ⟨he,hb⟩=>?_
 subst he
 refine ⟨_,rfl,Ic1 Iw8 ?_ rfl H86 rfl (fun ds gs hl=>?_) hW' hb⟩
 ·rw [Tryz.params3];intro t ht;simp at ht;subst ht;exact ⟨by kernel_rfl,of_decide_eq_true (by kernel_rfl)⟩
 ·replace hl:ds.length=1:=hl
  cases gs with
  | cons _ _=>exact .inr (by simp)
  | nil=>match ds,hl with|[_],_=>exact .inl rfl
theorem Iw2:Tryz.pinned.checked.prog.funcNamed Rows.commonsPlaysRow.func=some B8:=by kernel_rfl
theorem A9 {a b:Bool} (x:(a && b)=true):a=true:=by cases a<;>simp_all
theorem A49 {a b:Bool} (x:(a && b)=true):b=true:=by cases a<;>simp_all
theorem Ay1 {a b:Bool} (x:a=true) (y:b=true):(a && b)=true:=by rw [x,y];rfl
theorem I37:(Rows.commonsPlaysRow.wf (OpenSpec.ofChange Rows.commonsPlaysSpec) && laidOutB Tryz.pinned.checked.prog && mapsRowed Tryz.pinned.checked.prog && Tryz.f3.params.all (Tryz.pinned.checked.prog.readableRec ·) && namedTie Tryz.pinned.checked.prog Rows.commonsPlaysRow.named Rows.commonsPlaysSpec.vars && (Rows.commonsPlaysRow.stops==[]) && (Tryz.pinned.checked.prog.stops==[]) && (Rows.commonsPlaysRow.knobs==[]) && (Tryz.pinned.checked.prog.stopKnobs==[]))=true:=by kernel_rfl
theorem H09:((Rows.commonsPlaysRow.inPlace==Tryz.pinned.checked.prog.inPlace B8) && (Rows.commonsPlaysRow.unfollowed==Tryz.pinned.checked.prog.unfollowed B8) && (Rows.commonsPlaysRow.recurses==Tryz.pinned.checked.prog.recurses B8) && (Rows.commonsPlaysRow.named==Tryz.pinned.checked.prog.varsNamed B8))=true:=by kernel_rfl
theorem Bh1:((Rows.commonsPlaysRow.maps==(Tryz.f3.params.toList++Rows.commonsPlaysSpec.plain.varTypes Tryz.pinned.checked.prog).any (Tryz.pinned.checked.prog.mapsRec ·)) && (Rows.commonsPlaysRow.ifaces==(Tryz.f3.params.toList++Rows.commonsPlaysSpec.plain.varTypes Tryz.pinned.checked.prog).any (Tryz.pinned.checked.prog.ifacesRec ·)) && (Rows.commonsPlaysRow.mapsOut==Tryz.pinned.checked.prog.mapsAmong Tryz.f3.resultTypes.toList) && (Rows.commonsPlaysRow.loops==(Tryz.f3.params.toList++Rows.commonsPlaysSpec.plain.varTypes Tryz.pinned.checked.prog).any (Tryz.pinned.checked.prog.loopsFrom ·)) && (Rows.commonsPlaysRow.wideKeys==(Tryz.f3.params.toList++Rows.commonsPlaysSpec.plain.varTypes Tryz.pinned.checked.prog++Tryz.f3.resultTypes.toList).any (Tryz.pinned.checked.prog.wideKeysFrom ·)) && Rows.commonsPlaysSpec.vars.all (Tryz.pinned.checked.prog.varReadable ·) && Tryz.f3.resultTypes.all (fun t=>Tryz.pinned.checked.prog.readableRec t && decide (t<Tryz.pinned.checked.prog.types.size)) && (Rows.commonsPlaysRow.ifacesOut==Tryz.f3.resultTypes.toList.any (Tryz.pinned.checked.prog.ifacesRec ·)) && (Rows.commonsPlaysRow.loopsOut==Tryz.f3.resultTypes.toList.any (Tryz.pinned.checked.prog.loopsFrom ·)) && (Rows.commonsPlaysRow.plainKeys==Tryz.pinned.checked.prog.plainKeys) && Rows.commonsPlaysRow.shortTexts.isNone && Tryz.pinned.checked.prog.stopsHeard && Tryz.pinned.checked.prog.mayEnter && (Rows.commonsPlaysRow.lifted==Tryz.pinned.checked.prog.liftsFinal) && (Tryz.pinned.checked.prog.make==some Rows.commonsPlaysRow.make) && (Rows.commonsPlaysRow.kinds==(if Rows.commonsPlaysRow.domain.isEmpty then [] else Tryz.f3.params.toList.map fun t=>match Tryz.pinned.checked.prog.underlying t with|some (.int k)=>some k|_=>none)) && (Rows.commonsPlaysRow.pinned==Rows.commonsPlaysRow.pinnedBy) && (Rows.commonsPlaysRow.veiled==(Tryz.f3.params.toList++Rows.commonsPlaysSpec.plain.varTypes Tryz.pinned.checked.prog++Tryz.f3.resultTypes.toList).any (Tryz.pinned.checked.prog.veiledRec ·)) && Rows.commonsPlaysRow.veiledFits Tryz.pinned.checked.prog Tryz.f3.params.toList (Tryz.f3.params.toList++Rows.commonsPlaysSpec.plain.varTypes Tryz.pinned.checked.prog++Tryz.f3.resultTypes.toList))=true:=by kernel_rfl
theorem Ii9:joinedFacts Tryz.pinned.checked.prog B8 Tryz.f3 Rows.commonsPlaysSpec Rows.commonsPlaysRow=true:=by
 unfold joinedFacts
 exact (Ay1 (Ay1 (Ay1 (Ay1 (Ay1 (Ay1 (Ay1 (Ay1 (Ay1 (Ay1 (Ay1 (Ay1 (Ay1 (Ay1 (Ay1 (Ay1 (Ay1 (Ay1 (Ay1 (Ay1 (Ay1 (Ay1 (Ay1 I37 (A9 (A9 (A9 H09)))) (A49 (A9 (A9 H09)))) (A49 (A9 H09))) (A49 H09)) (A9 (A9 (A9 (A9 (A9 (A9 (A9 (A9 (A9 (A9 (A9 (A9 (A9 (A9 (A9 (A9 (A9 (A9 Bh1))))))))))))))))))) (A49 (A9 (A9 (A9 (A9 (A9 (A9 (A9 (A9 (A9 (A9 (A9 (A9 (A9 (A9 (A9 (A9 (A9 Bh1))))))))))))))))))) (A49 (A9 (A9 (A9 (A9 (A9 (A9 (A9 (A9 (A9 (A9 (A9 (A9 (A9 (A9 (A9 (A9 Bh1)))))))))))))))))) (A49 (A9 (A9 (A9 (A9 (A9 (A9 (A9 (A9 (A9 (A9 (A9 (A9 (A9 (A9 (A9 Bh1))))))))))))))))) (A49 (A9 (A9 (A9 (A9 (A9 (A9 (A9 (A9 (A9 (A9 (A9 (A9 (A9 (A9 Bh1)))))))))))))))) (A49 (A9 (A9 (A9 (A9 (A9 (A9 (A9 (A9 (A9 (A9 (A9 (A9 (A9 Bh1))))))))))))))) (A49 (A9 (A9 (A9 (A9 (A9 (A9 (A9 (A9 (A9 (A9 (A9 (A9 Bh1)))))))))))))) (A49 (A9 (A9 (A9 (A9 (A9 (A9 (A9 (A9 (A9 (A9 (A9 Bh1))))))))))))) (A49 (A9 (A9 (A9 (A9 (A9 (A9 (A9 (A9 (A9 (A9 Bh1)))))))))))) (A49 (A9 (A9 (A9 (A9 (A9 (A9 (A9 (A9 (A9 Bh1))))))))))) (A49 (A9 (A9 (A9 (A9 (A9 (A9 (A9 (A9 Bh1)))))))))) (A49 (A9 (A9 (A9 (A9 (A9 (A9 (A9 Bh1))))))))) (A49 (A9 (A9 (A9 (A9 (A9 (A9 Bh1)))))))) (A49 (A9 (A9 (A9 (A9 (A9 Bh1))))))) (A49 (A9 (A9 (A9 (A9 Bh1)))))) (A49 (A9 (A9 (A9 Bh1))))) (A49 (A9 (A9 Bh1)))) (A49 (A9 Bh1))) (A49 Bh1))
theorem Iv6:Tryz.f3.isInstance Tryz.pinned.checked.prog Rows.commonsPlaysRow.origin Rows.commonsPlaysRow.targs:=of_decide_eq_true (by kernel_rfl)
theorem Ix9:Tryz.f3.isWrapper Tryz.pinned.checked.prog Rows.commonsPlaysRow.wrapper Rows.commonsPlaysRow.mainSum:=by unfold Func.isWrapper;first|(rw [if_pos (by decide +kernel)];kernel_rfl)|(rw [if_neg (by decide +kernel)];exact ⟨rfl,rfl⟩)
theorem CommonsPlays_holds:Rows.CommonsPlaysSaid :=
 OpenClaim.holds_of_wide B8 Tryz.f3 rfl rfl rfl rfl rfl rfl rfl ⟨rfl,rfl,rfl,rfl,rfl⟩ rfl rfl rfl rfl rfl Iw2 Tryz.func3 Ii9 Iv6 Ix9
  (fun os started H enc _=>Ij6 os started H enc)
end Go.EQ
