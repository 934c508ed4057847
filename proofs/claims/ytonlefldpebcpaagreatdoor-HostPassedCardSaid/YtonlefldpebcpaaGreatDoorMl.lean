/- One that is in and never picked again holds the others up for no longer than the lease; picked later it begins anew, and does its call once. -/
import Derived.Test.YtonlefldpebcpaaGreatDoorMk
import Derived.Test.YtonlefldpebcpaaGreatDoorCards
import Derived.Test.YtonlefldpebcpaaGreatDoorTie
import Derived.LaidMore
import Derived.OpenShut
import Derived.Stop.Joined
import Derived.ProofKit
import Derived.SevenTiedAt
set_option linter.all false
set_option maxRecDepth 10000
namespace Go.EQ
open Go Go.NN
def SH (S:KS) (T:SectS) (t:Int):KS:={ S with sects:=S.sects.set 0 T,now:=t }
structure Base (S:KS):Prop where
 like:Like S
 sects:S.sects=[G8 5,G8 5]
 may:S.may=[[0],[1]]
 envs:S.envs=[0,0,0,0,0,0,0,0,0,1,1,1,1,1,1,1,1,1]
 now:S.now=0
theorem O6:Base S3:=⟨H91,by kernel_rfl,by kernel_rfl,by kernel_rfl,by kernel_rfl⟩
structure TOk (N:Nat) (T:SectS) (t:Int):Prop where
 ok:SectOk N T
 hN:N+2<1000000000
 now:0≤t∧t≤1073741824
theorem Ja0:EnvP 0 2:=⟨by omega,by omega,by kernel_rfl,by kernel_rfl,by kernel_rfl⟩
theorem Ex0 {j:Int} (h:0≤j∧j<4):EnvP 0 j:=by
 obtain rfl|rfl|rfl|rfl:j=0∨j=1∨j=2∨j=3:=by omega
 ·exact Em4
 ·exact Iq2
 ·exact Ja0
 ·exact Ja8
def frH (S:KS) (T:SectS) (t:Int) (N:Nat) (env:Int):Fr:=⟨SH S T t,N,env,[256,257,258],rgP 0⟩
abbrev kmF (S:KS) (k:Nat) (T:SectS) (t:Int) (m:List (List UInt8)):List HP:=[D4 k (I1 (SH S T t) (U3 S.mem (rgP 0) m)),pu (Fit S.mem.length (rgP 0) m)]
def kmC (S:KS) (k:Nat) (T:SectS) (t:Int) (m:List (List UInt8)):HP:=hex fun _:Unit=>sl (kmF S k T t m)
instance {S:KS} {k:Nat} {T:SectS} {t:Int} {m:List (List UInt8)}:Chk (kmC S k T t m) (fun _:Unit=>kmF S k T t m):=⟨rfl⟩
abbrev c3C (c k:Nat) (env:Int) (bad:List RecS):HP:=W6 c k env [256,257,258] bad
theorem Own.cmOf {S:KS} {h:H} {r:List HP} {c k N:Nat} {T:SectS} {t env:Int} {m:List (List UInt8)} {bad:List RecS} (o:Own h (kmC S k T t m::c3C c k env bad::r)):Own h (cmC c k (frH S T t N env) ⟨m,bad⟩::r):=by
 obtain ⟨u,o1⟩:=Own.unfold (kmC S k T t m) o
 exact Own.shut (f:=fun _:Unit=>cmF c k (frH S T t N env) ⟨m,bad⟩) () (o1.picks [0,1,0] rfl)
theorem Own.kmOf {S:KS} {h:H} {r:List HP} {c k N:Nat} {T:SectS} {t env:Int} {X:CX} (o:Own h (cmC c k (frH S T t N env) X::r)):Own h (kmC S k T t X.m::c3C c k env X.bad::r):=by
 obtain ⟨u,o1⟩:=Own.unfold (cmC c k (frH S T t N env) X) o
 have o2:Own h (D4 k (I1 (SH S T t) (U3 S.mem (rgP 0) X.m))::pu (Fit S.mem.length (rgP 0) X.m)::c3C c k env X.bad::r):=o1.picks [0,1,0] rfl
 exact Own.shut (f:=fun _:Unit=>kmF S k T t X.m) () o2
section
variable {S:KS} (B:Base S)
include B
theorem Jb1:SH S (G8 5) 0=S:=by
 have h1:=B.sects;have h2:=B.now
 obtain ⟨a,b,c,d,e,f,g,i⟩:=S
 simp only at h1 h2
 subst h1 h2
 rfl
theorem Iw8 {N:Nat} {T:SectS} {t:Int} (k:TOk N T t):KOk N (SH S T t):=by
 have h:=B.like.ok
 have hs:=k.hN
 refine ⟨h.envs,h.tabs,h.space,h.quota,h.mem,h.regs,?_,h.mayl,?_,?_,k.now⟩
 ·show S.may.length=(S.sects.set 0 T).length;rw [List.length_set];exact h.may
 ·show (S.sects.set 0 T).length≤8;rw [List.length_set];exact h.nsect
 ·intro X hX
  rcases List.mem_or_eq_of_mem_set (show X ∈ S.sects.set 0 T from hX) with h1|rfl
  ·exact (h.sects X h1).up (Nat.zero_le N) (by omega)
  ·exact k.ok
theorem A77 {N:Nat} {T:SectS} {t:Int} (k:TOk N T t) {env:Int} (e:EnvP 0 env):FrOk (frH S T t N env):=by
 have g:=Go9 B.like e
 have:=k.hN
 exact ⟨Iw8 B k,by show N+1<1000000000;omega,g.ne,g.small,g.len,g.env,g.pl,g.dj,g.own,g.brs⟩
theorem Iv9 (T:SectS) (t:Int) (p:List UInt8) {env:Int} (he:0≤env∧env<4):B81 (I1 (SH S T t) p) env 0=true:=by
 unfold B81 A53 G97
 show (decide ((0:Int)≤0∧(0:Int)<((S.sects.set 0 T).length:Int)) && decide (S.envs.getD env.toNat 0 ∈ S.may.getD (0:Int).toNat []))=true
 rw [List.length_set,B.sects,B.may,B.envs]
 obtain rfl|rfl|rfl|rfl:env=0∨env=1∨env=2∨env=3:=by omega
 all_goals decide
theorem Iu3 (T:SectS) (t:Int) (p:List UInt8):Am4 (I1 (SH S T t) p) 0=T:=by
 show (S.sects.set 0 T).getD (0:Int).toNat Iu5=T
 rw [B.sects];rfl
omit B in
theorem I61 (T T':SectS) (t:Int) (p:List UInt8):putSect (I1 (SH S T t) p) 0 T'=I1 (SH S T' t) p:=by
 show ({ S with sects:=(S.sects.set 0 T).set 0 T',now:=t,mem:=p }:KS)={ S with sects:=S.sects.set 0 T',now:=t,mem:=p }
 rw [List.set_set]
theorem I40 (T:SectS) (t:Int) (p:List UInt8) {env:Int} (he:0≤env∧env<4):¬ (env<0∨env≥((I1 (SH S T t) p).envs.length:Int)):=by
 show ¬ (env<0∨env≥(S.envs.length:Int))
 rw [B.envs];simp;omega
theorem I48 (T:SectS) (t:Int) (p:List UInt8) {env:Int} (he:0≤env∧env<4):V9 (I1 (SH S T t) p) env ⟨8,0,0,0,0,0,[]⟩=((0,(B7 T env t).1.1,[]),I1 (SH S (B7 T env t).2 t) p):=by
 unfold V9
 rw [if_neg (I40 B T t p he)]
 unfold kDo
 rw [if_neg (by decide),if_neg (by decide),if_neg (by decide),if_neg (by decide),if_neg (by decide),if_neg (by decide),if_pos rfl]
 unfold Di6
 rw [if_pos (Iv9 B T t p he),Iu3 B]
 show ((0,(B7 T env t).1.1,[]),putSect (I1 (SH S T t) p) 0 (B7 T env t).2)=_
 rw [I61]
theorem I78 (T:SectS) (t:Int) (p:List UInt8) {env:Int} (he:0≤env∧env<4) (st:Int):V9 (I1 (SH S T t) p) env ⟨9,0,st,0,0,0,[]⟩=((if Ab7 T env st then 0 else 8,0,[]),I1 (SH S (G0 T env st) t) p):=by
 unfold V9
 rw [if_neg (I40 B T t p he)]
 unfold kDo
 rw [if_neg (show ¬ (9:Int)=1 by decide),if_neg (show ¬ (9:Int)=2 by decide),if_neg (show ¬ (9:Int)=3 by decide),if_neg (show ¬ (9:Int)=4 by decide),if_neg (show ¬ (9:Int)=6 by decide),if_neg (show ¬ (9:Int)=7 by decide),if_neg (show ¬ (9:Int)=8 by decide),if_pos rfl]
 unfold Dg2
 rw [if_pos (Iv9 B T t p he),Iu3 B,I61]
theorem kmN {N:Nat} {T:SectS} {t:Int} (ok:TOk N T t) {m:List (List UInt8)} (f:Fit S.mem.length (rgP 0) m):KOk N (I1 (SH S T t) (U3 S.mem (rgP 0) m)):=by
 have kk:=Iw8 B ok
 exact ⟨kk.envs,kk.tabs,kk.space,kk.quota,by show (U3 S.mem (rgP 0) m).length≤65536;rw [Db9 f,B.like.mem];omega,kk.regs,kk.may,kk.mayl,kk.nsect,kk.sects,kk.now⟩
theorem Ia8 (k N:Nat) (T:SectS) (t:Int) (m:List (List UInt8)) (ok:TOk N T t) {env:Int} (he:0≤env∧env<4) :
  Ct A9 M0 [P0 k,int env,.agg ⟨[int 8,int 0,int 0,int 0,int 0,int 0,.slice none 0 0]⟩] [kmC S k T t m] fun v own=>∃ x d,v=.agg ⟨[int 0,int (B7 T env t).1.1,.slice x 0 d]⟩∧own [kmC S k (B7 T env t).2 t m]:=by
 have hN:=ok.hN
 intro h r o
 obtain ⟨u,o1⟩:=Own.unfold (kmC S k T t m) o
 have f:Fit S.mem.length (rgP 0) m:=(o1.picks [1] rfl).pure
 have J:=Gu7 k (I1 (SH S T t) (U3 S.mem (rgP 0) m)) N (kmN B ok f) (by omega) env 8 0 0 0 0 0 (by decide)
 rw [I48 B T t _ he] at J
 obtain ⟨v,h',e,y,d,hv,o2⟩:=J h _ (o1.picks [0] rfl)
 have o3:Own h' (D4 k (I1 (SH S (B7 T env t).2 t) (U3 S.mem (rgP 0) m))::pu (Fit S.mem.length (rgP 0) m)::r):=Own.weak1 0 o2
 exact ⟨v,h',e,y,d,hv,Own.shut (f:=fun _:Unit=>kmF S k (B7 T env t).2 t m) () o3⟩
theorem Id6 (k N:Nat) (T:SectS) (t:Int) (m:List (List UInt8)) (ok:TOk N T t) {env:Int} (he:0≤env∧env<4) (st:Int) :
  Ct A9 M0 [P0 k,int env,.agg ⟨[int 9,int 0,int st,int 0,int 0,int 0,.slice none 0 0]⟩] [kmC S k T t m] fun v own=>∃ e x d,v=.agg ⟨[int e,int 0,.slice x 0 d]⟩∧own [kmC S k (G0 T env st) t m]:=by
 have hN:=ok.hN
 intro h r o
 obtain ⟨u,o1⟩:=Own.unfold (kmC S k T t m) o
 have f:Fit S.mem.length (rgP 0) m:=(o1.picks [1] rfl).pure
 have J:=Gu7 k (I1 (SH S T t) (U3 S.mem (rgP 0) m)) N (kmN B ok f) (by omega) env 9 0 st 0 0 0 (by decide)
 rw [I78 B T t _ he] at J
 obtain ⟨v,h',e,y,d,hv,o2⟩:=J h _ (o1.picks [0] rfl)
 have o3:Own h' (D4 k (I1 (SH S (G0 T env st) t) (U3 S.mem (rgP 0) m))::pu (Fit S.mem.length (rgP 0) m)::r):=Own.weak1 0 o2
 exact ⟨v,h',e,_,y,d,hv,Own.shut (f:=fun _:Unit=>kmF S k (G0 T env st) t m) () o3⟩
end
theorem If3 (m:Int):B21 .i64 0 m=0:=by
 unfold B21
 simp
 rfl
theorem Io4 (p:ProcS) (hs:p.state=1) (h0:p.pending=0):Ct A9 Bo8 [.agg ⟨E0 p⟩] [] fun v own=>v=.tuple ⟨[int 0,int 0]⟩∧own []:=by
 refine Ct.of H23 rfl fun h r=>Tr.eq (H60 ..) ?_;refine Je ?_
 refine Tr.nw fun b h=>?_
 (refine Jb ?_;unhygienic intros)
 rw [hs,h0,If3]
 refine Tr.bnd (Tr.condF rfl ?_)
 refine Tr.some fun o=>(?_:Tr _ _ _ _) o;refine Je ?_
 refine Tr.condT rfl ?_
 refine Tr.some fun o=>?_
 exact ⟨rfl,o.sub⟩
theorem Hp0 (p:ProcS) (hs:p.state=1) (h0:p.pending=0):Ct A9 Ad6 [.agg ⟨E0 p⟩] [] fun v own=>v=.tuple ⟨[.agg ⟨E0 p⟩,.slice none 0 0,int 0]⟩∧own []:=by
 refine Ct.of Eq2 rfl fun h r=>Tr.eq (G82 ..) ?_;refine Je ?_
 refine Tr.nw fun b h=>?_
 refine Tr.nw fun b1 h=>?_
 refine Tr.jmp Eq2 (Tr.eq (Gh6 ..) ?_);(try simp only[Nr,Nl,wl,Nat.reduceAdd,Nat.reduceMul,Int.reduceToNat])
 (refine Ja ?_;unhygienic intros)
 refine Tr.xCall (Io4 p hs h0) ?_;rintro _ h ⟨rfl,o⟩<;>refine Jh o ?_
 (refine Jd ?_;unhygienic intros)
 refine Tr.some fun o=>?_
 exact ⟨rfl,o.sub⟩
structure HoS where
 c:Nat
 phase:Int
 stamp:Int
 op:Int
 a:Int
 b:Int
 d:List UInt8
abbrev hoL (k:Nat) (j:Int) (y:HoS) (da:Option Addr) (dc:Nat):List Value:=[P0 k,int j,int j,int 0,P0 y.c,int y.phase,int y.stamp,int y.op,int y.a,int y.b,.slice da y.d.length dc]
abbrev dC (da:Option Addr) (dc:Nat) (d:List UInt8):HP:=slC false A7 1 da d.length dc (A0 d)
abbrev hoF (q k:Nat) (j:Int) (y:HoS) (x:Option Addr × Nat):List HP:=[pt q (.cells Au0 false (hoL k j y x.1 x.2)),dC x.1 x.2 y.d,c3C y.c k j []]
def hoC (q k:Nat) (j:Int) (y:HoS):HP:=hex fun x=>sl (hoF q k j y x)
instance {q k:Nat} {j:Int} {y:HoS}:Chk (hoC q k j y) (hoF q k j y):=⟨rfl⟩
theorem D11 {l r:List HP} {h:H} {α:Type} {Q:α→H→Prop} {x:Option (α × H)} (S:KS) (c k N:Nat) (T:SectS) (t env:Int) (m:List (List UInt8)) [tk:Takes [kmC S k T t m,c3C c k env []] l r] (tt:Tr (cmC c k (frH S T t N env) ⟨m,[]⟩::r) h x Q):Tr l h x Q:=fun o=>tt (Own.cmOf (o.perm tk.pm))
theorem Do2 {l r:List HP} {h:H} {α:Type} {Q:α→H→Prop} {x:Option (α × H)} (S:KS) (c k N:Nat) (T:SectS) (t env:Int) (X:CX) (hb:X.bad=[]) [tk:Take (cmC c k (frH S T t N env) X) l r] (tt:Tr (kmC S k T t X.m::c3C c k env []::r) h x Q):Tr l h x Q:=fun o=>tt (by
 have o2:=Own.kmOf (o.perm tk.pm)
 rw [hb] at o2;exact o2)
theorem See.eX {X:CX} {V:VW} (A:See X V):(⟨X.m,[]⟩:CX)=X:=by
 have:=A.c.bad
 obtain ⟨m,b⟩:=X
 subst this;rfl
def B38 (y:HoS) (st:Int):HoS:=if st>0 then { y with phase:=2,stamp:=st } else y
theorem At7 (q k:Nat) (j:Int) (y:HoS):Ct A9 Ah9 [P0 q] [hoC q k j y] fun v own=>v=int y.phase∧own [hoC q k j y]:=by
 refine Ct.of E82 rfl fun h r=>Tr.eq (E79 ..) ?_;refine Je ?_
 refine B4 (hoC q k j y) fun ⟨da,dc⟩=>?_;refine Je ?_
 (refine Ja ?_;unhygienic intros)
 refine B0 (hoC q k j y) (da,dc) ?_;refine Je ?_
 refine Tr.some fun o=>?_
 exact ⟨rfl,o.sub⟩
section
variable {S:KS} (B:Base S)
include B
theorem Il1 (q k N:Nat) {j:Int} (hj:0≤j∧j<4) (y:HoS) (T:SectS) (t:Int) (m:List (List UInt8)) (ok:TOk N T t) (ph:Int) :
  Ct A9 Ai0 [P0 q,int ph] [hoC q k j y,kmC S k T t m] fun v own=>v=.tuple ⟨[]⟩∧own [hoC q k j { y with phase:=ph },kmC S k (G0 T j y.stamp) t m]:=by
 refine Ct.of E75 rfl fun h r=>Tr.eq (E90 ..) ?_;refine Je ?_
 refine B4 (hoC q k j y) fun ⟨da,dc⟩=>?_;refine Je ?_
 (refine Ja ?_;unhygienic intros)
 refine Tr.xCall (Id6 B k N T t m ok hj y.stamp) ?_;rintro _ h ⟨e,x,d,rfl,o⟩<;>refine Jh o ?_
 (refine Ja ?_;unhygienic intros)
 simp only [List.set_cons_zero,List.set_cons_succ]
 refine B0 (hoC q k j { y with phase:=ph }) (da,dc) ?_;refine Je ?_
 refine Tr.some fun o=>?_
 exact ⟨rfl,o.sub⟩
theorem Ip8 (q k N:Nat) {j:Int} (hj:0≤j∧j<4) (y:HoS) (T:SectS) (t:Int) (m:List (List UInt8)) (ok:TOk N T t) :
  Ct A9 Bd4 [P0 q] [hoC q k j y,kmC S k T t m] fun v own=>v=.tuple ⟨[]⟩∧own [hoC q k j (B38 y (B7 T j t).1.1),kmC S k (B7 T j t).2 t m]:=by
 refine Ct.of Gh3 rfl fun h r=>Tr.eq (Gg1 ..) ?_;refine Je ?_
 refine B4 (hoC q k j y) fun ⟨da,dc⟩=>?_;refine Je ?_
 (refine Jc ?_;unhygienic intros)
 refine Tr.nw fun b1 h=>?_
 (refine Jc ?_;unhygienic intros)
 refine Tr.xCall (Ia8 B k N T t m ok hj) ?_;rintro _ h ⟨x,d,rfl,o⟩<;>refine Jh o ?_
 (refine Jc ?_;unhygienic intros)
 unfold B38
 by_cases h1:(B7 T j t).1.1>0
 ·rw [if_pos h1]
  refine Tr.condT (by simpa using h1) ?_
  (refine Jc ?_;unhygienic intros)
  simp only [List.set_cons_zero,List.set_cons_succ]
  refine B0 (hoC q k j { y with phase:=2,stamp:=(B7 T j t).1.1 }) (da,dc) ?_;refine Je ?_
  refine Tr.some fun o=>?_
  exact ⟨rfl,o.sub⟩
 ·rw [if_neg h1]
  refine Tr.condF (by simpa using h1) ?_
  refine B0 (hoC q k j y) (da,dc) ?_;refine Je ?_
  refine Tr.some fun o=>?_
  exact ⟨rfl,o.sub⟩
end
theorem See.same {X:CX} {V:VW} (A:See X V) {i:Int} {p:ProcS} (hp:V.S i=(p,1)) (hi:0≤i∧i<8):(A37 X i p).1=true∧See (A37 X i p).2 V:=by
 have e:=A.s i hi
 have hk:okS p=true∧InS p:=by
  have h1:=Iv0 A.c hi
  have h2:InS (vS X i).1:=Ee4 _
  rw [e,hp] at h1 h2
  rcases h1 with ⟨h3,_⟩|⟨_,h3⟩
  ·cases h3
  ·exact ⟨h3,h2⟩
 have w:=Bp5 A.c hi hk.1 hk.2
 refine ⟨by rw [w.1],?_⟩
 have s:=A.ws hi hk.1 hk.2
 rw [w.1]
 refine s.to (fun j hj=>?_) (fun _ _=>rfl) (fun _ _=>rfl)
 show (if j=i then (p,1) else V.S j)=V.S j
 by_cases h:j=i
 ·subst h;rw [if_pos rfl,hp]
 ·rw [if_neg h]
structure Qt (V:VW) (j:Int) (p:ProcS):Prop where
 v:V.S j=(p,1)
 s:p.state=1
 z:p.pending=0
abbrev Ew8 (s slot op a b:Int) (da:Option Addr) (dn dc:Nat) (n e:Int) (xa:Option Addr) (xn xc:Nat) (back:Bool):List Value:=[int s,int slot,int op,int a,int b,.slice da dn dc,int n,int e,.slice xa xn xc,.bool back,.slice none 0 0,int 0]
section
variable {S:KS} (B:Base S)
include B
theorem Ha1 (q k N:Nat) {j:Int} (hj:0≤j∧j<4) (y:HoS) (T:SectS) (t:Int) (ok:TOk N T t) {X:CX} {V:VW} (A:See X V) {p:ProcS} (hp:Qt V j p)
  (s slot op a b:Int) (da:Option Addr) (dn dc:Nat) (n e:Int) (xa:Option Addr) (xn xc:Nat) (back:Bool) :
  Ct A9 A06 [P0 q,.agg ⟨Ew8 s slot op a b da dn dc n e xa xn xc back⟩] [hoC q k j y,kmC S k T t X.m] fun v own=>∃ X',See X' V∧v=.agg ⟨Ew8 s slot op a b da dn dc n e xa xn xc back⟩∧own [hoC q k j y,kmC S k T t X'.m]:=by
 have fo:=A77 B ok (Ex0 hj)
 have e0:=A.s j (by omega)
 rw [hp.v] at e0
 have sm:=A.same hp.v (by omega)
 refine Ct.of Go5 rfl fun h r=>Tr.eq (Gm0 ..) ?_;refine Je ?_
 refine Tr.nw fun b1 h=>?_
 refine Tr.nw fun b2 h=>?_
 refine B4 (hoC q k j y) fun ⟨ha,hc⟩=>?_;refine Je ?_
 (refine Jc ?_;unhygienic intros)
 refine Tr.nw fun b3 h=>?_
 refine D11 S y.c k N T t j X.m ?_
 rw [A.eX]
 refine Tr.xCall (A32 y.c k (frH S T t N j) X fo j) ?_;rintro _ h ⟨rfl,o⟩<;>refine Jh o ?_
 rw [Ag4 A.c (by omega),e0]
 dsimp only
 (refine Jb ?_;unhygienic intros)
 refine Tr.bnd (Tr.condF rfl ?_)
 (refine Jb ?_;unhygienic intros)
 refine Tr.some fun o=>(?_:Tr _ _ _ _) o;refine Je ?_
 rw [hp.s]
 refine Tr.condF rfl ?_
 (refine Jc ?_;unhygienic intros)
 refine Tr.xCall (Hp0 p hp.s hp.z) ?_;rintro _ h ⟨rfl,o⟩<;>refine Jh o ?_
 (refine Jc ?_;unhygienic intros)
 refine Tr.xCall (D80 y.c k (frH S T t N j) X fo j p) ?_;rintro _ h ⟨rfl,o⟩<;>refine Jh o ?_
 (refine Jc ?_;unhygienic intros)
 refine Tr.condF rfl ?_
 (refine Jc ?_;unhygienic intros)
 refine Do2 S y.c k N T t j (A37 X j p).2 sm.2.c.bad ?_
 refine B0 (hoC q k j y) (ha,hc) ?_;refine Je ?_
 refine Tr.some fun o=>?_
 exact ⟨_,sm.2,rfl,o.sub⟩
end
def FiJ (c k:Nat) (F:Fr) (X:CX) (V':VW) (i op a b:Int) (d:List UInt8) (n e:Int) (bs:List UInt8) (blk:Bool):Prop:=∀ (da:Option Addr) (dc:Nat),
 Ct A9 Bf3 [P0 c,int i,.agg ⟨[int op,int a,int b,.slice da d.length dc]⟩] [cmC c k F X,dC da dc d] fun v own=>∃ x cap X',See X' V'∧v=.tuple ⟨[.agg ⟨[int n,int e,.slice x bs.length cap,.bool blk]⟩,.bool true]⟩∧own [cmC c k F X',dC x cap bs,dC da dc d]
def DoJ (c k:Nat) (F:Fr) (X:CX) (V':VW) (i op a b:Int) (d:List UInt8) (n e:Int) (bs:List UInt8) (blk:Bool):Prop:=∀ (da:Option Addr) (dc:Nat),
 Ct A9 Dq7 [P0 c,int i,.agg ⟨[int op,int a,int b,.slice da d.length dc]⟩] [cmC c k F X,dC da dc d] fun v own=>∃ x cap X',See X' V'∧v=.agg ⟨[int n,int e,.slice x bs.length cap,.bool blk]⟩∧own [cmC c k F X',dC x cap bs,dC da dc d]
theorem B08 {l:List HP} {h:H} {α:Type} {Q:α→H→Prop} {z:Option (α × H)} (t:Tr (dC none 0 []::l) h z Q):Tr l h z Q:=G4 false A7 1 (by omega) t
section
variable {c k:Nat} {F:Fr} {X:CX} {V V':VW} (ok:FrOk F) (A:See X V) {i:Int} (hi:0≤i∧i<8) {n e:Int}
include ok A hi
theorem H66 (hR:E74 V i=(U9 n e false,V')) (a b:Int) (d:List UInt8):FiJ c k F X V' i 9 a b d n e [] false:=by
 intro da dc
 have P:=A.pipe hi
 rw [hR] at P
 refine Ct.of Bv3 rfl fun h r=>Tr.eq (Bv6 ..) ?_;refine Je ?_
 refine Tr.nw fun b1 h=>?_
 refine Tr.nw fun b2 h=>?_
 (refine Jd ?_;unhygienic intros)
 refine Tr.xCall (Io6 c k F X ok A.c i hi) ?_;rintro _ h ⟨rfl,o⟩<;>refine Jh o ?_
 rw [P.1]
 (refine Jc ?_;unhygienic intros)
 refine B08 ?_
 refine Tr.some fun o=>?_
 exact ⟨none,0,_,P.2,rfl,o.sub⟩
theorem Gi6 {op a b:Int} {d bs:List UInt8} {blk:Bool} (J:FiJ c k F X V' i op a b d n e bs blk):DoJ c k F X V' i op a b d n e bs blk:=by
 intro da dc
 have J:=J da dc
 refine Ct.of Ek8 rfl fun h r=>Tr.eq (Em5 ..) ?_;refine Je ?_
 refine Tr.nw fun b1 h=>?_
 refine Tr.nw fun b2 h=>?_
 refine Tr.xCall (Bg5 c k F X ok) ?_;rintro _ h ⟨rfl,o⟩<;>refine Jh o ?_
 rw [Al5 A.c]
 (refine Jc ?_;unhygienic intros)
 refine Tr.xCall (J) ?_;rintro _ h ⟨x,cap,X',A',rfl,o⟩<;>refine Jh o ?_
 (refine Jc ?_;unhygienic intros)
 refine Tr.nw fun b3 h=>?_
 (refine Jc ?_;unhygienic intros)
 refine Tr.some fun o=>?_
 exact ⟨x,cap,X',A',rfl,o.sub⟩
theorem H25 (fd m:Int) (d:List UInt8) {bs:List UInt8} {blk:Bool} (h3:(ofW V i fd).1.2.kind≠3) (hp:(Aa0 V i fd m).2=0→0≤(Aa0 V i fd m).1.pipe∧(Aa0 V i fd m).1.pipe<6)
  (hR:Bw0 V i fd m=(⟨bs,e,blk⟩,V')):FiJ c k F X V' i 10 fd m d bs.length e bs blk:=by
 intro da dc
 have P:=It7 c k F X ok V A i fd m hi h3 hp
 rw [hR] at P
 refine Ct.of Bv3 rfl fun h r=>Tr.eq (Bv6 ..) ?_;refine Je ?_
 refine Tr.nw fun b1 h=>?_
 refine Tr.nw fun b2 h=>?_
 (refine Jd ?_;unhygienic intros)
 refine Tr.xCall (P) ?_;rintro _ h ⟨x,cap,X',A',_,rfl,o⟩<;>refine Jh o ?_
 (refine Jc ?_;unhygienic intros)
 refine Tr.some fun o=>?_
 exact ⟨x,cap,X',A',rfl,o.sub⟩
theorem Ht8 (fd b:Int) (d:List UInt8) (hl:d.length≤B1) (hp:(ofW V i fd).2=0→(ofW V i fd).1.2.kind=2→0≤(ofW V i fd).1.2.pipe∧(ofW V i fd).1.2.pipe<6∧(V.P (ofW V i fd).1.2.pipe).1.readers≠0)
  (hR:Dv2 V i fd d=(⟨n,e,false⟩,V')):FiJ c k F X V' i 11 fd b d n e [] false:=by
 intro da dc
 have P:=Ib7 c k F X ok V A i fd hi hp (dC da dc d) da false dc d hl
 rw [hR] at P
 refine Ct.of Bv3 rfl fun h r=>Tr.eq (Bv6 ..) ?_;refine Je ?_
 refine Tr.nw fun b1 h=>?_
 refine Tr.nw fun b2 h=>?_
 (refine Jd ?_;unhygienic intros)
 refine Tr.xCall (P) ?_;rintro _ h ⟨X',A',_,rfl,o⟩<;>refine Jh o ?_
 (refine Jc ?_;unhygienic intros)
 refine B08 ?_
 refine Tr.some fun o=>?_
 exact ⟨none,0,X',A',rfl,o.sub⟩
omit ok A hi in
theorem Hi8 {op:Int} (ho:op<9∨16<op) (a b:Int) (da:Option Addr) (dn dc:Nat):Ct A9 Bf3 [P0 c,int i,.agg ⟨[int op,int a,int b,.slice da dn dc]⟩] [] fun v own=>v=.tuple ⟨[.agg ⟨U9 0 0 false⟩,.bool false]⟩∧own []:=by
 refine Ct.of Bv3 rfl fun h r=>Tr.eq (Bv6 ..) ?_;refine Je ?_
 refine Tr.nw fun b1 h=>?_
 refine Tr.nw fun b2 h=>?_
 (refine Jc ?_;unhygienic intros)
 refine Tr.condF (by simp;omega) ?_
 refine Tr.condF (by simp;omega) ?_
 refine Tr.condF (by simp;omega) ?_
 refine Tr.condF (by simp;omega) ?_
 refine Tr.condF (by simp;omega) ?_
 refine Tr.condF (by simp;omega) ?_
 refine Tr.condF (by simp;omega) ?_
 refine Tr.condF (by simp;omega) ?_
 (refine Jc ?_;unhygienic intros)
 refine Tr.some fun o=>?_
 exact ⟨rfl,o.sub⟩
theorem Iy8 (a b:Int) (d:List UInt8) (hR:E63 V i=(U9 n e false,V')):DoJ c k F X V' i 2 a b d n e [] false:=by
 intro da dc
 have P:=A.fork hi
 rw [hR] at P
 refine Ct.of Ek8 rfl fun h r=>Tr.eq (Em5 ..) ?_;refine Je ?_
 refine Tr.nw fun b1 h=>?_
 refine Tr.nw fun b2 h=>?_
 refine Tr.xCall (Bg5 c k F X ok) ?_;rintro _ h ⟨rfl,o⟩<;>refine Jh o ?_
 rw [Al5 A.c]
 (refine Jc ?_;unhygienic intros)
 refine Tr.xCall (Hi8 (by omega) a b da d.length dc) ?_;rintro _ h ⟨rfl,o⟩<;>refine Jh o ?_
 (refine Jc ?_;unhygienic intros)
 refine Tr.nw fun b3 h=>?_
 (refine Jd ?_;unhygienic intros)
 refine Tr.xCall (I27 c k F X ok A.c i hi) ?_;rintro _ h ⟨rfl,o⟩<;>refine Jh o ?_
 rw [P.1]
 (refine Jc ?_;unhygienic intros)
 refine B08 ?_
 refine Tr.some fun o=>?_
 exact ⟨none,0,_,P.2,rfl,o.sub⟩
theorem Ih2 {p:ProcS} (hq:Qt V i p) (a b:Int) (d:List UInt8):DoJ c k F X V i 1 a b d i 0 [] false:=by
 intro da dc
 have es:=A.self hi
 have e2:Ao0 V i=(p,0):=by unfold Ao0;rw [hq.v,if_pos ⟨rfl,hq.s⟩]
 rw [e2] at es
 refine Ct.of Ek8 rfl fun h r=>Tr.eq (Em5 ..) ?_;refine Je ?_
 refine Tr.nw fun b1 h=>?_
 refine Tr.nw fun b2 h=>?_
 refine Tr.xCall (Bg5 c k F X ok) ?_;rintro _ h ⟨rfl,o⟩<;>refine Jh o ?_
 rw [Al5 A.c]
 (refine Jc ?_;unhygienic intros)
 refine Tr.xCall (Hi8 (by omega) a b da d.length dc) ?_;rintro _ h ⟨rfl,o⟩<;>refine Jh o ?_
 (refine Jc ?_;unhygienic intros)
 refine Tr.nw fun b3 h=>?_
 (refine Jd ?_;unhygienic intros)
 refine Tr.xCall (?_:Ct A9 Ac5 [P0 c,int i,.agg ⟨[int 1,int a,int b,.slice da d.length dc]⟩] [cmC c k F X] fun v own=>v=.agg ⟨U9 i 0 false⟩∧own [cmC c k F X]) ?_
 ·refine Ct.of Hv6 rfl fun h r=>Tr.eq (Hv5 ..) ?_;refine Je ?_
  refine Tr.nw fun b1 h=>?_
  refine Tr.nw fun b2 h=>?_
  refine Tr.xCall (E53 c k F X ok A.c i hi) ?_;rintro _ h ⟨rfl,o⟩<;>refine Jh o ?_
  rw [es]
  (refine Jc ?_;unhygienic intros)
  refine Tr.nw fun b3 h=>?_
  (refine Jd ?_;unhygienic intros)
  refine Tr.some fun o=>?_
  exact ⟨rfl,o.sub⟩
 rintro _ h ⟨rfl,o⟩
 refine (?_:Tr _ _ _ _) o
 refine Je ?_
 (refine Jc ?_;unhygienic intros)
 refine B08 ?_
 refine Tr.some fun o=>?_
 exact ⟨none,0,X,A,rfl,o.sub⟩
end
theorem Gz0 (k:Nat) (S:KS) (A:KA) (s:Nat) (x:Nat) (hs:s<S.sects.length) (hx:A.ss[s]?=some x):CtP A9 Z2 [P0 k,int s] (Ao3 k S A) (P0 x):=by
 obtain ⟨m,s',q,rg,ea,ec,ma,mc,ms,sa,sc,ss⟩:=A
 simp only at hx
 have hg:(ss.map P0)[s]?=some (.pointer (some ⟨x,0,none⟩)):=by rw [List.getElem?_map,hx];rfl
 refine CtP.of Dw5 rfl fun h r=>Tr.eq (Dz7 ..) ?_;refine Je ?_
 refine Tr.orG (c:=false) (fun hb=>?_) ?_
 ·(refine Ja ?_;unhygienic intros)
  refine Tr.some fun o=>?_
  exact ⟨decide_eq_false (by omega),rfl⟩
 refine Tr.condF rfl ?_
 rw [Int.toNat_natCast]
 exact Jz
theorem Hb6 {l r:List HP} {h:H} {α:Type} {Q:α→H→Prop} {kk:Bool→H→Option (α × H)} {S:KS} (B:Base S) (k q:Nat) (j:Int) (y:HoS) (da:Option Addr) (dc:Nat) (T:SectS) (t:Int) (m:List (List UInt8)) [tk:Takes [kmC S k T t m,pt q (.cells Au0 false (hoL k j y da dc))] l r]
  (tt:Tr (kmC S k T t m::pt q (.cells Au0 false (hoL k j y da dc))::r) h (kk (Ab7 T j y.stamp) h) Q) :
  Tr l h (bnd (A9 Z2 [P0 k,int 0] h) fun r hv=>aPtr r fun x4=>NN.gInt .i64 ⟨q,1,none⟩ hv fun x5=>same (int j) (int x5) (NN.gInt .i64 ⟨q,6,none⟩ hv fun x6=>same (int y.stamp) (int x6) (bnd (A9 Ai1 [.pointer x4,int j,int y.stamp] hv) fun r1 hv3=>aBool r1 fun x7=>kk x7 hv3))) Q:=fun ow=>by
 have ow:=ow.perm tk.pm
 revert ow
 show Tr (kmC S k T t m::pt q (.cells Au0 false (hoL k j y da dc))::r) h _ Q
 have hlt:0<(I1 (SH S T t) (U3 S.mem (rgP 0) m)).sects.length:=by
  show 0<(S.sects.set 0 T).length;rw [List.length_set,B.sects];decide
 have hT:(I1 (SH S T t) (U3 S.mem (rgP 0) m)).sects[0]?=some T:=by
  show (S.sects.set 0 T)[0]?=some T;rw [B.sects];rfl
 refine B4 (kmC S k T t m) fun u=>?_;refine Je ?_
 generalize hK:I1 (SH S T t) (U3 S.mem (rgP 0) m)=K at hlt hT ⊢
 refine B4 (D4 k K) fun A=>?_;refine Je ?_
 refine P3 10 rfl fun hA=>?_
 obtain ⟨x,hx⟩:∃ x,A.ss[0]?=some x:=⟨A.ss[0]'(by omega),List.getElem?_eq_getElem _⟩
 refine Tr.pcall (Gz0 k K A 0 x hlt hx) ?_
 (refine Ja ?_;unhygienic intros)
 refine Ae4 I3 A.ss K.sects hx hT ?_
 refine Tr.pcall (Hc0 x T j y.stamp) ?_
 (refine Ja ?_;unhygienic intros)
 refine Ao8 I3 A.ss K.sects 0 hx hT ?_
 refine B0 (D4 k K) A ?_;refine Je ?_
 subst hK
 refine B0 (kmC S k T t m) () ?_;refine Je ?_
 exact tt
theorem Iq1 (q k:Nat) (j:Int) (y:HoS) (da:Option Addr) (dc:Nat) (n e:Int) (xa:Option Addr) (xn xc:Nat) (blk:Bool) :
  Ct A9 Bd1 [P0 q,.agg ⟨[int n,int e,.slice xa xn xc,.bool blk]⟩] [pt q (.cells Au0 false (hoL k j y da dc))] fun v own=>v=.agg ⟨Ew8 0 j y.op y.a y.b da y.d.length dc n e xa xn xc true⟩∧own [pt q (.cells Au0 false (hoL k j y da dc))]:=by
 refine Ct.of Gf1 rfl fun h r=>Tr.eq (Gh9 ..) ?_;refine Je ?_
 refine Tr.nw fun b1 h=>?_
 refine Tr.nw fun b2 h=>?_
 (refine Jc ?_;unhygienic intros)
 refine Tr.some fun o=>?_
 exact ⟨rfl,o.sub⟩
abbrev G93:Value:=.tuple ⟨[.agg ⟨Ew8 0 0 0 0 0 none 0 0 0 0 none 0 0 false⟩,.bool false]⟩
section
variable {S:KS} (B:Base S) (q k N:Nat) {j:Int} (hj:0≤j∧j<4) (y:HoS) (T:SectS) (t:Int) (ok:TOk N T t) {X:CX} {V:VW} (A:See X V)
include B hj ok A
theorem Ix2 (hh:Ab7 T j y.stamp=false):Ct A9 A96 [P0 q] [hoC q k j y,kmC S k T t X.m] fun v own=>v=G93∧own [hoC q k j { y with phase:=1 },kmC S k T t X.m]:=by
 refine Ct.of Ee5 rfl fun h r=>Tr.eq (Eb7 ..) ?_;refine Je ?_
 refine Tr.nw fun b1 h=>?_
 refine B4 (hoC q k j y) fun ⟨ha,hc⟩=>?_;refine Je ?_
 (refine Jc ?_;unhygienic intros)
 refine Hb6 B k q j y ha hc T t X.m ?_
 rw [hh]
 refine Tr.condT rfl ?_
 (refine Jc ?_;unhygienic intros)
 simp only [List.set_cons_zero,List.set_cons_succ]
 refine B0 (hoC q k j { y with phase:=1 }) (ha,hc) ?_;refine Je ?_
 refine Tr.some fun o=>?_
 exact ⟨rfl,o.sub⟩
theorem I22 (hh:Ab7 T j y.stamp=true) {V':VW} {n e:Int} {bs:List UInt8} (J:DoJ y.c k (frH S T t N j) X V' j y.op y.a y.b y.d n e bs false) (h3:y.op≠3) (okL:TOk N (G0 T j y.stamp) t) {p:ProcS} (hp:Qt V' j p) :
  Ct A9 A96 [P0 q] [hoC q k j y,kmC S k T t X.m] fun v own=>∃ da dc x cap X',See X' V'∧v=.tuple ⟨[.agg ⟨Ew8 0 j y.op y.a y.b da y.d.length dc n e x bs.length cap true⟩,.bool true]⟩ ∧
   own [hoC q k j { y with phase:=0 },kmC S k (G0 T j y.stamp) t X'.m,dC x cap bs]:=by
 refine Ct.of Ee5 rfl fun h r=>Tr.eq (Eb7 ..) ?_;refine Je ?_
 refine Tr.nw fun b1 h=>?_
 refine B4 (hoC q k j y) fun ⟨ha,hc⟩=>?_;refine Je ?_
 (refine Jc ?_;unhygienic intros)
 refine Hb6 B k q j y ha hc T t X.m ?_
 rw [hh]
 refine Tr.condF rfl ?_
 (refine Jc ?_;unhygienic intros)
 refine Tr.nw fun b2 h=>?_
 refine D11 S y.c k N T t j X.m ?_
 rw [A.eX]
 refine Tr.xCall (J ha hc) ?_;rintro _ h ⟨x,cap,X',A',rfl,o⟩<;>refine Jh o ?_
 (refine Jc ?_;unhygienic intros)
 refine Do2 S y.c k N T t j X' A'.c.bad ?_
 refine B0 (hoC q k j y) (ha,hc) ?_;refine Je ?_
 refine Tr.xCall (Il1 B q k N hj y T t X'.m ok 0) ?_;rintro _ h ⟨rfl,o⟩<;>refine Jh o ?_
 (refine Jc ?_;unhygienic intros)
 refine B4 (hoC q k j { y with phase:=0 }) fun ⟨ga,gc⟩=>?_;refine Je ?_
 refine Tr.xCall (Iq1 q k j { y with phase:=0 } ga gc n e x bs.length cap false) ?_;rintro _ h ⟨rfl,o⟩<;>refine Jh o ?_
 (refine Jc ?_;unhygienic intros)
 refine Tr.nw fun b3 h=>?_
 (refine Jc ?_;unhygienic intros)
 refine Tr.condT (by simpa using h3) ?_
 (refine Jc ?_;unhygienic intros)
 refine B0 (hoC q k j { y with phase:=0 }) (ga,gc) ?_;refine Je ?_
 refine Tr.xCall (Ha1 B q k N hj { y with phase:=0 } (G0 T j y.stamp) t okL A' hp 0 j y.op y.a y.b ga y.d.length gc n e x bs.length cap true) ?_;rintro _ h ⟨X2,A2,rfl,o⟩<;>refine Jh o ?_
 (refine Jc ?_;unhygienic intros)
 refine Tr.some fun o=>?_
 exact ⟨ga,gc,x,cap,X2,A2,rfl,o.sub⟩
end
section
variable {S:KS} (B:Base S) (q k N:Nat) {j:Int} (hj:0≤j∧j<4) (y:HoS) (T:SectS) (t:Int) (ok:TOk N T t) {X:CX} {V:VW} (A:See X V) {p:ProcS} (hp:Qt V j p)
include B hj ok A hp
theorem D13 (h0:y.phase=0):Ct A9 E6 [P0 q] [hoC q k j y,kmC S k T t X.m] fun v own=>∃ X',See X' V∧v=G93∧own [hoC q k j y,kmC S k T t X'.m]:=by
 have fo:=A77 B ok (Ex0 hj)
 have e0:=A.s j (by omega)
 rw [hp.v] at e0
 refine Ct.of Bc6 rfl fun h r=>Tr.eq (Bc7 ..) ?_;refine Je ?_
 refine Tr.nw fun b1 h=>?_
 refine B4 (hoC q k j y) fun ⟨ha,hc⟩=>?_;refine Je ?_
 (refine Jc ?_;unhygienic intros)
 refine D11 S y.c k N T t j X.m ?_
 rw [A.eX]
 refine Tr.xCall (Bg5 y.c k (frH S T t N j) X fo) ?_;rintro _ h ⟨rfl,o⟩<;>refine Jh o ?_
 rw [Al5 A.c]
 (refine Jc ?_;unhygienic intros)
 refine Tr.nw fun b2 h=>?_
 refine Tr.xCall (A32 y.c k (frH S T t N j) X fo j) ?_;rintro _ h ⟨rfl,o⟩<;>refine Jh o ?_
 rw [Ag4 A.c (by omega),e0]
 dsimp only
 (refine Jc ?_;unhygienic intros)
 refine Tr.condF rfl ?_
 refine Tr.bnd (Tr.condF rfl ?_)
 (refine Jb ?_;unhygienic intros)
 refine Tr.some fun o=>(?_:Tr _ _ _ _) o;refine Je ?_
 rw [hp.s]
 refine Tr.condF rfl ?_
 (refine Jb ?_;unhygienic intros)
 rw [hp.s]
 refine Tr.condF rfl ?_
 (refine Jb ?_;unhygienic intros)
 rw [h0]
 refine Do2 S y.c k N T t j X A.c.bad ?_
 refine B0 (hoC q k j y) (ha,hc) ?_;refine Je ?_
 refine Tr.condF rfl ?_
 refine Tr.condF rfl ?_
 refine Tr.condF rfl ?_
 refine B4 (hoC q k j y) fun ⟨ga,gc⟩=>?_;refine Je ?_
 (refine Jc ?_;unhygienic intros)
 refine B0 (hoC q k j y) (ga,gc) ?_;refine Je ?_
 refine Tr.xCall (Ha1 B q k N hj y T t ok A hp 0 j 0 0 0 none 0 0 0 0 none 0 0 false) ?_;rintro _ h ⟨X',A',rfl,o⟩<;>refine Jh o ?_
 (refine Jc ?_;unhygienic intros)
 refine Tr.nw fun b3 h=>?_
 (refine Jb ?_;unhygienic intros)
 refine Tr.bnd (Tr.condF rfl ?_)
 (refine Jb ?_;unhygienic intros)
 refine Tr.some fun o=>(?_:Tr _ _ _ _) o;refine Je ?_
 refine Tr.condF rfl ?_
 (refine Jc ?_;unhygienic intros)
 refine Tr.some fun o=>?_
 exact ⟨X',A',rfl,o.sub⟩
theorem Bl9 (h0:y.phase=1):Ct A9 E6 [P0 q] [hoC q k j y,kmC S k T t X.m] fun v own=>v=G93∧own [hoC q k j (B38 y (B7 T j t).1.1),kmC S k (B7 T j t).2 t X.m]:=by
 have fo:=A77 B ok (Ex0 hj)
 have e0:=A.s j (by omega)
 rw [hp.v] at e0
 refine Ct.of Bc6 rfl fun h r=>Tr.eq (Bc7 ..) ?_;refine Je ?_
 refine Tr.nw fun b1 h=>?_
 refine B4 (hoC q k j y) fun ⟨ha,hc⟩=>?_;refine Je ?_
 (refine Jc ?_;unhygienic intros)
 refine D11 S y.c k N T t j X.m ?_
 rw [A.eX]
 refine Tr.xCall (Bg5 y.c k (frH S T t N j) X fo) ?_;rintro _ h ⟨rfl,o⟩<;>refine Jh o ?_
 rw [Al5 A.c]
 (refine Jc ?_;unhygienic intros)
 refine Tr.nw fun b2 h=>?_
 refine Tr.xCall (A32 y.c k (frH S T t N j) X fo j) ?_;rintro _ h ⟨rfl,o⟩<;>refine Jh o ?_
 rw [Ag4 A.c (by omega),e0]
 dsimp only
 (refine Jc ?_;unhygienic intros)
 refine Tr.condF rfl ?_
 refine Tr.bnd (Tr.condF rfl ?_)
 (refine Jb ?_;unhygienic intros)
 refine Tr.some fun o=>(?_:Tr _ _ _ _) o;refine Je ?_
 rw [hp.s]
 refine Tr.condF rfl ?_
 (refine Jb ?_;unhygienic intros)
 rw [hp.s]
 refine Tr.condF rfl ?_
 (refine Jb ?_;unhygienic intros)
 rw [h0]
 refine Do2 S y.c k N T t j X A.c.bad ?_
 refine B0 (hoC q k j y) (ha,hc) ?_;refine Je ?_
 refine Tr.condT rfl ?_
 refine Tr.xCall (Ip8 B q k N hj y T t X.m ok) ?_;rintro _ h ⟨rfl,o⟩<;>refine Jh o ?_
 (refine Jc ?_;unhygienic intros)
 refine Tr.some fun o=>?_
 exact ⟨rfl,o.sub⟩
theorem H65 (h0:y.phase=2) (hh:Ab7 T j y.stamp=false):Ct A9 E6 [P0 q] [hoC q k j y,kmC S k T t X.m] fun v own=>v=G93∧own [hoC q k j { y with phase:=1 },kmC S k T t X.m]:=by
 have fo:=A77 B ok (Ex0 hj)
 have e0:=A.s j (by omega)
 rw [hp.v] at e0
 refine Ct.of Bc6 rfl fun h r=>Tr.eq (Bc7 ..) ?_;refine Je ?_
 refine Tr.nw fun b1 h=>?_
 refine B4 (hoC q k j y) fun ⟨ha,hc⟩=>?_;refine Je ?_
 (refine Jc ?_;unhygienic intros)
 refine D11 S y.c k N T t j X.m ?_
 rw [A.eX]
 refine Tr.xCall (Bg5 y.c k (frH S T t N j) X fo) ?_;rintro _ h ⟨rfl,o⟩<;>refine Jh o ?_
 rw [Al5 A.c]
 (refine Jc ?_;unhygienic intros)
 refine Tr.nw fun b2 h=>?_
 refine Tr.xCall (A32 y.c k (frH S T t N j) X fo j) ?_;rintro _ h ⟨rfl,o⟩<;>refine Jh o ?_
 rw [Ag4 A.c (by omega),e0]
 dsimp only
 (refine Jc ?_;unhygienic intros)
 refine Tr.condF rfl ?_
 refine Tr.bnd (Tr.condF rfl ?_)
 (refine Jb ?_;unhygienic intros)
 refine Tr.some fun o=>(?_:Tr _ _ _ _) o;refine Je ?_
 rw [hp.s]
 refine Tr.condF rfl ?_
 (refine Jb ?_;unhygienic intros)
 rw [hp.s]
 refine Tr.condF rfl ?_
 (refine Jb ?_;unhygienic intros)
 rw [h0]
 refine Do2 S y.c k N T t j X A.c.bad ?_
 refine B0 (hoC q k j y) (ha,hc) ?_;refine Je ?_
 refine Tr.condF rfl ?_
 refine Tr.condT rfl ?_
 refine Tr.xCall (Ix2 B q k N hj y T t ok A hh) ?_;rintro _ h ⟨rfl,o⟩<;>refine Jh o ?_
 (refine Jc ?_;unhygienic intros)
 refine Tr.some fun o=>?_
 exact ⟨rfl,o.sub⟩
theorem Bp6 (h0:y.phase=2) (hh:Ab7 T j y.stamp=true) {V':VW} {n e:Int} {bs:List UInt8} (J:DoJ y.c k (frH S T t N j) X V' j y.op y.a y.b y.d n e bs false) (h3:y.op≠3) (okL:TOk N (G0 T j y.stamp) t) {p':ProcS} (hp':Qt V' j p') :
  Ct A9 E6 [P0 q] [hoC q k j y,kmC S k T t X.m] fun v own=>∃ da dc x cap X',See X' V'∧v=.tuple ⟨[.agg ⟨Ew8 0 j y.op y.a y.b da y.d.length dc n e x bs.length cap true⟩,.bool true]⟩ ∧
   own [hoC q k j { y with phase:=0 },kmC S k (G0 T j y.stamp) t X'.m,dC x cap bs]:=by
 have fo:=A77 B ok (Ex0 hj)
 have e0:=A.s j (by omega)
 rw [hp.v] at e0
 refine Ct.of Bc6 rfl fun h r=>Tr.eq (Bc7 ..) ?_;refine Je ?_
 refine Tr.nw fun b1 h=>?_
 refine B4 (hoC q k j y) fun ⟨ha,hc⟩=>?_;refine Je ?_
 (refine Jc ?_;unhygienic intros)
 refine D11 S y.c k N T t j X.m ?_
 rw [A.eX]
 refine Tr.xCall (Bg5 y.c k (frH S T t N j) X fo) ?_;rintro _ h ⟨rfl,o⟩<;>refine Jh o ?_
 rw [Al5 A.c]
 (refine Jc ?_;unhygienic intros)
 refine Tr.nw fun b2 h=>?_
 refine Tr.xCall (A32 y.c k (frH S T t N j) X fo j) ?_;rintro _ h ⟨rfl,o⟩<;>refine Jh o ?_
 rw [Ag4 A.c (by omega),e0]
 dsimp only
 (refine Jc ?_;unhygienic intros)
 refine Tr.condF rfl ?_
 refine Tr.bnd (Tr.condF rfl ?_)
 (refine Jb ?_;unhygienic intros)
 refine Tr.some fun o=>(?_:Tr _ _ _ _) o;refine Je ?_
 rw [hp.s]
 refine Tr.condF rfl ?_
 (refine Jb ?_;unhygienic intros)
 rw [hp.s]
 refine Tr.condF rfl ?_
 (refine Jb ?_;unhygienic intros)
 rw [h0]
 refine Do2 S y.c k N T t j X A.c.bad ?_
 refine B0 (hoC q k j y) (ha,hc) ?_;refine Je ?_
 refine Tr.condF rfl ?_
 refine Tr.condT rfl ?_
 refine Tr.xCall (I22 B q k N hj y T t ok A hh J h3 okL hp') ?_;rintro _ h ⟨da,dc,x,cap,X',A',rfl,o⟩<;>refine Jh o ?_
 (refine Jc ?_;unhygienic intros)
 refine Tr.some fun o=>?_
 exact ⟨da,dc,x,cap,X',A',rfl,o.sub⟩
theorem D49 (h0:y.phase=0) (op a b:Int) (pb:HP) (da:Option Addr) (ro:Bool) (dc:Nat) (d:List UInt8) (hd:d.length≤B1) [ks:IsSl pb da ro A7 1 d.length dc (A0 d)] :
  Ct A9 S5 [P0 q,.agg ⟨[int op,int a,int b,.slice da d.length dc]⟩] [hoC q k j y,kmC S k T t X.m,pb] fun v own=>v=.bool true∧own [hoC q k j { y with phase:=1,op:=op,a:=a,b:=b,d:=d },kmC S k T t X.m,pb]:=by
 have fo:=A77 B ok (Ex0 hj)
 have e0:=A.s j (by omega)
 rw [hp.v] at e0
 refine Ct.of Dm4 rfl fun h r=>Tr.eq (Dm3 ..) ?_;refine Je ?_
 refine Tr.nw fun b1 h=>?_
 refine B4 (hoC q k j y) fun ⟨ha,hc⟩=>?_;refine Je ?_
 (refine Jc ?_;unhygienic intros)
 refine D11 S y.c k N T t j X.m ?_
 rw [A.eX]
 refine Tr.xCall (Bg5 y.c k (frH S T t N j) X fo) ?_;rintro _ h ⟨rfl,o⟩<;>refine Jh o ?_
 rw [Al5 A.c]
 (refine Jc ?_;unhygienic intros)
 rw [h0]
 refine Tr.condF rfl ?_
 (refine Jc ?_;unhygienic intros)
 refine Tr.nw fun b2 h=>?_
 refine Tr.xCall (A32 y.c k (frH S T t N j) X fo j) ?_;rintro _ h ⟨rfl,o⟩<;>refine Jh o ?_
 rw [Ag4 A.c (by omega),e0]
 dsimp only
 (refine Jc ?_;unhygienic intros)
 refine Tr.condF (by simp [hp.s]) ?_
 (refine Jc ?_;unhygienic intros)
 refine Do2 S y.c k N T t j X A.c.bad ?_
 refine Tr.xCall (G25 pb ro da dc d hd) ?_;rintro _ h ⟨xa,xc,rfl,o⟩<;>refine Jh o ?_
 (refine Jc ?_;unhygienic intros)
 simp only [List.set_cons_zero,List.set_cons_succ]
 (refine Jc ?_;unhygienic intros)
 simp only [List.take_succ_cons,List.take_zero,List.drop_zero]
 (refine Jc ?_;unhygienic intros)
 simp only [List.take_succ_cons,List.take_zero,List.drop_zero,List.drop_succ_cons,List.drop_nil,List.nil_append,List.append_nil,List.cons_append,List.length_cons,List.length_nil,Nat.zero_add,Nat.reduceAdd]
 refine B0 (hoC q k j { y with phase:=1,op:=op,a:=a,b:=b,d:=d }) (xa,xc) ?_;refine Je ?_
 refine Tr.some fun o=>?_
 exact ⟨rfl,o.sub⟩
end
theorem spN {S:KS} (B:Base S) {j:Int} (hj:0≤j∧j<4):Au9 S.tabs j=[256,257,258]:=by
 rw [B.like.tabs]
 obtain rfl|rfl|rfl|rfl:j=0∨j=1∨j=2∨j=3:=by omega
 all_goals kernel_rfl
section
variable {S:KS} (B:Base S) (k N:Nat) {j:Int} (hj:0≤j∧j<4) (T:SectS) (t:Int) (ok:TOk N T t) (m:List (List UInt8))
include B hj ok
theorem Ej5:Ct A9 Ap0 [P0 k,int j] [kmC S k T t m] fun v own=>∃ c,v=.tuple ⟨[P0 c,int 0]⟩∧own [kmC S k T t m,c3C c k j []]:=by
 intro h r o
 obtain ⟨u,o1⟩:=Own.unfold (kmC S k T t m) o
 have f:Fit S.mem.length (rgP 0) m:=(o1.picks [1] rfl).pure
 have J:=Hz7 k (I1 (SH S T t) (U3 S.mem (rgP 0) m)) N (kmN B ok f) j
 rw [show Au9 (I1 (SH S T t) (U3 S.mem (rgP 0) m)).tabs j=[256,257,258] from spN B hj] at J
 obtain ⟨v,h',e,hv⟩:=J h _ (o1.picks [0] rfl)
 rcases hv with ⟨_,c,rfl,o2⟩|⟨hn,_⟩
 ·have o3:Own h' (c3C c k j []::D4 k (I1 (SH S T t) (U3 S.mem (rgP 0) m))::pu (Fit S.mem.length (rgP 0) m)::r):=o2
  exact ⟨_,h',e,c,rfl,Own.shut (f:=fun _:Unit=>kmF S k T t m) () (o3.picks [1,1] rfl)⟩
 ·cases hn
theorem Ix7:Ct A9 A11 [P0 k,int j,int j,int 0] [kmC S k T t m] fun v own=>∃ q c,v=.tuple ⟨[P0 q,int 0]⟩∧own [hoC q k j ⟨c,0,0,0,0,0,[]⟩,kmC S k T t m]:=by
 refine Ct.of En7 rfl fun h r=>Tr.eq (Ek1 ..) ?_;refine Je ?_
 refine Tr.xCall (Ej5 B k N hj T t ok m) ?_;rintro _ h ⟨c,rfl,o⟩<;>refine Jh o ?_
 (refine Jb ?_;unhygienic intros)
 refine Tr.bnd (Tr.condF (decide_eq_false (by omega)) ?_)
 (refine Jb ?_;unhygienic intros)
 refine Tr.some fun o=>(?_:Tr _ _ _ _) o;refine Je ?_
 refine Tr.condF (decide_eq_false (by omega)) ?_
 have hlt:0<(I1 (SH S T t) (U3 S.mem (rgP 0) m)).sects.length:=by
  show 0<(S.sects.set 0 T).length;rw [List.length_set,B.sects];decide
 refine B4 (kmC S k T t m) fun u=>?_;refine Je ?_
 generalize hK:I1 (SH S T t) (U3 S.mem (rgP 0) m)=K at hlt
 refine B4 (D4 k K) fun A=>?_;refine Je ?_
 refine P3 10 rfl fun hA=>?_
 obtain ⟨x,hx⟩:∃ x,A.ss[0]?=some x:=⟨A.ss[0]'(by omega),List.getElem?_eq_getElem _⟩
 refine Tr.pcall (Gz0 k K A 0 x hlt hx) ?_
 (refine Jc ?_;unhygienic intros)
 refine B0 (D4 k K) A ?_;refine Je ?_
 subst hK
 refine B0 (kmC S k T t m) () ?_;refine Je ?_
 refine Tr.nw fun q h=>?_
 refine B08 ?_
 refine B0 (hoC q k j ⟨c,0,0,0,0,0,[]⟩) (none,0) ?_;refine Je ?_
 refine Tr.some fun o=>?_
 exact ⟨q,c,rfl,o.sub⟩
theorem Ii8 (q:Nat) (y:HoS) (h0:y.phase=0):Ct A9 A54 [P0 q] [hoC q k j y,kmC S k T t m] fun v own=>∃ c,v=.tuple ⟨[]⟩∧own [hoC q k j { y with c:=c },kmC S k T t m]:=by
 refine Ct.of E95 rfl fun h r=>Tr.eq (E99 ..) ?_;refine Je ?_
 refine Tr.xCall (?_:Ct A9 Av9 [P0 q] [hoC q k j y] fun v own=>v=.tuple ⟨[]⟩∧own [hoC q k j y]) ?_
 ·refine Ct.of Gh1 rfl fun h r=>Tr.eq (Gk0 ..) ?_;refine Je ?_
  refine B4 (hoC q k j y) fun ⟨ha,hc⟩=>?_;refine Je ?_
  (refine Jb ?_;unhygienic intros)
  rw [h0]
  refine Tr.bnd (Tr.condF rfl ?_)
  (refine Jb ?_;unhygienic intros)
  refine Tr.some fun o=>(?_:Tr _ _ _ _) o;refine Je ?_
  rw [h0]
  refine Tr.condF rfl ?_
  (refine Jc ?_;unhygienic intros)
  simp only [List.set_cons_zero,List.set_cons_succ]
  refine (?_:Tr (pt q (.cells Au0 false (hoL k j { y with phase:=0 } ha hc))::_) _ _ _)
  rw [← h0]
  refine B0 (hoC q k j y) (ha,hc) ?_;refine Je ?_
  refine Tr.some fun o=>?_
  exact ⟨rfl,o.sub⟩
 rintro _ h ⟨rfl,o⟩
 refine (?_:Tr _ _ _ _) o
 refine Je ?_
 refine B4 (hoC q k j y) fun ⟨ha,hc⟩=>?_;refine Je ?_
 (refine Jc ?_;unhygienic intros)
 refine Tr.xCall (Ej5 B k N hj T t ok m) ?_;rintro _ h ⟨c,rfl,o⟩<;>refine Jh o ?_
 (refine Jc ?_;unhygienic intros)
 simp only [List.set_cons_zero,List.set_cons_succ]
 refine B0 (hoC q k j { y with c:=c }) (ha,hc) ?_;refine Je ?_
 refine Tr.some fun o=>?_
 exact ⟨c,rfl,o.sub⟩
end
theorem Hq6 (w:Nat) (K:RKS) (kK:RKOk K) (e:Nat) (he:e<K.B.envs.length):Ct A9 Bj6 [P0 w,int (e:Nat),int (e:Nat),int 0] [rkC w K] fun v own=>∃ b,v=P0 b∧own [rkC w K]:=by
 refine Ct.of Go6 rfl fun h r=>Tr.eq (Gp5 ..) ?_;refine Je ?_
 refine Tr.xCall (Ec8 w K kK e he) ?_
 rintro _ h (⟨_,m,rfl,o⟩|⟨_,rfl,o⟩)
 ·refine (?_:Tr _ _ _ _) o
  refine Je ?_
  (refine Jc ?_;unhygienic intros)
  refine Tr.nw fun b1 h=>?_
  refine Tr.some fun o=>?_
  exact ⟨b1,rfl,o.sub⟩
 ·refine (?_:Tr _ _ _ _) o
  refine Je ?_
  (refine Jc ?_;unhygienic intros)
  refine Tr.nw fun b1 h=>?_
  refine Tr.some fun o=>?_
  exact ⟨b1,rfl,o.sub⟩
theorem De7 {S:KS} (B:Base S) {r:List HP} {h:H} {Q:Value→H→Prop} (k w N:Nat) (K:RKS) (kK:RKOk K) (hB:K.B.envs.length=18) (T:SectS) (t:Int) (ok:TOk N T t) (m:List (List UInt8)) (i:Nat) (hi:i<4) (qs ms:List Nat) (hq:qs.length=i) (hm:ms.length=i) (a1 a2:Option Addr) (c1 c2:Nat)
  (next:∀ q c b a1 c1 a2 c2 h,Tr (kmC S k T t m::rkC w K::slC false P1 1 a1 (qs++[q]).length c1 ((qs++[q]).map P0)::slC false Al3 1 a2 (ms++[b]).length c2 ((ms++[b]).map P0)::hoC q k (i:Nat) ⟨c,0,0,0,0,0,[]⟩::r) h
   (I2 Ac3 Az3 [(4,P0 k),(6,P0 w),(8,.slice a1 (qs++[q]).length c1),(9,.slice a2 (ms++[b]).length c2),(10,int ((i+1:Nat):Int))] h) Q) :
  Tr (kmC S k T t m::rkC w K::slC false P1 1 a1 qs.length c1 (qs.map P0)::slC false Al3 1 a2 ms.length c2 (ms.map P0)::r) h (I2 Ac3 Az3 [(4,P0 k),(6,P0 w),(8,.slice a1 qs.length c1),(9,.slice a2 ms.length c2),(10,int (i:Nat))] h) Q:=by
 have e1:=wN i
 refine Tr.jmp Dv4 (Tr.eq (D15 ..) ?_);(try simp only[Nr,Nl,wl,Nat.reduceAdd,Nat.reduceMul,Int.reduceToNat])
 refine Tr.condT (by simp;omega) ?_
 refine Tr.xCall (Ix7 B k N (j:=(i:Nat)) (by omega) T t ok m) ?_;rintro _ h ⟨q,c,rfl,o⟩<;>refine Jh o ?_
 (refine Jb ?_;unhygienic intros)
 refine Tr.bnd (Tr.condF rfl ?_)
 (refine Jb ?_;unhygienic intros)
 refine Tr.some fun o=>(?_:Tr _ _ _ _) o;refine Je ?_
 refine Tr.condF rfl ?_
 refine Tr.nw fun b1 h=>?_
 (refine Jc ?_;unhygienic intros)
 refine Tr.xApd ?_ (fun x1 y1 h=>?_);exact ⟨by first|rfl|simp,by first|rfl|simp,by simp only [B1];omega⟩;refine Je ?_
 refine Tr.xCall (Hq6 w K kK i (by omega)) ?_;rintro _ h ⟨b,rfl,o⟩<;>refine Jh o ?_
 (refine Jc ?_;unhygienic intros)
 refine Tr.nw fun b2 h=>?_
 (refine Jc ?_;unhygienic intros)
 refine Tr.xApd ?_ (fun x2 y2 h=>?_);exact ⟨by first|rfl|simp,by first|rfl|simp,by simp only [B1];omega⟩;refine Je ?_
 have nx:=next q c b x1 y1 x2 y2 h
 simp only [List.length_append,List.length_cons,List.length_nil,Nat.zero_add,List.map_append,List.map_cons,List.map_nil] at nx
 rw [e1]
 exact Ab2 [4,1,3,3,2] 2 rfl rfl nx
theorem Ef1:TOk 0 (G8 5) 0:=⟨Go2 (by omega),by omega,by omega⟩
theorem G48:Ct A9 Ac3 [] [] fun v own=>∃ k w a ac a2 ac2 q0 q1 q2 q3 c0 c1,v=.tuple ⟨[P0 k,.slice a 4 ac,P0 w,.slice a2 4 ac2]⟩ ∧
  own [kmC S3 k (G8 5) 0 X1.m,slC false P1 1 a 4 ac [P0 q0,P0 q1,P0 q2,P0 q3],hoC q0 k 0 ⟨c0,0,0,0,0,0,[]⟩,hoC q1 k 1 ⟨c1,0,0,0,0,0,[]⟩]:=by
 refine Ct.of Dv4 rfl fun h r=>Tr.eq (He3 ..) ?_;refine Je ?_
 refine Tr.xCall (Iq9) ?_;rintro _ h ⟨a,rfl,o⟩<;>refine Jh o ?_
 (refine Jc ?_;unhygienic intros)
 refine Tr.xCall (Io7 a) ?_
 rintro _ h ⟨k,c,w,m,K,⟨kK,hB⟩,rfl,o⟩
 refine (?_:Tr _ _ _ _) o
 refine Je ?_
 (refine Jb ?_;unhygienic intros)
 have eF:F1=frH S3 (G8 5) 0 0 0:=by
  show (⟨S3,0,0,[256,257,258],rgP 0⟩:Fr)=⟨SH S3 (G8 5) 0,0,0,[256,257,258],rgP 0⟩
  rw [Jb1 O6]
 rw [eF]
 refine Do2 S3 c k 0 (G8 5) 0 0 X1 rfl ?_
 refine G4 false P1 1 (by omega) ?_
 refine G4 false Al3 1 (by omega) ?_
 have hl:K.B.envs.length=18:=by rw [hB,Bm5];rfl
 refine Ab2 [2,3,1,0] 2 rfl rfl ?_
 refine De7 O6 k w 0 K kK hl (G8 5) 0 Ef1 X1.m 0 (by omega) [] [] rfl rfl none none 0 0 fun q0 c0 d0 a1 n1 a2 n2 h=>?_
 refine De7 O6 k w 0 K kK hl (G8 5) 0 Ef1 X1.m 1 (by omega) [q0] [d0] rfl rfl a1 a2 n1 n2 fun q1 c1 d1 a1 n1 a2 n2 h=>?_
 refine De7 O6 k w 0 K kK hl (G8 5) 0 Ef1 X1.m 2 (by omega) [q0,q1] [d0,d1] rfl rfl a1 a2 n1 n2 fun q2 c2 d2 a1 n1 a2 n2 h=>?_
 refine De7 O6 k w 0 K kK hl (G8 5) 0 Ef1 X1.m 3 (by omega) [q0,q1,q2] [d0,d1,d2] rfl rfl a1 a2 n1 n2 fun q3 c3 d3 a1 n1 a2 n2 h=>?_
 refine Tr.jmp Dv4 (Tr.eq (D15 ..) ?_);(try simp only[Nr,Nl,wl,Nat.reduceAdd,Nat.reduceMul,Int.reduceToNat])
 refine Tr.condF rfl ?_
 refine Tr.some fun o=>?_
 have o2:Own h (kmC S3 k (G8 5) 0 X1.m::rkC w K::slC false P1 1 a1 4 n1 [P0 q0,P0 q1,P0 q2,P0 q3]::slC false Al3 1 a2 4 n2 [P0 d0,P0 d1,P0 d2,P0 d3]::hoC q3 k 3 ⟨c3,0,0,0,0,0,[]⟩::hoC q2 k 2 ⟨c2,0,0,0,0,0,[]⟩::hoC q1 k 1 ⟨c1,0,0,0,0,0,[]⟩::hoC q0 k 0 ⟨c0,0,0,0,0,0,[]⟩::r):=o
 exact ⟨k,w,a1,n1,a2,n2,q0,q1,q2,q3,c0,c1,rfl,o2.fin [0,1,5,4] 4 rfl rfl⟩
theorem TOk.enter {N:Nat} {T:SectS} {t:Int} (k:TOk N T t) (hN:N+4<1000000000) (j:Int):TOk (N+2) (B7 T j t).2 t:=⟨Ii3 k.ok k.hN j t k.now,by omega,k.now⟩
theorem TOk.leave {N:Nat} {T:SectS} {t:Int} (k:TOk N T t) (j st:Int):TOk N (G0 T j st) t:=⟨Ii1 k.ok j st,k.hN,k.now⟩
section
variable {S:KS} (B:Base S) (hb k N:Nat) (a:Option Addr) (ac:Nat) (Q:List Nat) (i q:Nat) (hi:i<4) (hq:Q[i]?=some q) (y:HoS) (T:SectS) (t:Int) (ok:TOk N T t) (hN:N+4<1000000000) {X:CX} {V V':VW} (A:See X V) {p p':ProcS} (hp:Qt V i p)
include B hi hq ok hN A hp
theorem Ih9 (h0:y.phase=0) (op sa sb:Int) (h3:op≠3) (st:Int) (hst:(B7 T i t).1.1=st) (h1:st>0) (hh:Ab7 (B7 T i t).2 i st=true) (hp':Qt V' i p') {n e:Int} {bs:List UInt8}
  (hJ:∀ (F:Fr) (X:CX),FrOk F→See X V→DoJ y.c k F X V' (i:Nat) op sa sb [] n e bs false) :
  Ct A9 E1 [int (i:Nat),.agg ⟨[int op,int sa,int sb,.slice none 0 0]⟩,P0 hb] [pt hb (.cells An8 false [.slice a 4 ac]),slC false P1 1 a 4 ac (Q.map P0),hoC q k (i:Nat) y,kmC S k T t X.m] fun v own=>∃ da dc x cap X',See X' V'∧v=.tuple ⟨[.agg ⟨Ew8 0 (i:Nat) op sa sb da 0 dc n e x bs.length cap true⟩,.bool true]⟩ ∧
   own [pt hb (.cells An8 false [.slice a 4 ac]),slC false P1 1 a 4 ac (Q.map P0),hoC q k (i:Nat) ⟨y.c,0,st,op,sa,sb,[]⟩,kmC S k (G0 (B7 T i t).2 i st) t X'.m,dC x cap bs]:=by
 have hlt:=(List.getElem?_eq_some_iff.1 hq).1
 have hg:(Q.map P0)[((i:Nat):Int).toNat]?=some (.pointer (some ⟨q,0,none⟩)):=by rw [Int.toNat_natCast,List.getElem?_map,hq];rfl
 have ok2:=ok.enter hN i
 have hj:0≤(i:Int)∧(i:Int)<4:=by omega
 refine Ct.of Eo9 rfl fun h r=>Tr.eq (Em7 ..) ?_;refine Je ?_
 refine Tr.nw fun b1 h=>?_
 refine Tr.nw fun b2 h=>?_
 (refine Ja ?_;unhygienic intros;repeat(refine Gw ?_;rintro px rfl;refine Ja ?_;unhygienic intros))
 refine B08 ?_
 refine Tr.xCall (D49 B q k N hj y T t ok A hp h0 op sa sb (dC none 0 []) none false 0 [] (by simp [B1])) ?_;rintro _ h ⟨rfl,o⟩<;>refine Jh o ?_
 (refine Jc ?_;unhygienic intros)
 refine Tr.xCall (Bl9 B q k N hj { y with phase:=1,op:=op,a:=sa,b:=sb,d:=[] } T t ok A hp rfl) ?_;rintro _ h ⟨rfl,o⟩<;>refine Jh o ?_
 rw [hst,show B38 { y with phase:=1,op:=op,a:=sa,b:=sb,d:=[] } st=⟨y.c,2,st,op,sa,sb,[]⟩ from if_pos h1]
 (refine Jc ?_;unhygienic intros)
 refine Tr.xCall (Bp6 B q k (N+2) hj ⟨y.c,2,st,op,sa,sb,[]⟩ (B7 T i t).2 t ok2 A hp rfl hh (hJ _ _ (A77 B ok2 (Ex0 hj)) A) h3 (ok2.leave i st) hp') ?_;rintro _ h ⟨da,dc,x,cap,X',A',rfl,o⟩<;>refine Jh o ?_
 (refine Jc ?_;unhygienic intros)
 refine Tr.some fun o=>?_
 exact ⟨da,dc,x,cap,X',A',rfl,o.sub⟩
end
theorem H09 (k:Nat) (S:KS) (A:KA) (s:Int) (hs:S.sects.length≤s):CtP A9 Z2 [P0 k,int s] (Ao3 k S A) (.pointer none):=by
 obtain ⟨m,s',q,rg,ea,ec,ma,mc,ms,sa,sc,ss⟩:=A
 refine CtP.of Dw5 rfl fun h r=>Tr.eq (Dz7 ..) ?_;refine Je ?_
 refine Tr.orG (c:=true) (fun hb=>?_) ?_
 ·(refine Ja ?_;unhygienic intros)
  refine Tr.some fun o=>?_
  exact ⟨decide_eq_true (by omega),rfl⟩
 rw [Bool.or_true]
 refine Tr.condT rfl ?_
 exact Jz
section
variable {S:KS} (B:Base S) (k N:Nat) (T:SectS) (t:Int) (ok:TOk N T t)
include B ok
theorem Ic4 (m:List (List UInt8)):Ct A9 A11 [P0 k,int 0,int 9,int 0] [kmC S k T t m] fun v own=>v=.tuple ⟨[.pointer none,int 1]⟩∧own [kmC S k T t m]:=by
 refine Ct.of En7 rfl fun h r=>Tr.eq (Ek1 ..) ?_;refine Je ?_
 refine Tr.xCall (Ej5 B k N (j:=0) (by omega) T t ok m) ?_;rintro _ h ⟨c,rfl,o⟩<;>refine Jh o ?_
 (refine Jb ?_;unhygienic intros)
 refine Tr.condF rfl ?_
 refine Tr.bnd (Tr.condF rfl ?_)
 refine Tr.some fun o=>(?_:Tr _ _ _ _) o;refine Je ?_
 refine Tr.condT rfl ?_
 refine Tr.some fun o=>?_
 exact ⟨rfl,o.sub⟩
theorem Id7 (m:List (List UInt8)):Ct A9 A11 [P0 k,int 0,int 0,int 9] [kmC S k T t m] fun v own=>v=.tuple ⟨[.pointer none,int 8]⟩∧own [kmC S k T t m]:=by
 refine Ct.of En7 rfl fun h r=>Tr.eq (Ek1 ..) ?_;refine Je ?_
 refine Tr.xCall (Ej5 B k N (j:=0) (by omega) T t ok m) ?_;rintro _ h ⟨c,rfl,o⟩<;>refine Jh o ?_
 (refine Jb ?_;unhygienic intros)
 refine Tr.condF rfl ?_
 refine Tr.bnd (Tr.condF rfl ?_)
 refine Tr.some fun o=>(?_:Tr _ _ _ _) o;refine Je ?_
 refine Tr.condF rfl ?_
 have hlt:(((I1 (SH S T t) (U3 S.mem (rgP 0) m)).sects.length:Nat):Int)≤9:=by
  show (((S.sects.set 0 T).length:Nat):Int)≤9;rw [List.length_set,B.sects];decide
 refine B4 (kmC S k T t m) fun u=>?_;refine Je ?_
 generalize hK:I1 (SH S T t) (U3 S.mem (rgP 0) m)=K at hlt
 refine B4 (D4 k K) fun A=>?_;refine Je ?_
 refine Tr.pcall (H09 k K A 9 hlt) ?_
 (refine Jc ?_;unhygienic intros)
 refine B0 (D4 k K) A ?_;refine Je ?_
 subst hK
 refine B0 (kmC S k T t m) () ?_;refine Je ?_
 refine Tr.some fun o=>?_
 exact ⟨rfl,o.sub⟩
theorem H46 (q:Nat) {j:Int} (hj:0≤j∧j<4) (y:HoS) (h0:y.phase=0) {X:CX} {V:VW} (A:See X V) (hv:V.S j=(.zero,0)) (op a b:Int) (da:Option Addr) (dn dc:Nat) :
  Ct A9 S5 [P0 q,.agg ⟨[int op,int a,int b,.slice da dn dc]⟩] [hoC q k j y,kmC S k T t X.m] fun v own=>v=.bool false∧own [hoC q k j y,kmC S k T t X.m]:=by
 have fo:=A77 B ok (Ex0 hj)
 have e0:=A.s j (by omega)
 rw [hv] at e0
 refine Ct.of Dm4 rfl fun h r=>Tr.eq (Dm3 ..) ?_;refine Je ?_
 refine Tr.nw fun b1 h=>?_
 refine B4 (hoC q k j y) fun ⟨ha,hc⟩=>?_;refine Je ?_
 (refine Jc ?_;unhygienic intros)
 refine D11 S y.c k N T t j X.m ?_
 rw [A.eX]
 refine Tr.xCall (Bg5 y.c k (frH S T t N j) X fo) ?_;rintro _ h ⟨rfl,o⟩<;>refine Jh o ?_
 rw [Al5 A.c]
 (refine Jc ?_;unhygienic intros)
 rw [h0]
 refine Tr.condF rfl ?_
 (refine Jc ?_;unhygienic intros)
 refine Tr.nw fun b2 h=>?_
 refine Tr.xCall (A32 y.c k (frH S T t N j) X fo j) ?_;rintro _ h ⟨rfl,o⟩<;>refine Jh o ?_
 rw [Ag4 A.c (by omega),e0]
 dsimp only
 (refine Jc ?_;unhygienic intros)
 refine Tr.condT (by rfl) ?_
 refine Do2 S y.c k N T t j X A.c.bad ?_
 refine B0 (hoC q k j y) (ha,hc) ?_;refine Je ?_
 refine Tr.some fun o=>?_
 exact ⟨rfl,o.sub⟩
end
theorem qt1:Qt V1 0 p0:=⟨rfl,by rfl,by rfl⟩
theorem Eg6:Ct A9 Bf7 [] [] fun v own=>v=.bool true∧own []:=by
 have st:(B7 (G8 5) 0 0).1.1=1:=by kernel_rfl
 have hh:Ab7 (B7 (G8 5) 0 0).2 0 1=true:=by kernel_rfl
 have ok2:=Ef1.enter (by omega) 0
 refine Ct.of G65 rfl fun h r=>Tr.eq (G85 ..) ?_;refine Je ?_
 refine Tr.xCall G48 ?_
 rintro _ h ⟨k,w,a,ac,a2,ac2,q0,q1,q2,q3,c0,c1,rfl,o⟩
 refine (?_:Tr _ _ _ _) o
 refine Je ?_
 (refine Ja ?_;unhygienic intros;repeat(refine Gw ?_;rintro px rfl;refine Ja ?_;unhygienic intros))
 refine B08 ?_
 refine Tr.xCall (D49 O6 q0 k 0 (j:=0) (by omega) ⟨c0,0,0,0,0,0,[]⟩ (G8 5) 0 Ef1 Hc1 qt1 rfl 1 0 0 (dC none 0 []) none false 0 [] (by simp [B1])) ?_;rintro _ h ⟨rfl,o⟩<;>refine Jh o ?_
 (refine Jc ?_;unhygienic intros)
 refine Tr.xCall (Bl9 O6 q0 k 0 (j:=0) (by omega) ⟨c0,1,0,1,0,0,[]⟩ (G8 5) 0 Ef1 Hc1 qt1 rfl) ?_;rintro _ h ⟨rfl,o⟩<;>refine Jh o ?_
 rw [st,show B38 ⟨c0,1,0,1,0,0,[]⟩ 1=⟨c0,2,1,1,0,0,[]⟩ from rfl]
 (refine Jc ?_;unhygienic intros)
 refine Tr.nw fun b1 h=>?_
 (refine Jc ?_;unhygienic intros)
 refine Tr.xCall (Bp6 O6 q0 k 2 (j:=0) (by omega) ⟨c0,2,1,1,0,0,[]⟩ (B7 (G8 5) 0 0).2 0 ok2 Hc1 qt1 rfl hh (Ih2 (A77 O6 ok2 Em4) Hc1 (by omega) qt1 0 0 []) (show (1:Int)≠3 by decide) (ok2.leave 0 1) qt1) ?_;rintro _ h ⟨da,dc,x,cap,X',A',rfl,o⟩<;>refine Jh o ?_
 (refine Jc ?_;unhygienic intros)
 refine Tr.nw fun b2 h=>?_
 (refine Jc ?_;unhygienic intros)
 refine Tr.xCall (Ic4 O6 k 2 (G0 (B7 (G8 5) 0 0).2 0 1) 0 (ok2.leave 0 1) X'.m) ?_;rintro _ h ⟨rfl,o⟩<;>refine Jh o ?_
 (refine Jc ?_;unhygienic intros)
 refine Tr.xCall (Id7 O6 k 2 (G0 (B7 (G8 5) 0 0).2 0 1) 0 (ok2.leave 0 1) X'.m) ?_;rintro _ h ⟨rfl,o⟩<;>refine Jh o ?_
 (refine Jb ?_;unhygienic intros)
 refine Tr.bnd (Tr.condT rfl ?_)
 refine Tr.some fun o=>(?_:Tr _ _ _ _) o;refine Je ?_
 refine Tr.bnd (Tr.condT rfl ?_)
 (refine Jb ?_;unhygienic intros)
 refine Tr.some fun o=>(?_:Tr _ _ _ _) o;refine Je ?_
 refine Tr.bnd (Tr.condT rfl ?_)
 (refine Jb ?_;unhygienic intros)
 refine Tr.some fun o=>(?_:Tr _ _ _ _) o;refine Je ?_
 refine Tr.bnd (Tr.condT rfl ?_)
 (refine Jb ?_;unhygienic intros)
 refine Tr.some fun o=>(?_:Tr _ _ _ _) o;refine Je ?_
 refine Tr.bnd (Tr.condT rfl ?_)
 (refine Jb ?_;unhygienic intros)
 refine Tr.xCall (At7 q0 k 0 ⟨c0,0,1,1,0,0,[]⟩) ?_;rintro _ h ⟨rfl,o⟩<;>refine Jh o ?_
 (refine Jb ?_;unhygienic intros)
 refine Tr.some fun o=>(?_:Tr _ _ _ _) o;refine Je ?_
 refine Tr.bnd (Tr.condT rfl ?_)
 refine Tr.some fun o=>(?_:Tr _ _ _ _) o;refine Je ?_
 refine Tr.bnd (Tr.condT rfl ?_)
 refine Tr.some fun o=>(?_:Tr _ _ _ _) o;refine Je ?_
 refine Tr.bnd (Tr.condT rfl ?_)
 (refine Jb ?_;unhygienic intros)
 refine Tr.xCall (H46 O6 k 2 (G0 (B7 (G8 5) 0 0).2 0 1) 0 (ok2.leave 0 1) q1 (j:=1) (by omega) ⟨c1,0,0,0,0,0,[]⟩ rfl A' rfl 1 0 0 none 0 0) ?_;rintro _ h ⟨rfl,o⟩<;>refine Jh o ?_
 (refine Jb ?_;unhygienic intros)
 refine Tr.some fun o=>(?_:Tr _ _ _ _) o;refine Je ?_
 refine Tr.some fun o=>?_
 exact ⟨rfl,o.sub⟩
def VP:VW:=(E74 V1 0).2
def VQ:VW:=(E63 VP 0).2
theorem Ja2:E74 V1 0=(U9 33 0 false,VP):=Prod.ext (by kernel_rfl) rfl
theorem I99:E63 VP 0=(U9 1 0 false,VQ):=Prod.ext (by kernel_rfl) rfl
def pA:ProcS:=(VP.S 0).1
def pB:ProcS:=(VQ.S 0).1
def pC:ProcS:=(VQ.S 1).1
theorem I50:Qt VP 0 pA:=⟨Prod.ext rfl (by kernel_rfl),by kernel_rfl,by kernel_rfl⟩
theorem Bs4:Qt VQ 0 pB:=⟨Prod.ext rfl (by kernel_rfl),by kernel_rfl,by kernel_rfl⟩
theorem By6:Qt VQ 1 pC:=⟨Prod.ext rfl (by kernel_rfl),by kernel_rfl,by kernel_rfl⟩
theorem Jb2:VQ.P 0=(Be1,1):=by kernel_rfl
theorem I76:ofW VQ 1 2=((2,⟨2,0,2,0⟩),0):=by kernel_rfl
theorem In5:ofW VQ 0 1=((1,⟨1,0,2,0⟩),0):=by kernel_rfl
abbrev T0:SectS:=G8 5
def T1:SectS:=G0 (B7 T0 0 0).2 0 1
def T2:SectS:=G0 (B7 T1 0 0).2 0 2
def T3:SectS:=(B7 T2 1 0).2
theorem s1:(B7 T0 0 0).1.1=1∧Ab7 (B7 T0 0 0).2 0 1=true:=⟨by kernel_rfl,by kernel_rfl⟩
theorem s2:(B7 T1 0 0).1.1=2∧Ab7 (B7 T1 0 0).2 0 2=true:=⟨by kernel_rfl,by kernel_rfl⟩
theorem s3:(B7 T2 1 0).1.1=3∧Ab7 T3 1 3=true:=⟨by kernel_rfl,by kernel_rfl⟩
theorem tk1:TOk 2 T1 0:=(Ef1.enter (by omega) 0).leave 0 1
theorem tk2:TOk 4 T2 0:=(tk1.enter (by omega) 0).leave 0 2
theorem tk3:TOk 6 T3 0:=tk2.enter (by omega) 1
theorem Iu0 {t:Int} (ht:0≤t∧t≤7):TOk 6 T3 t:=⟨tk3.ok,by omega,by omega⟩
structure Late (t:Int):Prop where
 a:(B7 T3 0 t).1.1=4
 b:Ab7 (B7 T3 0 t).2 0 4=true
 c:Ab7 (G0 (B7 T3 0 t).2 0 4) 1 3=false
 d:(B7 (G0 (B7 T3 0 t).2 0 4) 1 t).1.1=5
 e:Ab7 (B7 (G0 (B7 T3 0 t).2 0 4) 1 t).2 1 5=true
 f:(B7 (G0 (B7 (G0 (B7 T3 0 t).2 0 4) 1 t).2 1 5) 0 t).1.1=6
 g:Ab7 (B7 (G0 (B7 (G0 (B7 T3 0 t).2 0 4) 1 t).2 1 5) 0 t).2 0 6=true
structure Soon (t:Int):Prop where
 a:(B7 T3 0 t).1.1=0
 b:(B7 (B7 T3 0 t).2 0 t).1.1=0
 c:Ab7 (B7 (B7 T3 0 t).2 0 t).2 1 3=true
 d:(B7 (G0 (B7 (B7 T3 0 t).2 0 t).2 1 3) 0 t).1.1=4
 e:Ab7 (B7 (G0 (B7 (B7 T3 0 t).2 0 t).2 1 3) 0 t).2 0 4=true
 f:(B7 (G0 (B7 (G0 (B7 (B7 T3 0 t).2 0 t).2 1 3) 0 t).2 0 4) 0 t).1.1=5
 g:Ab7 (B7 (G0 (B7 (G0 (B7 (B7 T3 0 t).2 0 t).2 1 3) 0 t).2 0 4) 0 t).2 0 5=true
theorem Iy1 {t:Int} (h:5≤t∧t≤7):Late t:=by
 obtain rfl|rfl|rfl:t=5∨t=6∨t=7:=by omega
 all_goals exact ⟨by kernel_rfl,by kernel_rfl,by kernel_rfl,by kernel_rfl,by kernel_rfl,by kernel_rfl,by kernel_rfl⟩
theorem Iz6 {t:Int} (h:0≤t∧t<5):Soon t:=by
 obtain rfl|rfl|rfl|rfl|rfl:t=0∨t=1∨t=2∨t=3∨t=4:=by omega
 all_goals exact ⟨by kernel_rfl,by kernel_rfl,by kernel_rfl,by kernel_rfl,by kernel_rfl,by kernel_rfl,by kernel_rfl⟩
theorem I83 (S:KS) (T:SectS) (p:List UInt8) {n:Int} (hn:0≤n∧n≤7):Gp6 (I1 (SH S T 0) p) n=I1 (SH S T n) p:=by
 have e:∀ x:Int,x=n→({ I1 (SH S T 0) p with now:=x }:KS)=I1 (SH S T n) p:=fun x hx=>by subst hx;rfl
 unfold Gp6
 refine e _ ?_
 show min ((0:Int)+min (max n 0) 1000) 1073741824=n
 omega
theorem In9 {S:KS} (B:Base S) (k N:Nat) (T:SectS) (m:List (List UInt8)) (ok:TOk N T 0) {n:Int} (hn:0≤n∧n≤7):Ct A9 Aw8 [P0 k,int n] [kmC S k T 0 m] fun v own=>v=int n∧own [kmC S k T n m]:=by
 intro h r o
 obtain ⟨u,o1⟩:=Own.unfold (kmC S k T 0 m) o
 have f:Fit S.mem.length (rgP 0) m:=(o1.picks [1] rfl).pure
 have J:=Im9 k (I1 (SH S T 0) (U3 S.mem (rgP 0) m)) N (kmN B ok f) n
 rw [I83 S T _ hn] at J
 obtain ⟨v,h',e,hv,o2⟩:=J h _ (o1.picks [0] rfl)
 exact ⟨v,h',e,hv,Own.shut (f:=fun _:Unit=>kmF S k T n m) () o2⟩
section
variable (k hb q0 q1 q2 q3:Nat) (a:Option Addr) (ac:Nat) (ba:Option Addr) (bc:Nat) (l:List UInt8) (hl:l.length≤8) (h0:l.length≠0)
abbrev dT:HP:=slC true A7 1 ba l.length bc (A0 l)
abbrev hpG (i:Nat) (done:Int):List (Nat × Value):=[(1,.slice ba l.length bc),(6,P0 hb),(9,.func (.func E1) ⟨[]⟩ ⟨[P0 hb]⟩),(17,int done),(18,int (i:Nat))]
abbrev hpF (Y0 Y1:HoS) (T:SectS) (t:Int) (X:CX):List HP:=[pt hb (.cells An8 false [.slice a 4 ac]),slC false P1 1 a 4 ac [P0 q0,P0 q1,P0 q2,P0 q3],hoC q0 k 0 Y0,hoC q1 k 1 Y1,kmC S3 k T t X.m,dT ba bc l]
include hl h0
theorem Ie4 (N:Nat) (hN:N+4<1000000000) (Y0 Y1:HoS) (T:SectS) (t:Int) (ok:TOk N T t) (hy:Y0.phase=0) (st:Int) (hs:st>0) (hst:(B7 T 0 t).1.1=st) (hh:Ab7 (B7 T 0 t).2 0 st=true) {q:PipeS} (q1':okP q=true) (q2':q.count=l.length) (q3':N9 q=l) (q5:q.writers≠0) (X:CX) (A:See X (wP VQ 0 q)) :
  CtJ I2 B9 S8 (hpG hb ba bc l 4 1) (hpF k hb q0 q1 q2 q3 a ac ba bc l Y0 Y1 T t X) fun v own=>v=.bool true:=by
 obtain ⟨q',w2,p1,p2,p3,p4⟩:=I53 (j:=0) q1' q5 In5
 rw [q3',decide_eq_false (by omega)] at w2
 have hJ:∀ (F:Fr) (X:CX),FrOk F→See X (wP VQ 0 q)→DoJ Y0.c k F X (wP VQ 0 q') (0:Nat) 10 1 32 [] l.length 0 l false:=fun F X ok A=>Gi6 ok A (by omega) (H25 ok A (by omega) 1 32 [] (I71 In5) (I98 32 In5 (by omega)) w2)
 have D:=Ih9 (V':=wP VQ 0 q') (p:=pB) (p':=pB) O6 hb k N a ac [q0,q1,q2,q3] 0 q0 (by omega) rfl Y0 T t ok hN A ⟨Bs4.v,Bs4.s,Bs4.z⟩ hy 10 1 32 (by decide) st hst hs hh ⟨Bs4.v,Bs4.s,Bs4.z⟩ hJ
 rw [show ((0:Nat):Int)=0 from rfl,show [q0,q1,q2,q3].map P0=[P0 q0,P0 q1,P0 q2,P0 q3] from rfl] at D
 refine CtJ.of D6 fun h r=>Tr.eq (L8 ..) ?_;refine Je ?_
 refine Tr.condF rfl ?_
 (refine Ja ?_;unhygienic intros;repeat(refine Gw ?_;rintro px rfl;refine Ja ?_;unhygienic intros))
 refine Tr.xCall (At7 q0 k 0 Y0) ?_;rintro _ h ⟨rfl,o⟩<;>refine Jh o ?_
 rw [hy]
 (refine Jc ?_;unhygienic intros)
 refine Tr.xCall (D) ?_;rintro _ h ⟨da,dc,x,cap,X',A',rfl,o⟩<;>refine Jh o ?_
 (refine Jc ?_;unhygienic intros)
 refine Tr.nw fun b1 h=>?_
 (refine Jb ?_;unhygienic intros)
 refine Tr.bnd (Tr.condT rfl ?_)
 refine Tr.some fun o=>(?_:Tr _ _ _ _) o;refine Je ?_
 refine Tr.bnd (Tr.condT rfl ?_)
 (refine Jb ?_;unhygienic intros)
 refine Tr.some fun o=>(?_:Tr _ _ _ _) o;refine Je ?_
 refine Tr.bnd (Tr.condT (by rw [beq_self_eq_true]) ?_)
 refine Tr.xCall (Eg6) ?_;rintro _ h ⟨rfl,o⟩<;>refine Jh o ?_
 (refine Jb ?_;unhygienic intros)
 refine Tr.some fun o=>(?_:Tr _ _ _ _) o;refine Je ?_
 refine Tr.some fun o=>?_
 rfl
end
theorem Iv7 {V:VW} {p:ProcS} (hq:Qt V 0 p) (c k:Nat):∀ (F:Fr) (X:CX),FrOk F→See X V→DoJ c k F X V 0 1 0 0 [] 0 0 [] false:=fun F X ok A=>Ih2 ok A (by omega) hq 0 0 []
section
variable (k hb q0 q1 q2 q3:Nat) (a:Option Addr) (ac:Nat) (ba:Option Addr) (bc:Nat) (l:List UInt8) (hl:l.length≤8) (h0:l.length≠0)
include hl h0
theorem Iu7:∃ q,okP q=true∧q.count=l.length∧N9 q=l∧q.writers≠0∧∀ (c k:Nat) (F:Fr) (X:CX),FrOk F→See X VQ→DoJ c k F X (wP VQ 0 q) 1 11 2 0 l l.length 0 [] false:=by
 obtain ⟨q,w1,g1,g2,g3,g4,g5⟩:=I19 (q:=Be1) rfl I76 l (by show (0:Int)+l.length≤32;omega)
 have e:=I23 Jb2
 have ww:=I95 (q:=Be1) I76 (by omega) (by decide)
 rw [e] at w1 ww
 have hb0:N9 Be1=[]:=rfl
 rw [hb0,List.nil_append] at g3
 refine ⟨q,g1,g2.trans (by show (0:Int)+l.length=l.length;omega),g3,by rw [g5];decide,fun c k F X ok A=>?_⟩
 exact Gi6 ok A (by omega) (Ht8 ok A (by omega) 2 0 l (by simp only [B1];omega) ww w1)
theorem Ix3 {t:Int} (ht:0≤t∧t≤7) (L:Late t) (c0 c1:Nat) (X:CX) (A:See X VQ) :
  CtJ I2 B9 S8 (hpG hb ba bc l 0 0) (hpF k hb q0 q1 q2 q3 a ac ba bc l ⟨c0,0,4,1,0,0,[]⟩ ⟨c1,2,3,11,2,0,l⟩ (G0 (B7 T3 0 t).2 0 4) t X) fun v own=>v=.bool true:=by
 obtain ⟨q,g1,g2,g3,g5,hJ⟩:=Iu7 l hl h0
 have k5:=((Iu0 ht).enter (by omega) 0).leave 0 4
 have k6:=k5.enter (by omega) 1
 have k7:=k6.leave 1 5
 have fo:=A77 O6 k6 Iq2
 have FIN:=fun (Y1:HoS) (X:CX) (A:See X (wP VQ 0 q))=>Ie4 k hb q0 q1 q2 q3 a ac ba bc l hl h0 10 (by omega) ⟨c0,0,4,1,0,0,[]⟩ Y1 _ t k7 rfl 6 (by omega) L.f L.g g1 g2 g3 g5 X A
 refine CtJ.of D6 fun h r=>Tr.eq (L8 ..) ?_;refine Je ?_
 refine Tr.condT rfl ?_
 (refine Ja ?_;unhygienic intros;repeat(refine Gw ?_;rintro px rfl;refine Ja ?_;unhygienic intros))
 refine Tr.xCall (H65 O6 q1 k 8 (j:=1) (by omega) ⟨c1,2,3,11,2,0,l⟩ (G0 (B7 T3 0 t).2 0 4) t k5 A By6 rfl L.c) ?_;rintro _ h ⟨rfl,o⟩<;>refine Jh o ?_
 (refine Jc ?_;unhygienic intros)
 refine Tr.nw fun b1 h=>?_
 (refine Jc ?_;unhygienic intros)
 refine Tr.jmp D6 (Tr.eq (O2 ..) ?_);(try simp only[Nr,Nl,wl,Nat.reduceAdd,Nat.reduceMul,Int.reduceToNat])
 (refine Jc ?_;unhygienic intros)
 refine Tr.xCall (At7 q0 k 0 ⟨c0,0,4,1,0,0,[]⟩) ?_;rintro _ h ⟨rfl,o⟩<;>refine Jh o ?_
 (refine Jc ?_;unhygienic intros)
 refine Tr.condF rfl ?_
 rw [wN 0]
 refine Tr.jmp D6 (Tr.eq (L8 ..) ?_);(try simp only[Nr,Nl,wl,Nat.reduceAdd,Nat.reduceMul,Int.reduceToNat])
 refine Tr.condT rfl ?_
 (refine Jc ?_;unhygienic intros)
 refine Tr.xCall (Bl9 O6 q1 k 8 (j:=1) (by omega) ⟨c1,1,3,11,2,0,l⟩ (G0 (B7 T3 0 t).2 0 4) t k5 A By6 rfl) ?_;rintro _ h ⟨rfl,o⟩<;>refine Jh o ?_
 rw [L.d,show B38 ⟨c1,1,3,11,2,0,l⟩ 5=⟨c1,2,5,11,2,0,l⟩ from rfl]
 (refine Jc ?_;unhygienic intros)
 refine Tr.nw fun b2 h=>?_
 (refine Jc ?_;unhygienic intros)
 refine Tr.jmp D6 (Tr.eq (O2 ..) ?_);(try simp only[Nr,Nl,wl,Nat.reduceAdd,Nat.reduceMul,Int.reduceToNat])
 (refine Jc ?_;unhygienic intros)
 refine Tr.xCall (At7 q0 k 0 ⟨c0,0,4,1,0,0,[]⟩) ?_;rintro _ h ⟨rfl,o⟩<;>refine Jh o ?_
 (refine Jc ?_;unhygienic intros)
 refine Tr.condF rfl ?_
 rw [wN (0+1)]
 refine Tr.jmp D6 (Tr.eq (L8 ..) ?_);(try simp only[Nr,Nl,wl,Nat.reduceAdd,Nat.reduceMul,Int.reduceToNat])
 refine Tr.condT rfl ?_
 (refine Jc ?_;unhygienic intros)
 refine Tr.xCall (Bp6 O6 q1 k 10 (j:=1) (by omega) ⟨c1,2,5,11,2,0,l⟩ _ t k6 A By6 rfl L.e (hJ _ _ _ _ fo A) (show (11:Int)≠3 by decide) k7 (p':=pC) ⟨By6.v,By6.s,By6.z⟩) ?_;rintro _ h ⟨da,dc,x,cap,X2,A2,rfl,o⟩<;>refine Jh o ?_
 (refine Jc ?_;unhygienic intros)
 refine Tr.nw fun b3 h=>?_
 (refine Jc ?_;unhygienic intros)
 refine Tr.condT rfl ?_
 (refine Jb ?_;unhygienic intros)
 refine Tr.bnd (Tr.condF rfl ?_)
 (refine Jb ?_;unhygienic intros)
 refine Tr.some fun o=>(?_:Tr _ _ _ _) o;refine Je ?_
 refine Tr.condF (by simp) ?_
 refine Tr.jmp D6 (Tr.eq (O2 ..) ?_);(try simp only[Nr,Nl,wl,Nat.reduceAdd,Nat.reduceMul,Int.reduceToNat])
 (refine Jc ?_;unhygienic intros)
 refine Tr.xCall (At7 q0 k 0 ⟨c0,0,4,1,0,0,[]⟩) ?_;rintro _ h ⟨rfl,o⟩<;>refine Jh o ?_
 (refine Jc ?_;unhygienic intros)
 refine Tr.condF rfl ?_
 rw [wN 2]
 refine Tr.jmp D6 (Tr.eq (L8 ..) ?_);(try simp only[Nr,Nl,wl,Nat.reduceAdd,Nat.reduceMul,Int.reduceToNat])
 refine Tr.condT rfl ?_
 (refine Jc ?_;unhygienic intros)
 refine Tr.xCall (D13 O6 q1 k 10 (j:=1) (by omega) ⟨c1,0,5,11,2,0,l⟩ _ t k7 A2 (p:=pC) ⟨By6.v,By6.s,By6.z⟩ rfl) ?_;rintro _ h ⟨X3,A3,rfl,o⟩<;>refine Jh o ?_
 (refine Jc ?_;unhygienic intros)
 refine Tr.nw fun b4 h=>?_
 (refine Jc ?_;unhygienic intros)
 refine Tr.jmp D6 (Tr.eq (O2 ..) ?_);(try simp only[Nr,Nl,wl,Nat.reduceAdd,Nat.reduceMul,Int.reduceToNat])
 (refine Jc ?_;unhygienic intros)
 refine Tr.xCall (At7 q0 k 0 ⟨c0,0,4,1,0,0,[]⟩) ?_;rintro _ h ⟨rfl,o⟩<;>refine Jh o ?_
 (refine Jc ?_;unhygienic intros)
 refine Tr.condF rfl ?_
 rw [wN (2+1)]
 refine Tr.xRun (FIN ⟨c1,0,5,11,2,0,l⟩ X3 A3) ?_;rintro _ h rfl
 rfl
theorem Ix4 {t:Int} (ht:0≤t∧t≤7) (L:Soon t) (c0 c1:Nat) (X:CX) (A:See X VQ) :
  CtJ I2 B9 S8 (hpG hb ba bc l 0 0) (hpF k hb q0 q1 q2 q3 a ac ba bc l ⟨c0,1,2,1,0,0,[]⟩ ⟨c1,2,3,11,2,0,l⟩ (B7 (B7 T3 0 t).2 0 t).2 t X) fun v own=>v=.bool true:=by
 obtain ⟨q,g1,g2,g3,g5,hJ⟩:=Iu7 l hl h0
 have k5:=((Iu0 ht).enter (by omega) 0).enter (by omega) 0
 have k6:=k5.leave 1 3
 have k7:=k6.enter (by omega) 0
 have k8:=k7.leave 0 4
 have fo:=A77 O6 k5 Iq2
 have fo7:=A77 O6 k7 Em4
 have qB:Qt (wP VQ 0 q) 0 pB:=⟨Bs4.v,Bs4.s,Bs4.z⟩
 have qC:Qt (wP VQ 0 q) 1 pC:=⟨By6.v,By6.s,By6.z⟩
 have FIN:=fun (Y1:HoS) (X:CX) (A:See X (wP VQ 0 q))=>Ie4 k hb q0 q1 q2 q3 a ac ba bc l hl h0 12 (by omega) ⟨c0,0,4,1,0,0,[]⟩ Y1 _ t k8 rfl 5 (by omega) L.f L.g g1 g2 g3 g5 X A
 refine CtJ.of D6 fun h r=>Tr.eq (L8 ..) ?_;refine Je ?_
 refine Tr.condT rfl ?_
 (refine Ja ?_;unhygienic intros;repeat(refine Gw ?_;rintro px rfl;refine Ja ?_;unhygienic intros))
 refine Tr.xCall (Bp6 O6 q1 k 10 (j:=1) (by omega) ⟨c1,2,3,11,2,0,l⟩ _ t k5 A By6 rfl L.c (hJ _ _ _ _ fo A) (show (11:Int)≠3 by decide) k6 qC) ?_;rintro _ h ⟨da,dc,x,cap,X2,A2,rfl,o⟩<;>refine Jh o ?_
 (refine Jc ?_;unhygienic intros)
 refine Tr.nw fun b1 h=>?_
 (refine Jc ?_;unhygienic intros)
 refine Tr.condT rfl ?_
 (refine Jb ?_;unhygienic intros)
 refine Tr.bnd (Tr.condF rfl ?_)
 (refine Jb ?_;unhygienic intros)
 refine Tr.some fun o=>(?_:Tr _ _ _ _) o;refine Je ?_
 refine Tr.condF (by simp) ?_
 refine Tr.jmp D6 (Tr.eq (O2 ..) ?_);(try simp only[Nr,Nl,wl,Nat.reduceAdd,Nat.reduceMul,Int.reduceToNat])
 (refine Jc ?_;unhygienic intros)
 refine Tr.xCall (At7 q0 k 0 ⟨c0,1,2,1,0,0,[]⟩) ?_;rintro _ h ⟨rfl,o⟩<;>refine Jh o ?_
 (refine Jc ?_;unhygienic intros)
 refine Tr.condT rfl ?_
 (refine Jc ?_;unhygienic intros)
 refine Tr.xCall (Bl9 O6 q0 k 10 (j:=0) (by omega) ⟨c0,1,2,1,0,0,[]⟩ _ t k6 A2 qB rfl) ?_;rintro _ h ⟨rfl,o⟩<;>refine Jh o ?_
 rw [L.d,show B38 ⟨c0,1,2,1,0,0,[]⟩ 4=⟨c0,2,4,1,0,0,[]⟩ from rfl]
 (refine Jc ?_;unhygienic intros)
 rw [wN 0]
 refine Tr.jmp D6 (Tr.eq (L8 ..) ?_);(try simp only[Nr,Nl,wl,Nat.reduceAdd,Nat.reduceMul,Int.reduceToNat])
 refine Tr.condT rfl ?_
 (refine Jc ?_;unhygienic intros)
 refine Tr.xCall (D13 O6 q1 k 12 (j:=1) (by omega) ⟨c1,0,3,11,2,0,l⟩ _ t k7 A2 qC rfl) ?_;rintro _ h ⟨X3,A3,rfl,o⟩<;>refine Jh o ?_
 (refine Jc ?_;unhygienic intros)
 refine Tr.nw fun b2 h=>?_
 (refine Jc ?_;unhygienic intros)
 refine Tr.jmp D6 (Tr.eq (O2 ..) ?_);(try simp only[Nr,Nl,wl,Nat.reduceAdd,Nat.reduceMul,Int.reduceToNat])
 (refine Jc ?_;unhygienic intros)
 refine Tr.xCall (At7 q0 k 0 ⟨c0,2,4,1,0,0,[]⟩) ?_;rintro _ h ⟨rfl,o⟩<;>refine Jh o ?_
 (refine Jc ?_;unhygienic intros)
 refine Tr.condT rfl ?_
 (refine Jc ?_;unhygienic intros)
 refine Tr.xCall (Bp6 O6 q0 k 12 (j:=0) (by omega) ⟨c0,2,4,1,0,0,[]⟩ _ t k7 A3 qB rfl L.e (Iv7 qB _ _ _ _ fo7 A3) (show (1:Int)≠3 by decide) k8 qB) ?_;rintro _ h ⟨da2,dc2,x2,cap2,X4,A4,rfl,o⟩<;>refine Jh o ?_
 (refine Jc ?_;unhygienic intros)
 rw [wN (0+1)]
 refine Tr.jmp D6 (Tr.eq (L8 ..) ?_);(try simp only[Nr,Nl,wl,Nat.reduceAdd,Nat.reduceMul,Int.reduceToNat])
 refine Tr.condT rfl ?_
 (refine Jc ?_;unhygienic intros)
 refine Tr.xCall (D13 O6 q1 k 12 (j:=1) (by omega) ⟨c1,0,3,11,2,0,l⟩ _ t k8 A4 qC rfl) ?_;rintro _ h ⟨X5,A5,rfl,o⟩<;>refine Jh o ?_
 (refine Jc ?_;unhygienic intros)
 refine Tr.nw fun b3 h=>?_
 (refine Jc ?_;unhygienic intros)
 refine Tr.jmp D6 (Tr.eq (O2 ..) ?_);(try simp only[Nr,Nl,wl,Nat.reduceAdd,Nat.reduceMul,Int.reduceToNat])
 (refine Jc ?_;unhygienic intros)
 refine Tr.xCall (At7 q0 k 0 ⟨c0,0,4,1,0,0,[]⟩) ?_;rintro _ h ⟨rfl,o⟩<;>refine Jh o ?_
 (refine Jc ?_;unhygienic intros)
 refine Tr.condF rfl ?_
 rw [wN 2]
 refine Tr.jmp D6 (Tr.eq (L8 ..) ?_);(try simp only[Nr,Nl,wl,Nat.reduceAdd,Nat.reduceMul,Int.reduceToNat])
 refine Tr.condT rfl ?_
 (refine Jc ?_;unhygienic intros)
 refine Tr.xCall (D13 O6 q1 k 12 (j:=1) (by omega) ⟨c1,0,3,11,2,0,l⟩ _ t k8 A5 qC rfl) ?_;rintro _ h ⟨X6,A6,rfl,o⟩<;>refine Jh o ?_
 (refine Jc ?_;unhygienic intros)
 refine Tr.nw fun b4 h=>?_
 (refine Jc ?_;unhygienic intros)
 refine Tr.jmp D6 (Tr.eq (O2 ..) ?_);(try simp only[Nr,Nl,wl,Nat.reduceAdd,Nat.reduceMul,Int.reduceToNat])
 (refine Jc ?_;unhygienic intros)
 refine Tr.xCall (At7 q0 k 0 ⟨c0,0,4,1,0,0,[]⟩) ?_;rintro _ h ⟨rfl,o⟩<;>refine Jh o ?_
 (refine Jc ?_;unhygienic intros)
 refine Tr.condF rfl ?_
 rw [wN (2+1)]
 refine Tr.xRun (FIN ⟨c1,0,3,11,2,0,l⟩ X6 A6) ?_;rintro _ h rfl
 rfl
end
theorem If9 (hb k N q0 q1 q2 q3:Nat) (a:Option Addr) (ac:Nat) (y:HoS) (T:SectS) (t:Int) (ok:TOk N T t) (hN:N+4<1000000000) {X:CX} {V V':VW} (A:See X V) {p p':ProcS} (hp:Qt V 0 p) (h0:y.phase=0) (op sa sb:Int) (h3:op≠3) (st:Int) (h1:st>0) (hs:(B7 T 0 t).1.1=st∧Ab7 (B7 T 0 t).2 0 st=true) (hp':Qt V' 0 p') {n e:Int} {bs:List UInt8}
  (hJ:∀ (F:Fr) (X:CX),FrOk F→See X V→DoJ y.c k F X V' 0 op sa sb [] n e bs false) :
  Ct A9 E1 [int 0,.agg ⟨[int op,int sa,int sb,.slice none 0 0]⟩,P0 hb] [pt hb (.cells An8 false [.slice a 4 ac]),slC false P1 1 a 4 ac [P0 q0,P0 q1,P0 q2,P0 q3],hoC q0 k 0 y,kmC S3 k T t X.m] fun v own=>∃ da dc x cap X',See X' V'∧v=.tuple ⟨[.agg ⟨Ew8 0 0 op sa sb da 0 dc n e x bs.length cap true⟩,.bool true]⟩ ∧
   own [pt hb (.cells An8 false [.slice a 4 ac]),slC false P1 1 a 4 ac [P0 q0,P0 q1,P0 q2,P0 q3],hoC q0 k 0 ⟨y.c,0,st,op,sa,sb,[]⟩,kmC S3 k (G0 (B7 T 0 t).2 0 st) t X'.m,dC x cap bs] :=
 Ih9 O6 hb k N a ac [q0,q1,q2,q3] 0 q0 (by omega) rfl y T t ok hN A hp h0 op sa sb h3 st hs.1 h1 hs.2 hp' hJ
theorem G69 (n:Int) (ba:Option Addr) (bc:Nat) (l:List UInt8):Ct A9 B9 [int n,.slice ba l.length bc] [dT ba bc l] fun v own=>v=.bool true:=by
 refine Ct.of D6 rfl fun h r=>Tr.eq (E32 ..) ?_;refine Je ?_
 refine Tr.xCall G48 ?_
 rintro _ h ⟨k,w,a,ac,a2,ac2,q0,q1,q2,q3,c0,c1,rfl,o⟩
 refine (?_:Tr _ _ _ _) o
 refine Je ?_
 (refine Jc ?_;unhygienic intros)
 refine Tr.nw fun hb h=>?_
 (refine Jb ?_;unhygienic intros)
 simp only [List.set_cons_zero]
 refine Tr.bnd (Tr.condF rfl ?_)
 (refine Jb ?_;unhygienic intros)
 refine Tr.some fun o=>(?_:Tr _ _ _ _) o;refine Je ?_
 by_cases h8:l.length>8
 ·refine Tr.bnd (Tr.condT (by simp;omega) ?_)
  refine Tr.some fun o=>(?_:Tr _ _ _ _) o;refine Je ?_
  refine Tr.condT rfl ?_
  refine Tr.bnd (Tr.condT rfl ?_)
  refine Tr.xCall (Eg6) ?_;rintro _ h ⟨rfl,o⟩<;>refine Jh o ?_
  (refine Jb ?_;unhygienic intros)
  refine Tr.some fun o=>(?_:Tr _ _ _ _) o;refine Je ?_
  refine Tr.some fun o=>?_
  rfl
 refine Tr.bnd (Tr.condF (by simp;omega) ?_)
 (refine Jb ?_;unhygienic intros)
 refine Tr.some fun o=>(?_:Tr _ _ _ _) o;refine Je ?_
 by_cases h0:l.length=0
 ·refine Tr.condT (by simp [h0]) ?_
  refine Tr.bnd (Tr.condT rfl ?_)
  refine Tr.xCall (Eg6) ?_;rintro _ h ⟨rfl,o⟩<;>refine Jh o ?_
  (refine Jb ?_;unhygienic intros)
  refine Tr.some fun o=>(?_:Tr _ _ _ _) o;refine Je ?_
  refine Tr.some fun o=>?_
  rfl
 refine Tr.condF (by rw [beq_eq_false_iff_ne];omega) ?_
 refine Tr.xCall (If9 hb k 0 q0 q1 q2 q3 a ac ⟨c0,0,0,0,0,0,[]⟩ T0 0 Ef1 (by omega) Hc1 qt1 rfl 9 0 0 (by decide) 1 (by omega) s1 I50 (fun F X ok A=>Gi6 ok A (by omega) (H66 ok A (by omega) Ja2 0 0 []))) ?_;rintro _ h ⟨da,dc,x,cap,X1,A1,rfl,o⟩<;>refine Jh o ?_
 rw [show G0 (B7 T0 0 0).2 0 1=T1 from rfl]
 (refine Jc ?_;unhygienic intros)
 refine Tr.nw fun b1 h=>?_
 (refine Jc ?_;unhygienic intros)
 refine Tr.condF rfl ?_
 refine Tr.xCall (If9 hb k 2 q0 q1 q2 q3 a ac ⟨c0,0,1,9,0,0,[]⟩ T1 0 tk1 (by omega) A1 I50 rfl 2 0 0 (by decide) 2 (by omega) s2 Bs4 (fun F X ok A=>Iy8 ok A (by omega) 0 0 [] I99)) ?_;rintro _ h ⟨da2,dc2,x2,cap2,X2,A2,rfl,o⟩<;>refine Jh o ?_
 rw [show G0 (B7 T1 0 0).2 0 2=T2 from rfl]
 (refine Jc ?_;unhygienic intros)
 refine Tr.nw fun b2 h=>?_
 (refine Jc ?_;unhygienic intros)
 refine Tr.condF rfl ?_
 (refine Ja ?_;unhygienic intros;repeat(refine Gw ?_;rintro px rfl;refine Ja ?_;unhygienic intros))
 refine Tr.xCall (Ii8 O6 k 4 (j:=1) (by omega) T2 0 tk2 X2.m q1 ⟨c1,0,0,0,0,0,[]⟩ rfl) ?_;rintro _ h ⟨d1,rfl,o⟩<;>refine Jh o ?_
 (refine Jc ?_;unhygienic intros)
 refine Tr.xCall (D49 O6 q1 k 4 (j:=1) (by omega) ⟨d1,0,0,0,0,0,[]⟩ T2 0 tk2 A2 By6 rfl 11 2 0 (dT ba bc l) ba true bc l (by simp only [B1];omega)) ?_;rintro _ h ⟨rfl,o⟩<;>refine Jh o ?_
 (refine Jc ?_;unhygienic intros)
 refine Tr.xCall (Bl9 O6 q1 k 4 (j:=1) (by omega) ⟨d1,1,0,11,2,0,l⟩ T2 0 tk2 A2 By6 rfl) ?_;rintro _ h ⟨rfl,o⟩<;>refine Jh o ?_
 rw [s3.1,show (B7 T2 1 0).2=T3 from rfl,show B38 ⟨d1,1,0,11,2,0,l⟩ 3=⟨d1,2,3,11,2,0,l⟩ from rfl]
 (refine Jc ?_;unhygienic intros)
 have hn:0≤M8 .i64 n 7∧M8 .i64 n 7≤7:=by rw [I32];omega
 generalize M8 .i64 n 7=t at hn
 refine Tr.xCall (In9 O6 k 6 T3 X2.m tk3 hn) ?_;rintro _ h ⟨rfl,o⟩<;>refine Jh o ?_
 have kt:=Iu0 hn
 (refine Jc ?_;unhygienic intros)
 refine B08 ?_
 refine Tr.xCall (D49 O6 q0 k 6 (j:=0) (by omega) ⟨c0,0,2,2,0,0,[]⟩ T3 t kt A2 Bs4 rfl 1 0 0 (dC none 0 []) none false 0 [] (by simp [B1])) ?_;rintro _ h ⟨rfl,o⟩<;>refine Jh o ?_
 (refine Jc ?_;unhygienic intros)
 refine Tr.xCall (Bl9 O6 q0 k 6 (j:=0) (by omega) ⟨c0,1,2,1,0,0,[]⟩ T3 t kt A2 Bs4 rfl) ?_;rintro _ h ⟨rfl,o⟩<;>refine Jh o ?_
 by_cases h5:5≤t
 ·have L:=Iy1 ⟨h5,hn.2⟩
  have k4:=kt.enter (by omega) 0
  rw [L.a,show B38 ⟨c0,1,2,1,0,0,[]⟩ 4=⟨c0,2,4,1,0,0,[]⟩ from rfl]
  (refine Jc ?_;unhygienic intros)
  refine Tr.xCall (Bp6 O6 q0 k 8 (j:=0) (by omega) ⟨c0,2,4,1,0,0,[]⟩ _ t k4 A2 Bs4 rfl L.b (Iv7 Bs4 _ _ _ _ (A77 O6 k4 Em4) A2) (show (1:Int)≠3 by decide) (k4.leave 0 4) Bs4) ?_;rintro _ h ⟨da3,dc3,x3,cap3,X3,A3,rfl,o⟩<;>refine Jh o ?_
  (refine Jc ?_;unhygienic intros)
  refine Tr.nw fun b3 h=>?_
  (refine Jb ?_;unhygienic intros)
  rw [decide_eq_true (show t≥5 from h5)]
  refine Tr.bnd (Tr.condF rfl ?_)
  refine Tr.bnd (Tr.condT rfl ?_)
  (refine Jb ?_;unhygienic intros)
  refine Tr.bnd (Tr.condF rfl ?_)
  (refine Jb ?_;unhygienic intros)
  refine Tr.some fun o=>(?_:Tr _ _ _ _) o;refine Je ?_
  refine Tr.some fun o=>(?_:Tr _ _ _ _) o;refine Je ?_
  refine Tr.some fun o=>(?_:Tr _ _ _ _) o;refine Je ?_
  refine Tr.condF rfl ?_
  refine Tr.xRun (Ix3 k hb q0 q1 q2 q3 (some px) ac ba bc l (by omega) h0 hn L c0 d1 X3 A3) ?_;rintro _ h rfl
  rfl
 ·have L:=Iz6 (t:=t) ⟨hn.1,by omega⟩
  have k4:=kt.enter (by omega) 0
  rw [L.a,show B38 ⟨c0,1,2,1,0,0,[]⟩ 0=⟨c0,1,2,1,0,0,[]⟩ from rfl]
  (refine Jc ?_;unhygienic intros)
  refine Tr.xCall (Bl9 O6 q0 k 8 (j:=0) (by omega) ⟨c0,1,2,1,0,0,[]⟩ _ t k4 A2 Bs4 rfl) ?_;rintro _ h ⟨rfl,o⟩<;>refine Jh o ?_
  rw [L.b,show B38 ⟨c0,1,2,1,0,0,[]⟩ 0=⟨c0,1,2,1,0,0,[]⟩ from rfl]
  (refine Jc ?_;unhygienic intros)
  refine Tr.nw fun b3 h=>?_
  (refine Jb ?_;unhygienic intros)
  rw [decide_eq_false (show ¬ t≥5 from h5)]
  refine Tr.bnd (Tr.condF rfl ?_)
  refine Tr.bnd (Tr.condF rfl ?_)
  refine Tr.some fun o=>(?_:Tr _ _ _ _) o;refine Je ?_
  refine Tr.some fun o=>(?_:Tr _ _ _ _) o;refine Je ?_
  refine Tr.condF rfl ?_
  refine Tr.xRun (Ix4 k hb q0 q1 q2 q3 (some px) ac ba bc l (by omega) h0 hn L c0 d1 X2 A2) ?_;rintro _ h rfl
  rfl
end Go.EQ

set_option maxRecDepth 100000
namespace Go.EQ
open Go Go.NN Go.Proofs Go.Proofs.YtonlefldpebcpaaGreatDoor Go.ChangeShapes Go.WideShapes Go.RowKit
theorem Iy9:∀ f,(cutsOf f).globs=0:=E35 Iv8 (by kernel_rfl)
theorem Iz7:∀ f,(cutsOf f).globs≤PR.globals.size:=fun f=>by rw [Iy9 f];exact Nat.zero_le _
theorem Iz0:PR.follows .mixedOrders=true:=by kernel_rfl
theorem I42:laidOutB PR=true:=by kernel_rfl
theorem I93:ownKnob PR.godebug=none:=by kernel_rfl
theorem Ja1 {W:World}:Ai9 PR W Dj0 (fun (g:Option Addr × Nat) (l:List UInt8)=>[.slice g.1 l.length g.2]) (fun g l=>slC true A7 1 g.1 l.length g.2 (A0 l)) (fun l=>l.length≤maxLen) :=
 Ai9.bytes A7 G00 I24 (by kernel_rfl)
theorem I13 {H:Type} {enc:TypeId × Value→H} {W:World} {v0 v1:Value} {d0 d1:DataW H} {p0 p1:List MemPlace} {b0:Nat} (k0:Value.okWide PR W .any b0 B5 v0) (k1:Value.okWide PR W .any b0 Dj0 v1)
  (h0:DataW.Trod enc PR W 0 (fun _=>true) true B5 v0 d0 p0) (h1:DataW.Trod enc PR W 0 (fun _=>true) true Dj0 v1 d1 p1) :
  Calls PR B9 #[v0,v1] W fun e W'=>e=.returned (.bool true)∧Below W.heap.size W W':=by
 obtain ⟨x0,_,i0⟩:=Ai9.argInt I86 k0 h0
 obtain ⟨x1,_,i1⟩:=(Ja1 (W:=W)).arg (Ht4 G00 k1) h1
 refine (i0.app i1).run Iz0 Iz7 fun vs ps J hh r o=>?_
 obtain ⟨_,_,_,_,rfl,rfl,⟨rfl,rfl⟩,J⟩:=J
 obtain ⟨⟨a1,c1⟩,rfl,rfl⟩:=J
 simp only [List.nil_append,List.append_nil,List.cons_append] at o ⊢
 obtain ⟨v,h',e,rfl⟩:=G69 x0 a1 c1 x1 hh r o
 exact ⟨h',e⟩
abbrev G91 {H : Type} : List (String × DataW H) := [("math/bits.deBruijn32tab", Rows.laid_math_bits_deBruijn32tab), ("math/bits.deBruijn64tab", Rows.laid_math_bits_deBruijn64tab)]
theorem Iu1 (os:Os) (args:Array Value):laidMetH Tryz.prog G91 ((World.doorLaid Tryz.prog 400 os).forCall (fun _ _=>0) ⟨#[],args,[]⟩).memory :=
 laidMetH_of_parts3 (fuel:=8) (laidMet_of_run' 8 (by kernel_rfl) (by kernel_rfl)) (by kernel_rfl) (by kernel_rfl)
theorem Iu2 (os:Os) (started:os.Started) (H:Type) (enc:TypeId × Value→H) :
  ReturnsInHanded {} Tryz.checked os B9 .any (fun w args=>(Rows.hostPassedSpec.pre enc Tryz.prog Tryz.f5 [] false w args∧laidMetH Tryz.prog G91 w)∧sizedMet enc Tryz.prog Tryz.f5 (OpenSpec.ofChange Rows.hostPassedSpec) false w args)
   (Rows.hostPassedSpec.post enc Tryz.prog Tryz.f5 false true false false):=by
 refine returnsInHanded_of_change_and (C:=Tryz.checked) (X:=fun w _=>laidMetH Tryz.prog G91 w) (fun _ _ _ hh h=>h.of_heap hh) I93 started (by kernel_rfl) Tryz.func5
  (ChangeSpec.witness_shaped (enc:=enc) (C:=Tryz.checked) (os:=os) (X:=fun w _=>laidMetH Tryz.prog G91 w) false (World.doorLaid Tryz.prog 400 os) #[.int .i64 0,.slice none 0 0] 8 rfl (World.shaped_of_RefB (by kernel_rfl) (by kernel_rfl)) (by kernel_rfl) (by kernel_rfl) (by kernel_rfl) (Iu1 os _)) ?_
 intro W base args ds gs before hval hW _ _ hL _
 have hW':=hW
 obtain ⟨p,q,hA,hV,rfl,hfz,hnd⟩:=hW
 rw [Tryz.params5] at hA hval
 obtain ⟨v0,v1,d0,d1,p0,p1,rfl,rfl,rfl,h0,h1⟩:=trodAll_two hA
 refine (I13 (hval 0 _ v0 rfl rfl) (hval 1 _ v1 rfl rfl) h0 h1).mono fun e W' ⟨he,hb⟩=>?_
 subst he
 refine ⟨_,rfl,Il6 I42 ?_ rfl I33 rfl (fun ds gs hl=>?_) hW' hb⟩
 ·rw [Tryz.params5];intro t ht;simp at ht;rcases ht with rfl|rfl<;>skip
  all_goals exact ⟨by kernel_rfl,of_decide_eq_true (by kernel_rfl)⟩
 ·replace hl:ds.length=2:=hl
  cases gs with
  | cons _ _=>exact .inr (by simp)
  | nil=>match ds,hl with|[_,_],_=>exact .inl rfl
theorem I43:Tryz.pinned.checked.prog.funcNamed Rows.hostPassedRow.func=some B9:=by kernel_rfl
theorem B3 {a b:Bool} (x:(a && b)=true):a=true:=by cases a<;>simp_all
theorem A40 {a b:Bool} (x:(a && b)=true):b=true:=by cases a<;>simp_all
theorem Aw9 {a b:Bool} (x:a=true) (y:b=true):(a && b)=true:=by rw [x,y];rfl
theorem Jb0:(Rows.hostPassedRow.wf (OpenSpec.ofChange Rows.hostPassedSpec) && laidOutB Tryz.pinned.checked.prog && mapsRowed Tryz.pinned.checked.prog && Tryz.f5.params.all (Tryz.pinned.checked.prog.readableRec ·) && namedTie Tryz.pinned.checked.prog Rows.hostPassedRow.named Rows.hostPassedSpec.vars && (Rows.hostPassedRow.stops==[]) && (Tryz.pinned.checked.prog.stops==[]) && (Rows.hostPassedRow.knobs==[]) && (Tryz.pinned.checked.prog.stopKnobs==[]))=true:=by kernel_rfl
theorem H49:((Rows.hostPassedRow.inPlace==Tryz.pinned.checked.prog.inPlace B9) && (Rows.hostPassedRow.unfollowed==Tryz.pinned.checked.prog.unfollowed B9) && (Rows.hostPassedRow.recurses==Tryz.pinned.checked.prog.recurses B9) && (Rows.hostPassedRow.named==Tryz.pinned.checked.prog.varsNamed B9))=true:=by kernel_rfl
theorem Be0:((Rows.hostPassedRow.maps==(Tryz.f5.params.toList++Rows.hostPassedSpec.plain.varTypes Tryz.pinned.checked.prog).any (Tryz.pinned.checked.prog.mapsRec ·)) && (Rows.hostPassedRow.ifaces==(Tryz.f5.params.toList++Rows.hostPassedSpec.plain.varTypes Tryz.pinned.checked.prog).any (Tryz.pinned.checked.prog.ifacesRec ·)) && (Rows.hostPassedRow.mapsOut==Tryz.pinned.checked.prog.mapsAmong Tryz.f5.resultTypes.toList) && (Rows.hostPassedRow.loops==(Tryz.f5.params.toList++Rows.hostPassedSpec.plain.varTypes Tryz.pinned.checked.prog).any (Tryz.pinned.checked.prog.loopsFrom ·)) && (Rows.hostPassedRow.wideKeys==(Tryz.f5.params.toList++Rows.hostPassedSpec.plain.varTypes Tryz.pinned.checked.prog++Tryz.f5.resultTypes.toList).any (Tryz.pinned.checked.prog.wideKeysFrom ·)) && Rows.hostPassedSpec.vars.all (Tryz.pinned.checked.prog.varReadable ·) && Tryz.f5.resultTypes.all (fun t=>Tryz.pinned.checked.prog.readableRec t && decide (t<Tryz.pinned.checked.prog.types.size)) && (Rows.hostPassedRow.ifacesOut==Tryz.f5.resultTypes.toList.any (Tryz.pinned.checked.prog.ifacesRec ·)) && (Rows.hostPassedRow.loopsOut==Tryz.f5.resultTypes.toList.any (Tryz.pinned.checked.prog.loopsFrom ·)) && (Rows.hostPassedRow.plainKeys==Tryz.pinned.checked.prog.plainKeys) && Rows.hostPassedRow.shortTexts.isNone && Tryz.pinned.checked.prog.stopsHeard && Tryz.pinned.checked.prog.mayEnter && (Rows.hostPassedRow.lifted==Tryz.pinned.checked.prog.liftsFinal) && (Tryz.pinned.checked.prog.make==some Rows.hostPassedRow.make) && (Rows.hostPassedRow.kinds==(if Rows.hostPassedRow.domain.isEmpty then [] else Tryz.f5.params.toList.map fun t=>match Tryz.pinned.checked.prog.underlying t with|some (.int k)=>some k|_=>none)) && (Rows.hostPassedRow.pinned==Rows.hostPassedRow.pinnedBy) && (Rows.hostPassedRow.veiled==(Tryz.f5.params.toList++Rows.hostPassedSpec.plain.varTypes Tryz.pinned.checked.prog++Tryz.f5.resultTypes.toList).any (Tryz.pinned.checked.prog.veiledRec ·)) && Rows.hostPassedRow.veiledFits Tryz.pinned.checked.prog Tryz.f5.params.toList (Tryz.f5.params.toList++Rows.hostPassedSpec.plain.varTypes Tryz.pinned.checked.prog++Tryz.f5.resultTypes.toList))=true:=by kernel_rfl
theorem Ip3:joinedFacts Tryz.pinned.checked.prog B9 Tryz.f5 Rows.hostPassedSpec Rows.hostPassedRow=true:=by
 unfold joinedFacts
 exact (Aw9 (Aw9 (Aw9 (Aw9 (Aw9 (Aw9 (Aw9 (Aw9 (Aw9 (Aw9 (Aw9 (Aw9 (Aw9 (Aw9 (Aw9 (Aw9 (Aw9 (Aw9 (Aw9 (Aw9 (Aw9 (Aw9 (Aw9 Jb0 (B3 (B3 (B3 H49)))) (A40 (B3 (B3 H49)))) (A40 (B3 H49))) (A40 H49)) (B3 (B3 (B3 (B3 (B3 (B3 (B3 (B3 (B3 (B3 (B3 (B3 (B3 (B3 (B3 (B3 (B3 (B3 Be0))))))))))))))))))) (A40 (B3 (B3 (B3 (B3 (B3 (B3 (B3 (B3 (B3 (B3 (B3 (B3 (B3 (B3 (B3 (B3 (B3 Be0))))))))))))))))))) (A40 (B3 (B3 (B3 (B3 (B3 (B3 (B3 (B3 (B3 (B3 (B3 (B3 (B3 (B3 (B3 (B3 Be0)))))))))))))))))) (A40 (B3 (B3 (B3 (B3 (B3 (B3 (B3 (B3 (B3 (B3 (B3 (B3 (B3 (B3 (B3 Be0))))))))))))))))) (A40 (B3 (B3 (B3 (B3 (B3 (B3 (B3 (B3 (B3 (B3 (B3 (B3 (B3 (B3 Be0)))))))))))))))) (A40 (B3 (B3 (B3 (B3 (B3 (B3 (B3 (B3 (B3 (B3 (B3 (B3 (B3 Be0))))))))))))))) (A40 (B3 (B3 (B3 (B3 (B3 (B3 (B3 (B3 (B3 (B3 (B3 (B3 Be0)))))))))))))) (A40 (B3 (B3 (B3 (B3 (B3 (B3 (B3 (B3 (B3 (B3 (B3 Be0))))))))))))) (A40 (B3 (B3 (B3 (B3 (B3 (B3 (B3 (B3 (B3 (B3 Be0)))))))))))) (A40 (B3 (B3 (B3 (B3 (B3 (B3 (B3 (B3 (B3 Be0))))))))))) (A40 (B3 (B3 (B3 (B3 (B3 (B3 (B3 (B3 Be0)))))))))) (A40 (B3 (B3 (B3 (B3 (B3 (B3 (B3 Be0))))))))) (A40 (B3 (B3 (B3 (B3 (B3 (B3 Be0)))))))) (A40 (B3 (B3 (B3 (B3 (B3 Be0))))))) (A40 (B3 (B3 (B3 (B3 Be0)))))) (A40 (B3 (B3 (B3 Be0))))) (A40 (B3 (B3 Be0)))) (A40 (B3 Be0))) (A40 Be0))
theorem I31:Tryz.f5.isInstance Tryz.pinned.checked.prog Rows.hostPassedRow.origin Rows.hostPassedRow.targs:=of_decide_eq_true (by kernel_rfl)
theorem I38:Tryz.f5.isWrapper Tryz.pinned.checked.prog Rows.hostPassedRow.wrapper Rows.hostPassedRow.mainSum:=by unfold Func.isWrapper;first|(rw [if_pos (by decide +kernel)];kernel_rfl)|(rw [if_neg (by decide +kernel)];exact ⟨rfl,rfl⟩)
theorem I94:Rows.HostPassedSaid :=
 OpenClaim.holds_of_wide B9 Tryz.f5 rfl rfl rfl rfl rfl rfl rfl ⟨rfl,rfl,rfl,rfl,rfl⟩ rfl rfl rfl rfl rfl I43 Tryz.func5 Ip3 I31 I38
  (fun os started H enc _=>Iu2 os started H enc)
theorem HostPassed_holds:Rows.HostPassedCardSaid :=
 Claim7.holds_tied_plain_at .later [] [.data, .data] true (true, "6abb6189450580e97e10011ec0d2f79ddb92c782cabbe0c99113948bcd4fa8b9") false
  I94 (fun _ h=>by cases h) (by kernel_rfl) (fun _ h=>by cases h) hostPassed_row_tie rfl ⟨rfl,rfl⟩ (by kernel_rfl) rfl
  (fun f fn hf hfn=>by
   obtain rfl : f = B9 := Option.some.inj ((show Tryz.prog.funcNamed "commonage/commonagelaw21.HostPassed" = some B9 by kernel_rfl).symm.trans hf) |>.symm
   obtain rfl:fn=Tryz.f5:=(Option.some.inj (Tryz.func5.symm.trans hfn)).symm
   exact ⟨by kernel_rfl,fun j t ht=>by
    rw [Tryz.params5] at ht
    have hm:t ∈ [B5,Dj0]:=by simpa using Array.mem_of_getElem? ht
    have hall:([B5,Dj0].all fun u=>!Tryz.prog.wantsStandIn u)=true:=by kernel_rfl
    exact (show Tryz.prog.wantsStandIn t=false by simpa using List.all_eq_true.1 hall t hm)⟩)
  (by kernel_rfl)
end Go.EQ
