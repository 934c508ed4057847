/- A blocked call ends when a signal that is caught comes, and tells so; one that ends the process ends it with that code; one that is ignored, or kept off, does nothing. -/
import Derived.Test.YtonlefldpebcpaaGreatDoorMj
set_option linter.all false
set_option maxRecDepth 10000
namespace Go.EQ
open Go Go.NN
theorem Jz5 (k:Nat) (S:KS):CtP B0 A76 [P0 k] [E1 k S] (int S.now):=by
 refine CtP.of He4 rfl fun h r=>Tr.eq (Hi0 ..) ?_;refine Je ?_;refine B6 (E1 k S) fun ⟨m,s,q,rg,ea,ec,ma,mc,ms,sa,sc,ss⟩=>?_;refine Je ?_;exact Jz
def SH (S:KS) (T:SectS) (t:Int):KS:={ S with sects:=S.sects.set 0 T,now:=t }
structure Base (S:KS):Prop where
 like:Like S
 sects:S.sects=[I9 5,I9 5]
 may:S.may=[[0],[1]]
 envs:S.envs=[0,0,0,0,0,0,0,0,0,1,1,1,1,1,1,1,1,1]
 now:S.now=0
theorem Ar4:Base S3:=⟨I03,by kernel_rfl,by kernel_rfl,by kernel_rfl,by kernel_rfl⟩
structure TOk (N:Nat) (T:SectS) (t:Int):Prop where
 ok:SectOk N T
 hN:N+2<1000000000
 now:0≤t∧t≤1073741824
theorem Kc4:EnvP 0 2:=⟨by omega,by omega,by kernel_rfl,by kernel_rfl,by kernel_rfl⟩
theorem Dq7 {j:Int} (h:0≤j∧j<4):EnvP 0 j:=by
 obtain rfl|rfl|rfl|rfl:j=0∨j=1∨j=2∨j=3:=by omega
 ·exact G64
 ·exact Ka6
 ·exact Kc4
 ·exact Kb7
def frH (S:KS) (T:SectS) (t:Int) (N:Nat) (env:Int):Fr:=⟨SH S T t,N,env,[256,257,258],rgP 0⟩
abbrev kmF (S:KS) (k:Nat) (T:SectS) (t:Int) (m:List (List UInt8)):List HP:=[E1 k (N0 (SH S T t) (Y3 S.mem (rgP 0) m)),pu (Fit S.mem.length (rgP 0) m)]
def kmC (S:KS) (k:Nat) (T:SectS) (t:Int) (m:List (List UInt8)):HP:=hex fun _:Unit=>sl (kmF S k T t m)
instance {S:KS} {k:Nat} {T:SectS} {t:Int} {m:List (List UInt8)}:Chk (kmC S k T t m) (fun _:Unit=>kmF S k T t m):=⟨rfl⟩
abbrev c3C (c k:Nat) (env:Int) (bad:List RecS):HP:=Z6 c k env [256,257,258] bad
theorem Own.cmOf {S:KS} {h:H} {r:List HP} {c k N:Nat} {T:SectS} {t env:Int} {m:List (List UInt8)} {bad:List RecS} (o:Own h (kmC S k T t m::c3C c k env bad::r)):Own h (cmC c k (frH S T t N env) ⟨m,bad⟩::r):=by
 obtain ⟨u,o1⟩:=Own.unfold (kmC S k T t m) o;exact Own.shut (f:=fun _:Unit=>cmF c k (frH S T t N env) ⟨m,bad⟩) () (o1.picks [0,1,0] rfl)
theorem Own.kmOf {S:KS} {h:H} {r:List HP} {c k N:Nat} {T:SectS} {t env:Int} {X:CX} (o:Own h (cmC c k (frH S T t N env) X::r)):Own h (kmC S k T t X.m::c3C c k env X.bad::r):=by
 obtain ⟨u,o1⟩:=Own.unfold (cmC c k (frH S T t N env) X) o;have o2:Own h (E1 k (N0 (SH S T t) (Y3 S.mem (rgP 0) X.m))::pu (Fit S.mem.length (rgP 0) X.m)::c3C c k env X.bad::r):=o1.picks [0,1,0] rfl;exact Own.shut (f:=fun _:Unit=>kmF S k T t X.m) () o2
section
variable {S:KS} (B:Base S)
include B
theorem Kb0:SH S (I9 5) 0=S:=by
 have h1:=B.sects;have h2:=B.now;obtain ⟨a,b,c,d,e,f,g,i⟩:=S;simp only at h1 h2;subst h1 h2
 rfl
theorem Js7 {N:Nat} {T:SectS} {t:Int} (k:TOk N T t):KOk N (SH S T t):=by
 have h:=B.like.ok;have hs:=k.hN;refine ⟨h.envs,h.tabs,h.space,h.quota,h.mem,h.regs,?_,h.mayl,?_,?_,k.now⟩
 ·show S.may.length=(S.sects.set 0 T).length;rw [List.length_set];exact h.may
 ·show (S.sects.set 0 T).length≤8;rw [List.length_set];exact h.nsect
 ·intro X hX;rcases List.mem_or_eq_of_mem_set (show X ∈ S.sects.set 0 T from hX) with h1|rfl
  ·exact (h.sects X h1).up (Nat.zero_le N) (by omega)
  ·exact k.ok
theorem A71 {N:Nat} {T:SectS} {t:Int} (k:TOk N T t) {env:Int} (e:EnvP 0 env):FrOk (frH S T t N env):=by
 have g:=He7 B.like e;have:=k.hN;exact ⟨Js7 B k,by show N+1<1000000000;omega,g.ne,g.small,g.len,g.env,g.pl,g.dj,g.own,g.brs⟩
theorem Ju0 (T:SectS) (t:Int) (p:List UInt8) {env:Int} (he:0≤env∧env<4):De6 (N0 (SH S T t) p) env 0=true:=by
 unfold De6 Be4 H00;show (decide ((0:Int)≤0∧(0:Int)<((S.sects.set 0 T).length:Int)) && decide (S.envs.getD env.toNat 0 ∈ S.may.getD (0:Int).toNat []))=true;rw [List.length_set,B.sects,B.may,B.envs];obtain rfl|rfl|rfl|rfl:env=0∨env=1∨env=2∨env=3:=by omega
 all_goals decide
theorem Ju5 (T:SectS) (t:Int) (p:List UInt8):As9 (N0 (SH S T t) p) 0=T:=by
 show (S.sects.set 0 T).getD (0:Int).toNat Js6=T;rw [B.sects];rfl
omit B in
theorem J37 (T T':SectS) (t:Int) (p:List UInt8):putSect (N0 (SH S T t) p) 0 T'=N0 (SH S T' t) p:=by
 show ({ S with sects:=(S.sects.set 0 T).set 0 T',now:=t,mem:=p }:KS)={ S with sects:=S.sects.set 0 T',now:=t,mem:=p };rw [List.set_set]
theorem J73 (T:SectS) (t:Int) (p:List UInt8) {env:Int} (he:0≤env∧env<4):¬ (env<0∨env≥((N0 (SH S T t) p).envs.length:Int)):=by
 show ¬ (env<0∨env≥(S.envs.length:Int));rw [B.envs];simp;omega
theorem J41 (T:SectS) (t:Int) (p:List UInt8) {env:Int} (he:0≤env∧env<4):Z1 (N0 (SH S T t) p) env ⟨8,0,0,0,0,0,[]⟩=((0,(D0 T env t).1.1,[]),N0 (SH S (D0 T env t).2 t) p):=by
 unfold Z1;rw [if_neg (J73 B T t p he)];unfold kDo;rw [if_neg (by decide),if_neg (by decide),if_neg (by decide),if_neg (by decide),if_neg (by decide),if_neg (by decide),if_pos rfl];unfold Dy4;rw [if_pos (Ju0 B T t p he),Ju5 B];show ((0,(D0 T env t).1.1,[]),putSect (N0 (SH S T t) p) 0 (D0 T env t).2)=_;rw [J37]
theorem J66 (T:SectS) (t:Int) (p:List UInt8) {env:Int} (he:0≤env∧env<4) (st:Int):Z1 (N0 (SH S T t) p) env ⟨9,0,st,0,0,0,[]⟩=((if W6 T env st then 0 else 8,0,[]),N0 (SH S (E2 T env st) t) p):=by
 unfold Z1;rw [if_neg (J73 B T t p he)];unfold kDo;rw [if_neg (show ¬ (9:Int)=1 by decide),if_neg (show ¬ (9:Int)=2 by decide),if_neg (show ¬ (9:Int)=3 by decide),if_neg (show ¬ (9:Int)=4 by decide),if_neg (show ¬ (9:Int)=6 by decide),if_neg (show ¬ (9:Int)=7 by decide),if_neg (show ¬ (9:Int)=8 by decide),if_pos rfl];unfold Dy5;rw [if_pos (Ju0 B T t p he),Ju5 B,J37]
theorem kmN {N:Nat} {T:SectS} {t:Int} (ok:TOk N T t) {m:List (List UInt8)} (f:Fit S.mem.length (rgP 0) m):KOk N (N0 (SH S T t) (Y3 S.mem (rgP 0) m)):=by
 have kk:=Js7 B ok;exact ⟨kk.envs,kk.tabs,kk.space,kk.quota,by show (Y3 S.mem (rgP 0) m).length≤65536;rw [B90 f,B.like.mem];omega,kk.regs,kk.may,kk.mayl,kk.nsect,kk.sects,kk.now⟩
theorem Jc4 (k N:Nat) (T:SectS) (t:Int) (m:List (List UInt8)) (ok:TOk N T t) {env:Int} (he:0≤env∧env<4) :
  Ct B0 N7 [P0 k,int env,.agg ⟨[int 8,int 0,int 0,int 0,int 0,int 0,.slice none 0 0]⟩] [kmC S k T t m] fun v own=>∃ x d,v=.agg ⟨[int 0,int (D0 T env t).1.1,.slice x 0 d]⟩∧own [kmC S k (D0 T env t).2 t m]:=by
 have hN:=ok.hN;intro h r o;obtain ⟨u,o1⟩:=Own.unfold (kmC S k T t m) o;have f:Fit S.mem.length (rgP 0) m:=(o1.picks [1] rfl).pure;have J:=Gs1 k (N0 (SH S T t) (Y3 S.mem (rgP 0) m)) N (kmN B ok f) (by omega) env 8 0 0 0 0 0 (by decide);rw [J41 B T t _ he] at J;obtain ⟨v,h',e,y,d,hv,o2⟩:=J h _ (o1.picks [0] rfl);have o3:Own h' (E1 k (N0 (SH S (D0 T env t).2 t) (Y3 S.mem (rgP 0) m))::pu (Fit S.mem.length (rgP 0) m)::r):=Own.weak1 0 o2;exact ⟨v,h',e,y,d,hv,Own.shut (f:=fun _:Unit=>kmF S k (D0 T env t).2 t m) () o3⟩
theorem Jf4 (k N:Nat) (T:SectS) (t:Int) (m:List (List UInt8)) (ok:TOk N T t) {env:Int} (he:0≤env∧env<4) (st:Int) :
  Ct B0 N7 [P0 k,int env,.agg ⟨[int 9,int 0,int st,int 0,int 0,int 0,.slice none 0 0]⟩] [kmC S k T t m] fun v own=>∃ e x d,v=.agg ⟨[int e,int 0,.slice x 0 d]⟩∧own [kmC S k (E2 T env st) t m]:=by
 have hN:=ok.hN;intro h r o;obtain ⟨u,o1⟩:=Own.unfold (kmC S k T t m) o;have f:Fit S.mem.length (rgP 0) m:=(o1.picks [1] rfl).pure;have J:=Gs1 k (N0 (SH S T t) (Y3 S.mem (rgP 0) m)) N (kmN B ok f) (by omega) env 9 0 st 0 0 0 (by decide);rw [J66 B T t _ he] at J;obtain ⟨v,h',e,y,d,hv,o2⟩:=J h _ (o1.picks [0] rfl);have o3:Own h' (E1 k (N0 (SH S (E2 T env st) t) (Y3 S.mem (rgP 0) m))::pu (Fit S.mem.length (rgP 0) m)::r):=Own.weak1 0 o2;exact ⟨v,h',e,_,y,d,hv,Own.shut (f:=fun _:Unit=>kmF S k (E2 T env st) t m) () o3⟩
end
theorem Je0 (m:Int):J8 .i64 0 m=0:=by
 unfold J8;simp
 rfl
theorem Jq3 (p:ProcS) (hs:p.state=1) (h0:p.pending=0):Ct B0 Aq5 [.agg ⟨B5 p⟩] [] fun v own=>v=.tuple ⟨[int 0,int 0]⟩∧own []:=by
 refine Co D90 (fun _=>Ga5 ..) fun h r=>?_;refine Yn fun b h=>?_;refine Jb ?_;unhygienic intros;rw [hs,h0,Je0];refine Yb (Yf rfl ?_);refine Yv ?_;refine Yt rfl ?_;exact Yz
theorem Ij9 (p:ProcS) (hs:p.state=1) (h0:p.pending=0):Ct B0 S9 [.agg ⟨B5 p⟩] [] fun v own=>v=.tuple ⟨[.agg ⟨B5 p⟩,.slice none 0 0,int 0]⟩∧own []:=by
 refine Co Au5 (fun _=>Dz4 ..) fun h r=>?_;refine Yn fun b h=>?_;refine Yn fun b1 h=>?_;refine Yj Au5 (Bi7 ..) ?_;refine Ja ?_;unhygienic intros;refine Yd (Jq3 p hs h0) fun h=>?_;refine Jd ?_;unhygienic intros;exact Yz
structure HoS where
 c:Nat
 phase:Int
 stamp:Int
 op:Int
 a:Int
 b:Int
 d:List UInt8
abbrev hoL (k:Nat) (j:Int) (y:HoS) (da:Option Addr) (dc:Nat):List Value:=[P0 k,int j,int j,int 0,P0 y.c,int y.phase,int y.stamp,int y.op,int y.a,int y.b,.slice da y.d.length dc]
abbrev dC (da:Option Addr) (dc:Nat) (d:List UInt8):HP:=slC false A9 1 da d.length dc (A0 d)
abbrev hoF (q k:Nat) (j:Int) (y:HoS) (x:Option Addr × Nat):List HP:=[pt q (.cells A03 false (hoL k j y x.1 x.2)),dC x.1 x.2 y.d,c3C y.c k j []]
def hoC (q k:Nat) (j:Int) (y:HoS):HP:=hex fun x=>sl (hoF q k j y x)
instance {q k:Nat} {j:Int} {y:HoS}:Chk (hoC q k j y) (hoF q k j y):=⟨rfl⟩
theorem B04 {l r:List HP} {h:H} {α:Type} {Q:α→H→Prop} {x:Option (α × H)} (S:KS) (c k N:Nat) (T:SectS) (t env:Int) (m:List (List UInt8)) [tk:Takes [kmC S k T t m,c3C c k env []] l r] (tt:Tr (cmC c k (frH S T t N env) ⟨m,[]⟩::r) h x Q):Tr l h x Q:=fun o=>tt (Own.cmOf (o.perm tk.pm))
theorem Bt6 {l r:List HP} {h:H} {α:Type} {Q:α→H→Prop} {x:Option (α × H)} (S:KS) (c k N:Nat) (T:SectS) (t env:Int) (X:CX) (hb:X.bad=[]) [tk:Take (cmC c k (frH S T t N env) X) l r] (tt:Tr (kmC S k T t X.m::c3C c k env []::r) h x Q):Tr l h x Q:=fun o=>tt (by
 have o2:=Own.kmOf (o.perm tk.pm);rw [hb] at o2;exact o2)
theorem See.eX {X:CX} {V:VW} (A:See X V):(⟨X.m,[]⟩:CX)=X:=by
 have:=A.c.bad;obtain ⟨m,b⟩:=X;subst this;rfl
def Gt4 (y:HoS) (st:Int):HoS:=if st>0 then { y with phase:=2,stamp:=st } else y
theorem Em8 (q k:Nat) (j:Int) (y:HoS):Ct B0 Af3 [P0 q] [hoC q k j y] fun v own=>v=int y.phase∧own [hoC q k j y]:=by
 refine Co Gu5 (fun _=>Gw4 ..) fun h r=>?_;refine B6 (hoC q k j y) fun ⟨da,dc⟩=>?_;refine Je ?_;refine Ja ?_;unhygienic intros;refine B1 (hoC q k j y) (da,dc) ?_;refine Je ?_;exact Yz
section
variable {S:KS} (B:Base S)
include B
theorem Hu9 (q k N:Nat) {j:Int} (hj:0≤j∧j<4) (y:HoS) (T:SectS) (t:Int) (m:List (List UInt8)) (ok:TOk N T t) (ph:Int) :
  Ct B0 Am9 [P0 q,int ph] [hoC q k j y,kmC S k T t m] fun v own=>v=.tuple ⟨[]⟩∧own [hoC q k j { y with phase:=ph },kmC S k (E2 T j y.stamp) t m]:=by
 refine Co Gv0 (fun _=>Gw1 ..) fun h r=>?_;refine B6 (hoC q k j y) fun ⟨da,dc⟩=>?_;refine Je ?_;refine Ja ?_;unhygienic intros;refine Yc (Jf4 B k N T t m ok hj y.stamp) ?_;rintro _ h ⟨e,x,d,rfl,o⟩<;>refine Jh o ?_;refine Ja ?_;unhygienic intros;simp only [List.set_cons_zero,List.set_cons_succ];refine B1 (hoC q k j { y with phase:=ph }) (da,dc) ?_;refine Je ?_;exact Yz
theorem Jj5 (q k N:Nat) {j:Int} (hj:0≤j∧j<4) (y:HoS) (T:SectS) (t:Int) (m:List (List UInt8)) (ok:TOk N T t) :
  Ct B0 Bj3 [P0 q] [hoC q k j y,kmC S k T t m] fun v own=>v=.tuple ⟨[]⟩∧own [hoC q k j (Gt4 y (D0 T j t).1.1),kmC S k (D0 T j t).2 t m]:=by
 refine Co G42 (fun _=>G52 ..) fun h r=>?_;refine B6 (hoC q k j y) fun ⟨da,dc⟩=>?_;refine Je ?_;refine Jc ?_;unhygienic intros;refine Yn fun b1 h=>?_;refine Jc ?_;unhygienic intros;refine Yc (Jc4 B k N T t m ok hj) ?_;rintro _ h ⟨x,d,rfl,o⟩<;>refine Jh o ?_;refine Jc ?_;unhygienic intros;unfold Gt4;by_cases h1:(D0 T j t).1.1>0
 ·rw [if_pos h1];refine Yt (by simpa using h1) ?_;refine Jc ?_;unhygienic intros;simp only [List.set_cons_zero,List.set_cons_succ];refine B1 (hoC q k j { y with phase:=2,stamp:=(D0 T j t).1.1 }) (da,dc) ?_;refine Je ?_;exact Yz
 ·rw [if_neg h1];refine Yf (by simpa using h1) ?_;refine B1 (hoC q k j y) (da,dc) ?_;refine Je ?_;exact Yz
end
theorem See.same {X:CX} {V:VW} (A:See X V) {i:Int} {p:ProcS} (hp:V.S i=(p,1)) (hi:0≤i∧i<8):(Bc0 X i p).1=true∧See (Bc0 X i p).2 V:=by
 have e:=A.s i hi
 have hk:okS p=true∧InS p:=by
  have h1:=Du5 A.c hi;have h2:InS (vS X i).1:=A65 _;rw [e,hp] at h1 h2;rcases h1 with ⟨h3,_⟩|⟨_,h3⟩
  ·cases h3
  ·exact ⟨h3,h2⟩
 have w:=O7 A.c hi hk.1 hk.2;refine ⟨by rw [w.1],?_⟩;have s:=A.ws hi hk.1 hk.2;rw [w.1];refine s.to (fun j hj=>?_) (fun _ _=>rfl) (fun _ _=>rfl);show (if j=i then (p,1) else V.S j)=V.S j;by_cases h:j=i
 ·subst h;rw [if_pos rfl,hp]
 ·rw [if_neg h]
structure Qt (V:VW) (j:Int) (p:ProcS):Prop where
 v:V.S j=(p,1)
 s:p.state=1
 z:p.pending=0
abbrev Ev2 (s slot op a b:Int) (da:Option Addr) (dn dc:Nat) (n e:Int) (xa:Option Addr) (xn xc:Nat) (back:Bool):List Value:=[int s,int slot,int op,int a,int b,.slice da dn dc,int n,int e,.slice xa xn xc,.bool back,.slice none 0 0,int 0]
section
variable {S:KS} (B:Base S)
include B
theorem Jk8 (q k N:Nat) {j:Int} (hj:0≤j∧j<4) (y:HoS) (T:SectS) (t:Int) (ok:TOk N T t) {X:CX} {V:VW} (A:See X V) {p:ProcS} (hp:Qt V j p)
  (s slot op a b:Int) (da:Option Addr) (dn dc:Nat) (n e:Int) (xa:Option Addr) (xn xc:Nat) (back:Bool) :
  Ct B0 Am8 [P0 q,.agg ⟨Ev2 s slot op a b da dn dc n e xa xn xc back⟩] [hoC q k j y,kmC S k T t X.m] fun v own=>∃ X',See X' V∧v=.agg ⟨Ev2 s slot op a b da dn dc n e xa xn xc back⟩∧own [hoC q k j y,kmC S k T t X'.m]:=by
 have fo:=A71 B ok (Dq7 hj);have e0:=A.s j (by omega);rw [hp.v] at e0;have sm:=A.same hp.v (by omega);refine Co Dl3 (fun _=>Dl8 ..) fun h r=>?_;refine Yn fun b1 h=>?_;refine Yn fun b2 h=>?_;refine B6 (hoC q k j y) fun ⟨ha,hc⟩=>?_;refine Je ?_;refine Jc ?_;unhygienic intros;refine Yn fun b3 h=>?_;refine B04 S y.c k N T t j X.m ?_;rw [A.eX];refine Yd (Aa6 y.c k (frH S T t N j) X fo j) fun h=>?_;rw [O8 A.c (by omega),e0];dsimp only;refine Jb ?_;unhygienic intros;refine Yb (Yf rfl ?_);refine Jb ?_;unhygienic intros;refine Yv ?_;rw [hp.s];refine Yf rfl ?_;refine Jc ?_;unhygienic intros;refine Yd (Ij9 p hp.s hp.z) fun h=>?_;refine Jc ?_;unhygienic intros;refine Yd (Ah8 y.c k (frH S T t N j) X fo j p) fun h=>?_;refine Jc ?_;unhygienic intros;refine Yf rfl ?_;refine Jc ?_;unhygienic intros;refine Bt6 S y.c k N T t j (Bc0 X j p).2 sm.2.c.bad ?_;refine B1 (hoC q k j y) (ha,hc) ?_;refine Je ?_;refine Ys fun o=>?_;exact ⟨_,sm.2,rfl,o.sub⟩
end
theorem J90 {h:H} {ro:Bool} {e:TypeId} {sz:Nat} {a:Option Addr} {n c:Nat} {cs:List Value} {r:List HP} (m:Nat) (hm:m≤n) (o:Own h (slC ro e sz a n c cs::r)):Own h (slC ro e sz a m c (cs.take (m*sz))::r):=by
 cases a with
 | none =>
  obtain ⟨rfl,rfl,rfl,hs⟩:=o.slNone;obtain rfl:m=0:=by omega
  simpa using o
 | some x =>
  obtain ⟨b,o',sp⟩:=x;obtain ⟨pre,post,o2,h1,h2,h3,h4,h5,h6,h7⟩:=o.slOpen;have hl:m*sz≤cs.length:=by rw [← h1];exact Nat.mul_le_mul_right _ hm
  have e1:pre++cs++post=pre++cs.take (m*sz)++(cs.drop (m*sz)++post):=by rw [List.append_assoc pre cs,List.append_assoc pre,← List.append_assoc (cs.take _),List.take_append_drop]
  rw [e1] at o2;refine Own.slShut (b:=b) (o:=o') (sp:=sp) o2 ⟨by rw [List.length_take];omega,by omega,?_,h4,h5,h6,h7⟩;rw [List.length_append,List.length_drop,← h1];have:(c-m)*sz=(c-n)*sz+(n*sz-m*sz):=by rw [← Nat.sub_mul,← Nat.add_mul];congr 1;omega
  omega
theorem J24 {h:H} {e:TypeId} {sz:Nat} {a:Option Addr} {n c:Nat} {cs:List Value} {r:List HP} (o:Own h (slC false e sz a n c cs::r)):Own h (slC false e sz (At6 a) n n cs::r):=by
 cases a with
 | none=>obtain ⟨rfl,rfl,rfl,hs⟩:=o.slNone;exact o
 | some x =>
  obtain ⟨b,o',sp⟩:=x;obtain ⟨pre,post,o2,h1,h2,h3,h4,h5,h6,h7⟩:=o.slOpen;refine Own.slShut (b:=b) (o:=o') (sp:=none) o2 ⟨h1,by omega,by simp,fun h=>h4 (by omega),fun h=>absurd rfl h,h6,fun h=>?_⟩;rcases Nat.eq_zero_or_pos c with hc|hc
  ·exact h7 hc
  ·have:=h4 hc;omega
theorem Jf6 {l:List HP} {h:H} {α:Type} {Q:α→H→Prop} {ro:Bool} {e:TypeId} {sz:Nat} {a:Option Addr} {n c:Nat} {cs:List Value} {z:Option (α × H)} (i:Nat) (hi:l[i]?=some (slC ro e sz a n c cs)) (m:Nat) (cs':List Value) (hm:m≤n) (hc:cs.take (m*sz)=cs')
  (k:Tr (l.set i (slC ro e sz a m c cs')) h z Q):Tr l h z Q:=fun o=>by
 subst hc;exact k (Own.back (h:=h) hi (J90 m hm (o.front hi)))
theorem Iu4 (a:Option Addr) (n c:Nat) (cs:List Value):Ct B0 Ab2 [.slice a n c] [slC false A9 1 a n c cs] fun v own=>v=.slice (At6 a) n n∧own [slC false A9 1 (At6 a) n n cs]:=by
 refine Co D56 (fun _=>D81 ..) fun h r=>?_;refine S4 0 rfl fun hl hc _=>?_;simp only [Int.toNat_natCast];refine Ja ?_;unhygienic intros;refine Ys fun o=>?_;refine ⟨?_,J24 o⟩;simp
abbrev bytesN (p:PipeS) (i:Nat):List UInt8:=(List.range i).map fun (j:Nat)=>p.data.getD (((p.head+j)%32).toNat) 0
abbrev Bo3 (p:PipeS):List UInt8:=bytesN p p.count.toNat
theorem Ea2 {p:PipeS} (h:okP p=true):(0≤p.head∧p.head≤31)∧(0≤p.count∧p.count≤32)∧(0≤p.readers∧p.readers≤8)∧(0≤p.writers∧p.writers≤8):=by
 simp only [okP,Bool.and_eq_true,decide_eq_true_eq] at h;omega
theorem J15 {l:List UInt8} {j:Nat} (h:j<l.length):(A0 l)[j]?=some (.int .u8 (l.getD j 0).toNat):=by
 unfold A0;rw [List.getElem?_map,List.getElem?_eq_getElem h,List.getD_eq_getElem?_getD,List.getElem?_eq_getElem h];rfl
theorem Ji4 (p:PipeS) {j:Nat} (h:j<32):(M6 p)[4+j]?=some (.int .u8 (p.data.getD j 0).toNat):=by
 rw [show 4+j=j+4 by omega];exact J15 (by rw [p.len];exact h)
theorem Gf0 (b:Nat) (p:PipeS) (hp:okP p=true):∀ (m i:Nat) (a:Option Addr) (ac:Nat),(i:Int)+m=p.count→CtJ H0 As1 Bt4 [(1,P0 b),(3,.slice a i ac),(9,int p.count),(10,int i)] [pt b (.cells E6 false (M6 p)),slC false A9 1 a i ac (A0 (bytesN p i))] fun v own =>
  ∃ a' c',v=.slice a' p.count.toNat c'∧own [slC false A9 1 a' p.count.toNat c' (A0 (Bo3 p))]
 | 0,i,a,ac,hi=>by
  obtain rfl:i=p.count.toNat:=by omega
  refine Cj Ej3 (fun _=>Em7 ..) fun h r=>?_;refine Yf (by simp;omega) ?_;refine Ys fun o=>?_;exact ⟨a,ac,rfl,o.sub⟩
 | m+1,i,a,ac,hi=>by
  obtain ⟨r1,r2,r3,r4⟩:=Ea2 hp;have e1:=wN i;have e2:IntKind.wrap .i64 (p.head+i)=p.head+i:=by rw [B8];omega
  have hg:=Ji4 p (j:=((p.head+i)%32).toNat) (by omega);refine Cj Ej3 (fun _=>Em7 ..) fun h r=>?_;refine Yt (by simp;omega) ?_;rw [e1];refine Ja ?_;unhygienic intros;rw [e2,Iv7 (show 0≤p.head+(i:Int) by omega)];refine Ja ?_;unhygienic intros;refine S4 2 rfl fun hl hc _=>?_;refine Tr.xApd (new:=A0 [p.data.getD (((p.head+i)%32).toNat) 0]) ⟨rfl,rfl,by simp only [B3];omega⟩ fun a2 c2 h=>?_;have H:=Gf0 b p hp m (i+1) a2 c2 (by omega);refine (?_:Tr (pt b_1 _::pt b _::slC false A9 1 a2 (i+1) c2 (A0 (bytesN p i)++A0 [p.data.getD (((p.head+i)%32).toNat) 0])::_) _ _ _);rw [← J77,show bytesN p i++[p.data.getD (((p.head+i)%32).toNat) 0]=bytesN p (i+1) by unfold bytesN;rw [List.range_succ,List.map_append];rfl];refine N8 [1,1] 1 rfl rfl ?_;exact Yr H fun v h q=>q
theorem I50 (p:PipeS):(Bo3 p).length=p.count.toNat:=by simp [Bo3]
theorem Jf1 (p:PipeS) (hp:okP p=true):Ct B0 As1 [.agg ⟨M6 p⟩] [] fun v own=>∃ a c,v=.slice a p.count.toNat c∧own [slC false A9 1 a p.count.toNat c (A0 (Bo3 p))]:=by
 refine Co Ej3 (fun _=>If8 ..) fun h r=>?_;refine Ja ?_;unhygienic intros;refine Yd (I96 p) fun h=>?_;rw [hp];refine Ja ?_;unhygienic intros;refine G0 false A9 1 (by omega) ?_;have H:=fun b=>Gf0 b p hp p.count.toNat 0 none 0 (by have:=Ea2 hp;omega);refine (?_:Tr (slC false A9 1 none 0 0 (A0 (bytesN p 0))::_) _ _ _);exact Yr (H _) fun v h q=>q
abbrev Em2 (p:PipeS) (m:Nat):PipeS:=if 0<m then ⟨(p.head+m)%32,p.count-m,p.readers,p.writers,p.data,p.len⟩ else p
theorem Jp2 (p:PipeS) (hp:okP p=true) (n:Int) (hn:0≤n∧n≤32):Ct B0 Dt3 [.agg ⟨M6 p⟩,int n] [] fun v own=>∃ a c,v=.tuple ⟨[.agg ⟨M6 (Em2 p (min n.toNat p.count.toNat))⟩,.slice a (min n.toNat p.count.toNat) c]⟩∧own [slC false A9 1 a (min n.toNat p.count.toNat) c (A0 ((Bo3 p).take (min n.toNat p.count.toNat)))]:=by
 obtain ⟨r1,r2,r3,r4⟩:=Ea2 hp;refine Co Ir7 (fun _=>Iq6 ..) fun h r=>?_;refine Ja ?_;unhygienic intros;refine Yc (Jf1 p hp) ?_;rintro _ h ⟨a,c,rfl,o⟩;refine Jh o ?_;refine Tr.dx ?_;simp only [Ab7,Ag3];have e:min (max n 0) ((p.count.toNat:Nat):Int)=((min n.toNat p.count.toNat:Nat):Int):=by omega
 have hle:min n.toNat p.count.toNat≤p.count.toNat:=by omega
 rw [e];simp only [Int.toNat_natCast];generalize min n.toNat p.count.toNat=m at hle;refine S4 0 rfl fun hl hc _=>?_;refine Ja ?_;unhygienic intros;refine Jf6 0 rfl m (A0 ((Bo3 p).take m)) hle (by rw [Nat.mul_one,Jz7]) ?_;refine (?_:Tr (slC false A9 1 a m c (A0 ((Bo3 p).take m))::_::_::_) _ _ _);by_cases hm:0<m
 ·rw [show Em2 p m=⟨(p.head+m)%32,p.count-m,p.readers,p.writers,p.data,p.len⟩ from if_pos hm];refine Yt (by simpa using hm) ?_;refine Ja ?_;unhygienic intros;rw [show Int.tmod (IntKind.wrap .i64 (p.head+m)) 32=(p.head+m)%32 by rw [show IntKind.wrap .i64 (p.head+m)=p.head+m by rw [B8];omega,Iv7 (show 0≤p.head+(m:Int) by omega)],show IntKind.wrap .i64 (p.count-m)=p.count-m by rw [B8];omega];refine (?_:Tr (_::_::pt _ (.cells E6 false (M6 ⟨(p.head+m)%32,p.count-m,p.readers,p.writers,p.data,p.len⟩))::_) _ _ _);generalize (⟨(p.head+m)%32,p.count-m,p.readers,p.writers,p.data,p.len⟩:PipeS)=q;refine Ja ?_;unhygienic intros;refine Yd (Iu4 a m c (A0 ((Bo3 p).take m))) fun h=>?_;refine Ja ?_;unhygienic intros;refine Ys fun o=>?_;exact ⟨At6 a,m,rfl,o.sub⟩
 ·rw [show Em2 p m=p from if_neg hm];refine Yf (by simpa using hm) ?_;refine Ja ?_;unhygienic intros;refine Yd (Iu4 a m c (A0 ((Bo3 p).take m))) fun h=>?_;refine Ja ?_;unhygienic intros;refine Ys fun o=>?_;exact ⟨At6 a,m,rfl,o.sub⟩
abbrev vT (X:CX):PipeS × Int:=V9 (rd X ⟨4,0⟩)
theorem Kb1 {nc:Nat}:Rin nc ⟨4,0⟩:=⟨by simp,by simp,by simp,by simp [Ab4]⟩
theorem Jv9 {nc:Nat} {X:CX} (c:Clean nc X) {i:Int} (h:0≤i∧i<3+nc) {q:PipeS} (ok:okP q=true):vT (Bj8 X i q)=vT X:=by
 have hl:(P2 q).length=Y1 (3:Int):=by rw [Bu0 q.len];rfl
 show V9 (rd _ _)=_;rw [Aj3 c (Bq3 h) Kb1 hl,if_neg (by simp)]
theorem G48 (e:Int):Ct B0 As2 [int e] [] fun v own=>v=.agg ⟨I2 0 e false⟩∧own []:=by
 refine Co H77 (fun _=>Id1 ..) fun h r=>?_;refine Ja ?_;intros;refine Ys fun o=>?_;exact ⟨rfl,o.tail⟩
theorem Jl9 (f:FileS):Ct B0 Bo1 [.agg ⟨Am5 f⟩] [] fun v own=>v=.agg ⟨if f.flags=1 then I2 0 111 false else I2 0 0 true⟩∧own []:=by
 refine Co Hx6 (fun _=>Hz6 ..) fun h r=>?_;refine Jb ?_;intros;by_cases h1:f.flags=1
 ·rw [if_pos h1];refine Yt (by simpa using h1) ?_;refine Ye (G48 111) fun h=>?_;intros;exact Yz
 ·rw [if_neg h1];refine Yf (by simpa using h1) ?_;refine Ja ?_;intros;exact Yz
abbrev Hh6 (b b1:Nat):Value:=.func (.func Bf9) ⟨[]⟩ ⟨[P0 b,P0 b1]⟩
theorem J05 (c k b b1:Nat) (F:Fr) (X:CX) (ok:FrOk F) (f:FileS) (q:PipeS):Ct B0 Bf9 [.agg ⟨M6 q⟩,P0 b,P0 b1] [cmC c k F X,pt b (.cells W1 false [P0 c]),pt b1 (.cells D9 false (Am5 f))] fun v own =>
  v=.bool (Bj5 X f.pipe q).1∧own [cmC c k F (Bj5 X f.pipe q).2,pt b (.cells W1 false [P0 c]),pt b1 (.cells D9 false (Am5 f))]:=by
 refine Co Ic9 (fun _=>H13 ..) fun h r=>?_;refine Ja ?_;intros;refine Ye (Es0 c k F X ok f.pipe q) fun h=>?_;intros;exact Yz
def Be2 (q:PipeS) (v:Value):List Value:=M6 q++[v]
theorem Ef7 (q:PipeS) (v:Value):(Be2 q v).length=37:=by unfold Be2;rw [List.length_append,Bi4 q.len];rfl
theorem Jj3 (q:PipeS) (x:Fn) (y z:Array Value):(Be2 q (.func x y z)).all Value.oneCell=true:=by unfold Be2;rw [List.all_append,Hu1];rfl
instance {q:PipeS} {v:Value}:LenC (Be2 q v) 37:=⟨Ef7 q v⟩
instance {q:PipeS} {v:Value}:PartC (Be2 q v) 0 37 (Be2 q v):=⟨Bu5 (Ef7 q v)⟩
instance {q:PipeS} {v:Value}:PartC (Be2 q v) 0 36 (M6 q):=⟨by
 unfold By8;rw [Nat.ble_eq_true_of_le (by rw [Ef7];omega),List.drop_zero];unfold Be2;rw [List.take_left' (Bi4 q.len)];rfl⟩
instance {q:PipeS} {x:Fn} {y z:Array Value} {cs:List Value} [k:LenC cs 37]:SetsC cs 0 (Be2 q (.func x y z)) (Be2 q (.func x y z)):=⟨Bx3 k.ok (Ef7 q _) (Jj3 q x y z)⟩
theorem J81 (c k:Nat) (F:Fr) (X:CX) (ok:FrOk F) {nc:Nat} (cl:Clean nc X) (f:FileS) (h3:f.kind≠3) (hp:0≤f.pipe∧f.pipe<3+nc):Ct B0 D58 [P0 c,.agg ⟨Am5 f⟩] [cmC c k F X] fun v own =>
  ∃ b b1,v=.tuple ⟨[.agg ⟨Be2 (vP X f.pipe).1 (Hh6 b b1)⟩,.bool ((vP X f.pipe).2==1)]⟩∧own [cmC c k F X,pt b (.cells W1 false [P0 c]),pt b1 (.cells D9 false (Am5 f))]:=by
 refine Co Iz7 (fun _=>Iw8 ..) fun h r=>?_;refine Yn fun b h=>?_;refine Yn fun b1 h=>?_;refine Yn fun b2 h=>?_;refine Ja ?_;intros;refine Yf (by simpa using h3) ?_;refine Ja ?_;intros;refine Yd (E60 c k F X ok f.pipe) fun h=>?_;rw [Dt9 cl hp];dsimp only;generalize (vP X f.pipe).1=q;refine Jc ?_;intros;refine Yn fun b3 h=>?_;refine Jc ?_;intros;refine Tr.ck (Ef7 q _) ?_;refine (?_:Tr _ _ (pAgg ⟨b2,0,none⟩ (Be2 q (Hh6 b b1)) _ _) _);refine Ja ?_;intros;refine Ys fun o=>?_;exact ⟨b,b1,rfl,o.sub⟩
def Ae5 (V:VW) (i fd n:Int):FileS × Int :=
 if (ofW V i fd).2≠0 then ((ofW V i fd).1.2,(ofW V i fd).2)
 else if (ofW V i fd).1.2.kind=2 then ((ofW V i fd).1.2,109)
 else if n<0∨n>32 then ((ofW V i fd).1.2,122)
 else ((ofW V i fd).1.2,0)
theorem J75 (c k:Nat) (F:Fr) (X:CX) (ok:FrOk F) (V:VW) (A:See X V) (i fd n:Int) (hi:0≤i∧i<8) (h3:(ofW V i fd).1.2.kind≠3):Ct B0 Du9 [P0 c,int i,int fd,int n] [cmC c k F X] fun v own=>v=.tuple ⟨[.agg ⟨Am5 (Ae5 V i fd n).1⟩,int (Ae5 V i fd n).2]⟩∧own [cmC c k F X]:=by
 have eo:=A.ofv hi fd;unfold Ae5;refine Co Iq9 (fun _=>Ii8 ..) fun h r=>?_;refine Yn fun b0 h=>?_;refine Yd (Jt6 c k F X ok A.c i fd hi) fun h=>?_;rw [eo];refine Jc ?_;intros;refine Yn fun b1 h=>?_;refine Jb ?_;intros;generalize (ofW V i fd).1.2=x at *;generalize (ofW V i fd).2=e at *;by_cases h1:e=0
 case neg =>
  rw [if_pos h1];refine Yt (by simpa using h1) ?_;refine Ja ?_;intros;exact Yz
 have n1:¬ e≠0:=by simpa using h1
 rw [if_neg n1];refine Yf (by simpa using h1) ?_;refine Ja ?_;intros;by_cases h2:x.kind=2
 ·rw [if_pos h2];refine Yt (by simpa using h2) ?_;refine Ja ?_;intros;exact Yz
 rw [if_neg h2];refine Yf (by simpa using h2) ?_;by_cases h4:n<0
 ·rw [if_pos (.inl h4)];refine Yb (Yt (by simpa using h4) ?_);refine Yv ?_;refine Yt rfl ?_;refine Ja ?_;intros;exact Yz
 refine Yb (Yf (by simpa using h4) ?_);refine Yv ?_;by_cases h5:n>32
 ·rw [if_pos (.inr h5)];refine Yt (by simpa using h5) ?_;refine Ja ?_;intros;exact Yz
 rw [if_neg (fun h=>h.elim h4 h5)];refine Yf (by simpa using h5) ?_;refine Ja ?_;intros;refine Yf (by simpa using h3) ?_;refine Ja ?_;intros;exact Yz
structure RdS where
 bs:List UInt8
 e:Int
 blk:Bool
def Df1 (V:VW) (i fd n:Int):RdS × VW :=
 if (Ae5 V i fd n).2≠0∨n=0 then (⟨[],(Ae5 V i fd n).2,false⟩,V)
 else if (V.P (Ae5 V i fd n).1.pipe).2≠1 then (⟨[],105,false⟩,V)
 else if (V.P (Ae5 V i fd n).1.pipe).1.count=0 then
  if (Ae5 V i fd n).1.kind=1∧(V.P (Ae5 V i fd n).1.pipe).1.writers=0 then (⟨[],0,false⟩,V)
  else if (Ae5 V i fd n).1.flags=1 then (⟨[],111,false⟩,V) else (⟨[],0,true⟩,V)
 else (⟨(Bo3 (V.P (Ae5 V i fd n).1.pipe).1).take (min n.toNat (V.P (Ae5 V i fd n).1.pipe).1.count.toNat),0,false⟩,
  wP V (Ae5 V i fd n).1.pipe (Em2 (V.P (Ae5 V i fd n).1.pipe).1 (min n.toNat (V.P (Ae5 V i fd n).1.pipe).1.count.toNat)))
theorem Jl0 {p:PipeS} (h:okP p=true) {m:Nat} (hm:m≤p.count.toNat):okP (Em2 p m)=true:=by
 have:=Ea2 h;unfold Em2
 split
 ·simp only [okP,Bool.and_eq_true,decide_eq_true_eq];omega
 ·exact h
theorem Jm9 (c k:Nat) (F:Fr) (X:CX) (ok:FrOk F) (V:VW) (A:See X V) (i fd n:Int) (hi:0≤i∧i<8) (h3:(ofW V i fd).1.2.kind≠3) (hp:(Ae5 V i fd n).2=0→0≤(Ae5 V i fd n).1.pipe∧(Ae5 V i fd n).1.pipe<6) :
  Ct B0 Dj5 [P0 c,int i,int fd,int n] [cmC c k F X] fun v own=>∃ a cap X',See X' (Df1 V i fd n).2∧vT X'=vT X ∧
   v=.agg ⟨[int (Df1 V i fd n).1.bs.length,int (Df1 V i fd n).1.e,.slice a (Df1 V i fd n).1.bs.length cap,.bool (Df1 V i fd n).1.blk]⟩ ∧
   own [cmC c k F X',slC false A9 1 a (Df1 V i fd n).1.bs.length cap (A0 (Df1 V i fd n).1.bs)]:=by
 have nil:∀ {h:NN.H} {r:List HP},Own h (cmC c k F X::r)→Own h (cmC c k F X::slC false A9 1 none 0 0 (A0 [])::r):=fun o=>(o.slNil false A9 (by omega)).perm (List.Perm.swap _ _ _)
 have hk3:(Ae5 V i fd n).2=0→(Ae5 V i fd n).1.kind≠3:=by
  intro h;unfold Ae5 at h ⊢;repeat' split
  all_goals exact h3
 have hn:(Ae5 V i fd n).2=0→0≤n∧n≤32:=by
  intro h;unfold Ae5 at h
  split at h
  ·rename_i h1;exact absurd h h1
  ·split at h
   ·cases h
   ·split at h
    ·cases h
    ·omega
 unfold Df1;refine Co H30 (fun _=>Ia5 ..) fun h r=>?_;refine Yn fun b0 h=>?_;refine Yd (J75 c k F X ok V A i fd n hi h3) fun h=>?_;generalize (Ae5 V i fd n).1=x at *;generalize (Ae5 V i fd n).2=e at *;refine Jc ?_;intros;refine Yn fun b1 h=>?_;refine Jb ?_;intros;by_cases h1:e≠0∨n=0
 ·rw [if_pos h1]
  have hg:∀ {h:NN.H} {r:List HP},Tr (pt b1 (.cells D9 false (Am5 x))::cmC c k F X::pt b0 (.cells P3 false (I2 0 0 false))::r) h (bnd (B0 As2 [int e] h) fun r_3 hv_5=>aAgg r_3 fun x_2=>ck (List.length x_2=4) (pAgg ⟨b0,0,none⟩ x_2 hv_5 fun hv_6=>gAgg ⟨b0,0,none⟩ 4 hv_6 fun x_3=>some (Value.agg ⟨x_3⟩,hv_6)))
   fun (v:Value) h'=>∃ a cap X',See X' V∧vT X'=vT X∧v=.agg ⟨[int 0,int e,.slice a 0 cap,.bool false]⟩∧Own h' (cmC c k F X'::slC false A9 1 a 0 cap (A0 [])::r):=by
   intro h r;refine Ye (G48 e) fun h=>?_;intros;refine Ys fun o=>?_;exact ⟨none,0,X,A,rfl,rfl,nil o.sub⟩
  by_cases h2:e=0
  ·refine Yb (Yf (by simpa using h2) ?_);refine Yv ?_;refine Yt (by simpa using h1.resolve_left (by simpa using h2)) ?_;exact hg
  ·refine Yb (Yt (by simpa using h2) ?_);refine Yv ?_;refine Yt rfl ?_;exact hg
 rw [if_neg h1];have h2:e=0:=Classical.byContradiction fun h=>h1 (.inl h);have h0:n≠0:=fun h=>h1 (.inr h);have hpx:=hp h2;have hnn:=hn h2;have hkk:=hk3 h2;subst h2;refine Yb (Yf rfl ?_);refine Yv ?_;refine Yf (by simpa using h0) ?_;refine Ja ?_;intros;refine Yc (J81 c k F X ok A.c x hkk (by omega)) ?_;rintro _ h ⟨b,b2,rfl,o⟩;refine Jh o ?_;have hvp:=A.p x.pipe hpx;rw [hvp]
 have hq:(V.P x.pipe).2=1→okP (V.P x.pipe).1=true:=fun h=>by
  rcases Hc5 A.c (i:=x.pipe) (by omega) with ⟨h6,_⟩|⟨_,h6⟩
  ·rw [hvp,h] at h6;cases h6
  ·rw [hvp] at h6;exact h6
 generalize hqq:(V.P x.pipe).1=q at *;generalize (V.P x.pipe).2=st at *;refine Jc ?_;intros;refine Yn fun b3 h=>?_;refine Jb ?_;intros;by_cases h5:st=1
 case neg =>
  rw [if_pos h5];refine Yt (by simpa using h5) ?_;refine Ye (G48 105) fun h=>?_;intros;refine Ys fun o=>?_;exact ⟨none,0,X,A,rfl,rfl,nil o.sub⟩
 have n5:¬ st≠1:=by simpa using h5
 rw [if_neg n5];refine Yf (by simpa using h5) ?_;replace hq:=hq h5;obtain ⟨r1,r2,r3,r4⟩:=Ea2 hq;refine Jb ?_;intros;by_cases h6:q.count=0
 ·rw [if_pos h6];refine Yb (Yt (by simpa using h6) ?_);refine Jb ?_;intros
  have hw:∀ {h:NN.H} {r:List HP},Tr (pt b3 (.cells Ed2 false (Be2 q (Hh6 b b2)))::cmC c k F X::pt b (.cells W1 false [P0 c])::pt b2 (.cells D9 false (Am5 x))::pt b1 (.cells D9 false (Am5 x))::pt b0 (.cells P3 false (I2 0 0 false))::r) h
    (gAgg ⟨b1,0,none⟩ 4 h fun x_14=>bnd (B0 Bo1 [.agg ⟨x_14⟩] h) fun r_8 hv_15=>aAgg r_8 fun x_15=>ck (List.length x_15=4) (pAgg ⟨b0,0,none⟩ x_15 hv_15 fun hv_16=>gAgg ⟨b0,0,none⟩ 4 hv_16 fun x_16=>some (Value.agg ⟨x_16⟩,hv_16)))
    fun (v:Value) h'=>∃ a cap X',See X' (if x.flags=1 then ((⟨[],111,false⟩:RdS),V) else (⟨[],0,true⟩,V)).2∧vT X'=vT X∧v=.agg ⟨[int (if x.flags=1 then ((⟨[],111,false⟩:RdS),V) else (⟨[],0,true⟩,V)).1.bs.length,int (if x.flags=1 then ((⟨[],111,false⟩:RdS),V) else (⟨[],0,true⟩,V)).1.e,.slice a (if x.flags=1 then ((⟨[],111,false⟩:RdS),V) else (⟨[],0,true⟩,V)).1.bs.length cap,.bool (if x.flags=1 then ((⟨[],111,false⟩:RdS),V) else (⟨[],0,true⟩,V)).1.blk]⟩∧Own h' (cmC c k F X'::slC false A9 1 a (if x.flags=1 then ((⟨[],111,false⟩:RdS),V) else (⟨[],0,true⟩,V)).1.bs.length cap (A0 (if x.flags=1 then ((⟨[],111,false⟩:RdS),V) else (⟨[],0,true⟩,V)).1.bs)::r):=by
   intro h r;refine Ja ?_;intros;refine Yd (Jl9 x) fun h=>?_;by_cases h7:x.flags=1
   ·rw [if_pos h7];refine Ja ?_;intros;refine Ys fun o=>?_;rw [if_pos h7];exact ⟨none,0,X,A,rfl,rfl,nil o.sub⟩
   ·rw [if_neg h7];refine Ja ?_;intros;refine Ys fun o=>?_;rw [if_neg h7];exact ⟨none,0,X,A,rfl,rfl,nil o.sub⟩
  by_cases h8:x.kind=1
  ·by_cases h9:q.writers=0
   ·rw [if_pos ⟨h8,h9⟩];refine Yv ?_;refine Yb (Yt (by simpa using h8) ?_);refine Jb ?_;intros;refine Yv ?_;refine Yt (by simpa using h9) ?_;refine Ja ?_;intros;refine Ys fun o=>?_;exact ⟨none,0,X,A,rfl,rfl,nil o.sub⟩
   ·rw [if_neg (fun h=>h9 h.2)];refine Yv ?_;refine Yb (Yt (by simpa using h8) ?_);refine Jb ?_;intros;refine Yv ?_;refine Yf (by simpa using h9) ?_;refine Jb ?_;intros;refine Yt (by simpa using h6) ?_;exact hw
  ·rw [if_neg (fun h=>h8 h.1)];refine Yv ?_;refine Yb (Yf (by simpa using h8) ?_);refine Yv ?_;refine Yf rfl ?_;refine Jb ?_;intros;refine Yt (by simpa using h6) ?_;exact hw
 rw [if_neg h6];refine Yb (Yf (by simpa using h6) ?_);refine Yv ?_;refine Yb (Yf rfl ?_);refine Yv ?_;refine Yf rfl ?_;refine Jb ?_;intros;refine Yf (by simpa using h6) ?_;refine Ja ?_;intros;refine Yc (Jp2 q hq n hnn) ?_;rintro _ h ⟨a,cap,rfl,o⟩;refine Jh o ?_;have hm:min n.toNat q.count.toNat≤q.count.toNat:=by omega
 have hlen:((Bo3 q).take (min n.toNat q.count.toNat)).length=min n.toNat q.count.toNat:=by
  rw [List.length_take,I50];omega
 rw [hlen];have hok:=Jl0 hq hm;generalize min n.toNat q.count.toNat=m at *;obtain ⟨w1,_⟩:=Be9 A.c (i:=x.pipe) (by omega) hok;have hwp:=A.wp hpx hok;have hvt:=Jv9 A.c (i:=x.pipe) (by omega) hok;generalize Em2 q m=q2 at *
 have hfv:(Be2 q (Hh6 b b2))[36]?=some (Hh6 b b2):=by
  unfold Be2;rw [List.getElem?_append_right (by rw [Bi4 q.len];exact Nat.le_refl _),Bi4 q.len];rfl
 refine Jc ?_;intros;refine Yn fun b4 h=>?_;refine Ja ?_;intros;simp only [List.nil_append];refine Yd (J05 c k b b2 F X ok x q2) fun h=>?_;rw [w1];dsimp only;refine Ja ?_;intros;refine Ys fun o=>?_;exact ⟨a,cap,Bj8 X x.pipe q2,hwp,hvt,rfl,o.sub⟩
structure WrS where
 n:Int
 e:Int
 blk:Bool
def FiJ (c k:Nat) (F:Fr) (X:CX) (V':VW) (i op a b:Int) (d:List UInt8) (n e:Int) (bs:List UInt8) (blk:Bool):Prop:=∀ (da:Option Addr) (dc:Nat),
 Ct B0 Bm9 [P0 c,int i,.agg ⟨[int op,int a,int b,.slice da d.length dc]⟩] [cmC c k F X,dC da dc d] fun v own=>∃ x cap X',See X' V'∧v=.tuple ⟨[.agg ⟨[int n,int e,.slice x bs.length cap,.bool blk]⟩,.bool true]⟩∧own [cmC c k F X',dC x cap bs,dC da dc d]
def DoJ (c k:Nat) (F:Fr) (X:CX) (V':VW) (i op a b:Int) (d:List UInt8) (n e:Int) (bs:List UInt8) (blk:Bool):Prop:=∀ (da:Option Addr) (dc:Nat),
 Ct B0 D63 [P0 c,int i,.agg ⟨[int op,int a,int b,.slice da d.length dc]⟩] [cmC c k F X,dC da dc d] fun v own=>∃ x cap X',See X' V'∧v=.agg ⟨[int n,int e,.slice x bs.length cap,.bool blk]⟩∧own [cmC c k F X',dC x cap bs,dC da dc d]
theorem Bh5 {l:List HP} {h:H} {α:Type} {Q:α→H→Prop} {z:Option (α × H)} (t:Tr (dC none 0 []::l) h z Q):Tr l h z Q:=G0 false A9 1 (by omega) t
theorem Ds1 {c:Nat} {i:Int} {op:Int} (ho:op<9∨16<op) (a b:Int) (da:Option Addr) (dn dc:Nat):Ct B0 Bm9 [P0 c,int i,.agg ⟨[int op,int a,int b,.slice da dn dc]⟩] [] fun v own=>v=.tuple ⟨[.agg ⟨I2 0 0 false⟩,.bool false]⟩∧own []:=by
 refine Co D15 (fun _=>D13 ..) fun h r=>?_;refine Yn fun b1 h=>?_;refine Yn fun b2 h=>?_;refine Jc ?_;unhygienic intros;refine Yf (by simp;omega) ?_;refine Yf (by simp;omega) ?_;refine Yf (by simp;omega) ?_;refine Yf (by simp;omega) ?_;refine Yf (by simp;omega) ?_;refine Yf (by simp;omega) ?_;refine Yf (by simp;omega) ?_;refine Yf (by simp;omega) ?_;refine Jc ?_;unhygienic intros;exact Yz
section
variable {c k:Nat} {F:Fr} {X:CX} {V V':VW} (ok:FrOk F) (A:See X V) {i:Int} (hi:0≤i∧i<8) {n e:Int}
include ok A hi
theorem Iy4 (hR:Gt0 V i=(I2 n e false,V')) (a b:Int) (d:List UInt8):FiJ c k F X V' i 9 a b d n e [] false:=by
 intro da dc;have P:=A.pipe hi;rw [hR] at P;refine Co D15 (fun _=>D13 ..) fun h r=>?_;refine Yn fun b1 h=>?_;refine Yn fun b2 h=>?_;refine Jd ?_;unhygienic intros;refine Yd (Jr4 c k F X ok A.c i hi) fun h=>?_;rw [P.1];refine Jc ?_;unhygienic intros;refine Bh5 ?_;refine Ys fun o=>?_;exact ⟨none,0,_,P.2,rfl,o.sub⟩
theorem H75 {op a b:Int} {d bs:List UInt8} {blk:Bool} (J:FiJ c k F X V' i op a b d n e bs blk):DoJ c k F X V' i op a b d n e bs blk:=by
 intro da dc;have J:=J da dc;refine Co Bk2 (fun _=>Bk3 ..) fun h r=>?_;refine Yn fun b1 h=>?_;refine Yn fun b2 h=>?_;refine Yd (Ag5 c k F X ok) fun h=>?_;rw [Q8 A.c];refine Jc ?_;unhygienic intros;refine Yc (J) ?_;rintro _ h ⟨x,cap,X',A',rfl,o⟩<;>refine Jh o ?_;refine Jc ?_;unhygienic intros;refine Yn fun b3 h=>?_;refine Jc ?_;unhygienic intros;refine Ys fun o=>?_;exact ⟨x,cap,X',A',rfl,o.sub⟩
theorem I49 (fd m:Int) (d:List UInt8) {bs:List UInt8} {blk:Bool} (h3:(ofW V i fd).1.2.kind≠3) (hp:(Ae5 V i fd m).2=0→0≤(Ae5 V i fd m).1.pipe∧(Ae5 V i fd m).1.pipe<6)
  (hR:Df1 V i fd m=(⟨bs,e,blk⟩,V')):FiJ c k F X V' i 10 fd m d bs.length e bs blk:=by
 intro da dc;have P:=Jm9 c k F X ok V A i fd m hi h3 hp;rw [hR] at P;refine Co D15 (fun _=>D13 ..) fun h r=>?_;refine Yn fun b1 h=>?_;refine Yn fun b2 h=>?_;refine Jd ?_;unhygienic intros;refine Yc (P) ?_;rintro _ h ⟨x,cap,X',A',_,rfl,o⟩<;>refine Jh o ?_;refine Jc ?_;unhygienic intros;refine Ys fun o=>?_;exact ⟨x,cap,X',A',rfl,o.sub⟩
theorem Jz4 (a b:Int) (d:List UInt8) (hR:Gq6 V i=(I2 n e false,V')):DoJ c k F X V' i 2 a b d n e [] false:=by
 intro da dc;have P:=A.fork hi;rw [hR] at P;refine Co Bk2 (fun _=>Bk3 ..) fun h r=>?_;refine Yn fun b1 h=>?_;refine Yn fun b2 h=>?_;refine Yd (Ag5 c k F X ok) fun h=>?_;rw [Q8 A.c];refine Jc ?_;unhygienic intros;refine Yd (Ds1 (by omega) a b da d.length dc) fun h=>?_;refine Jc ?_;unhygienic intros;refine Yn fun b3 h=>?_;refine Jd ?_;unhygienic intros;refine Yd (Jz8 c k F X ok A.c i hi) fun h=>?_;rw [P.1];refine Jc ?_;unhygienic intros;refine Bh5 ?_;refine Ys fun o=>?_;exact ⟨none,0,_,P.2,rfl,o.sub⟩
theorem J36 {p:ProcS} (hq:Qt V i p) (a b:Int) (d:List UInt8):DoJ c k F X V i 1 a b d i 0 [] false:=by
 intro da dc;have es:=A.self hi;have e2:S6 V i=(p,0):=by unfold S6;rw [hq.v,if_pos ⟨rfl,hq.s⟩]
 rw [e2] at es;refine Co Bk2 (fun _=>Bk3 ..) fun h r=>?_;refine Yn fun b1 h=>?_;refine Yn fun b2 h=>?_;refine Yd (Ag5 c k F X ok) fun h=>?_;rw [Q8 A.c];refine Jc ?_;unhygienic intros;refine Yd (Ds1 (by omega) a b da d.length dc) fun h=>?_;refine Jc ?_;unhygienic intros;refine Yn fun b3 h=>?_;refine Jd ?_;unhygienic intros;refine Yc (?_:Ct B0 W9 [P0 c,int i,.agg ⟨[int 1,int a,int b,.slice da d.length dc]⟩] [cmC c k F X] fun v own=>v=.agg ⟨I2 i 0 false⟩∧own [cmC c k F X]) ?_
 ·refine Co B56 (fun _=>Er2 ..) fun h r=>?_;refine Yn fun b1 h=>?_;refine Yn fun b2 h=>?_;refine Yd (B02 c k F X ok A.c i hi) fun h=>?_;rw [es];refine Jc ?_;unhygienic intros;refine Yn fun b3 h=>?_;refine Jd ?_;unhygienic intros;exact Yz
 rintro _ h ⟨rfl,o⟩;refine (?_:Tr _ _ _ _) o;refine Je ?_;refine Jc ?_;unhygienic intros;refine Bh5 ?_;refine Ys fun o=>?_;exact ⟨none,0,X,A,rfl,o.sub⟩
end
theorem Hq6 (k:Nat) (S:KS) (A:KA) (s:Nat) (x:Nat) (hs:s<S.sects.length) (hx:A.ss[s]?=some x):CtP B0 Ad9 [P0 k,int s] (At4 k S A) (P0 x):=by
 obtain ⟨m,s',q,rg,ea,ec,ma,mc,ms,sa,sc,ss⟩:=A;simp only at hx;have hg:(ss.map P0)[s]?=some (.pointer (some ⟨x,0,none⟩)):=by rw [List.getElem?_map,hx];rfl
 refine CtP.of Eb7 rfl fun h r=>Tr.eq (Eg4 ..) ?_;refine Je ?_;refine Tr.orG (c:=false) (fun hb=>?_) ?_
 ·refine Ja ?_;unhygienic intros;refine Ys fun o=>?_;exact ⟨decide_eq_false (by omega),rfl⟩
 refine Yf rfl ?_;rw [Int.toNat_natCast];exact Jz
theorem H43 {l r:List HP} {h:H} {α:Type} {Q:α→H→Prop} {kk:Bool→H→Option (α × H)} {S:KS} (B:Base S) (k q:Nat) (j:Int) (y:HoS) (da:Option Addr) (dc:Nat) (T:SectS) (t:Int) (m:List (List UInt8)) [tk:Takes [kmC S k T t m,pt q (.cells A03 false (hoL k j y da dc))] l r]
  (tt:Tr (kmC S k T t m::pt q (.cells A03 false (hoL k j y da dc))::r) h (kk (W6 T j y.stamp) h) Q) :
  Tr l h (bnd (B0 Ad9 [P0 k,int 0] h) fun r hv=>aPtr r fun x4=>NN.gInt .i64 ⟨q,1,none⟩ hv fun x5=>same (int j) (int x5) (NN.gInt .i64 ⟨q,6,none⟩ hv fun x6=>same (int y.stamp) (int x6) (bnd (B0 An2 [.pointer x4,int j,int y.stamp] hv) fun r1 hv3=>aBool r1 fun x7=>kk x7 hv3))) Q:=fun ow=>by
 have ow:=ow.perm tk.pm;revert ow;show Tr (kmC S k T t m::pt q (.cells A03 false (hoL k j y da dc))::r) h _ Q
 have hlt:0<(N0 (SH S T t) (Y3 S.mem (rgP 0) m)).sects.length:=by
  show 0<(S.sects.set 0 T).length;rw [List.length_set,B.sects];decide
 have hT:(N0 (SH S T t) (Y3 S.mem (rgP 0) m)).sects[0]?=some T:=by
  show (S.sects.set 0 T)[0]?=some T;rw [B.sects];rfl
 refine B6 (kmC S k T t m) fun u=>?_;refine Je ?_;generalize hK:N0 (SH S T t) (Y3 S.mem (rgP 0) m)=K at hlt hT ⊢;refine B6 (E1 k K) fun A=>?_;refine Je ?_;refine P9 10 rfl fun hA=>?_;obtain ⟨x,hx⟩:∃ x,A.ss[0]?=some x:=⟨A.ss[0]'(by omega),List.getElem?_eq_getElem _⟩
 refine Tr.pcall (Hq6 k K A 0 x hlt hx) ?_;refine Ja ?_;unhygienic intros;refine Aj4 L1 A.ss K.sects hx hT ?_;refine Tr.pcall (H12 x T j y.stamp) ?_;refine Ja ?_;unhygienic intros;refine Av1 L1 A.ss K.sects 0 hx hT ?_;refine B1 (E1 k K) A ?_;refine Je ?_;subst hK;refine B1 (kmC S k T t m) () ?_;refine Je ?_;exact tt
theorem Ig5 (q k:Nat) (j:Int) (y:HoS) (da:Option Addr) (dc:Nat) (n e:Int) (xa:Option Addr) (xn xc:Nat) (blk:Bool) :
  Ct B0 A40 [P0 q,.agg ⟨[int n,int e,.slice xa xn xc,.bool blk]⟩] [pt q (.cells A03 false (hoL k j y da dc))] fun v own=>v=.agg ⟨Ev2 0 j y.op y.a y.b da y.d.length dc n e xa xn xc true⟩∧own [pt q (.cells A03 false (hoL k j y da dc))]:=by
 refine Co G25 (fun _=>G57 ..) fun h r=>?_;refine Yn fun b1 h=>?_;refine Yn fun b2 h=>?_;refine Jc ?_;unhygienic intros;exact Yz
abbrev E29:Value:=.tuple ⟨[.agg ⟨Ev2 0 0 0 0 0 none 0 0 0 0 none 0 0 false⟩,.bool false]⟩
section
variable {S:KS} (B:Base S) (q k N:Nat) {j:Int} (hj:0≤j∧j<4) (y:HoS) (T:SectS) (t:Int) (ok:TOk N T t) {X:CX} {V:VW} (A:See X V)
include B hj ok A
theorem Jw9 (hh:W6 T j y.stamp=true) {V':VW} {n e:Int} {bs:List UInt8} (J:DoJ y.c k (frH S T t N j) X V' j y.op y.a y.b y.d n e bs false) (h3:y.op≠3) (okL:TOk N (E2 T j y.stamp) t) {p:ProcS} (hp:Qt V' j p) :
  Ct B0 Be5 [P0 q] [hoC q k j y,kmC S k T t X.m] fun v own=>∃ da dc x cap X',See X' V'∧v=.tuple ⟨[.agg ⟨Ev2 0 j y.op y.a y.b da y.d.length dc n e x bs.length cap true⟩,.bool true]⟩ ∧
   own [hoC q k j { y with phase:=0 },kmC S k (E2 T j y.stamp) t X'.m,dC x cap bs]:=by
 refine Co Ew6 (fun _=>Ev8 ..) fun h r=>?_;refine Yn fun b1 h=>?_;refine B6 (hoC q k j y) fun ⟨ha,hc⟩=>?_;refine Je ?_;refine Jc ?_;unhygienic intros;refine H43 B k q j y ha hc T t X.m ?_;rw [hh];refine Yf rfl ?_;refine Jc ?_;unhygienic intros;refine Yn fun b2 h=>?_;refine B04 S y.c k N T t j X.m ?_;rw [A.eX];refine Yc (J ha hc) ?_;rintro _ h ⟨x,cap,X',A',rfl,o⟩<;>refine Jh o ?_;refine Jc ?_;unhygienic intros;refine Bt6 S y.c k N T t j X' A'.c.bad ?_;refine B1 (hoC q k j y) (ha,hc) ?_;refine Je ?_;refine Yd (Hu9 B q k N hj y T t X'.m ok 0) fun h=>?_;refine Jc ?_;unhygienic intros;refine B6 (hoC q k j { y with phase:=0 }) fun ⟨ga,gc⟩=>?_;refine Je ?_;refine Yd (Ig5 q k j { y with phase:=0 } ga gc n e x bs.length cap false) fun h=>?_;refine Jc ?_;unhygienic intros;refine Yn fun b3 h=>?_;refine Jc ?_;unhygienic intros;refine Yt (by simpa using h3) ?_;refine Jc ?_;unhygienic intros;refine B1 (hoC q k j { y with phase:=0 }) (ga,gc) ?_;refine Je ?_;refine Yc (Jk8 B q k N hj { y with phase:=0 } (E2 T j y.stamp) t okL A' hp 0 j y.op y.a y.b ga y.d.length gc n e x bs.length cap true) ?_;rintro _ h ⟨X2,A2,rfl,o⟩<;>refine Jh o ?_;refine Jc ?_;unhygienic intros;refine Ys fun o=>?_;exact ⟨ga,gc,x,cap,X2,A2,rfl,o.sub⟩
theorem Jy6 (hh:W6 T j y.stamp=true) {V':VW} {n e:Int} {bs:List UInt8} (J:DoJ y.c k (frH S T t N j) X V' j y.op y.a y.b y.d n e bs true) :
  Ct B0 Be5 [P0 q] [hoC q k j y,kmC S k T t X.m] fun v own=>∃ X',See X' V'∧v=E29∧own [hoC q k j { y with phase:=3 },kmC S k (E2 T j y.stamp) t X'.m]:=by
 refine Co Ew6 (fun _=>Ev8 ..) fun h r=>?_;refine Yn fun b1 h=>?_;refine B6 (hoC q k j y) fun ⟨ha,hc⟩=>?_;refine Je ?_;refine Jc ?_;unhygienic intros;refine H43 B k q j y ha hc T t X.m ?_;rw [hh];refine Yf rfl ?_;refine Jc ?_;unhygienic intros;refine Yn fun b2 h=>?_;refine B04 S y.c k N T t j X.m ?_;rw [A.eX];refine Yc (J ha hc) ?_;rintro _ h ⟨x,cap,X',A',rfl,o⟩<;>refine Jh o ?_;refine Jc ?_;unhygienic intros;refine Bt6 S y.c k N T t j X' A'.c.bad ?_;refine B1 (hoC q k j y) (ha,hc) ?_;refine Je ?_;refine Yd (Hu9 B q k N hj y T t X'.m ok 3) fun h=>?_;refine Jc ?_;unhygienic intros;refine Ys fun o=>?_;exact ⟨X',A',rfl,o.sub⟩
end
section
variable {S:KS} (B:Base S) (q k N:Nat) {j:Int} (hj:0≤j∧j<4) (y:HoS) (T:SectS) (t:Int) (ok:TOk N T t) {X:CX} {V:VW} (A:See X V) {p:ProcS} (hp:Qt V j p)
include B hj ok A hp
theorem Gi2 (h0:y.phase=1):Ct B0 L9 [P0 q] [hoC q k j y,kmC S k T t X.m] fun v own=>v=E29∧own [hoC q k j (Gt4 y (D0 T j t).1.1),kmC S k (D0 T j t).2 t X.m]:=by
 have fo:=A71 B ok (Dq7 hj);have e0:=A.s j (by omega);rw [hp.v] at e0;refine Co A21 (fun _=>A23 ..) fun h r=>?_;refine Yn fun b1 h=>?_;refine B6 (hoC q k j y) fun ⟨ha,hc⟩=>?_;refine Je ?_;refine Jc ?_;unhygienic intros;refine B04 S y.c k N T t j X.m ?_;rw [A.eX];refine Yd (Ag5 y.c k (frH S T t N j) X fo) fun h=>?_;rw [Q8 A.c];refine Jc ?_;unhygienic intros;refine Yn fun b2 h=>?_;refine Yd (Aa6 y.c k (frH S T t N j) X fo j) fun h=>?_;rw [O8 A.c (by omega),e0];dsimp only;refine Jc ?_;unhygienic intros;refine Yf rfl ?_;refine Yb (Yf rfl ?_);refine Jb ?_;unhygienic intros;refine Yv ?_;rw [hp.s];refine Yf rfl ?_;refine Jb ?_;unhygienic intros;rw [hp.s];refine Yf rfl ?_;refine Jb ?_;unhygienic intros;rw [h0];refine Bt6 S y.c k N T t j X A.c.bad ?_;refine B1 (hoC q k j y) (ha,hc) ?_;refine Je ?_;refine Yt rfl ?_;refine Yd (Jj5 B q k N hj y T t X.m ok) fun h=>?_;refine Jc ?_;unhygienic intros;exact Yz
theorem Ha0 (h0:y.phase=2) (hh:W6 T j y.stamp=true) {V':VW} {n e:Int} {bs:List UInt8} (J:DoJ y.c k (frH S T t N j) X V' j y.op y.a y.b y.d n e bs false) (h3:y.op≠3) (okL:TOk N (E2 T j y.stamp) t) {p':ProcS} (hp':Qt V' j p') :
  Ct B0 L9 [P0 q] [hoC q k j y,kmC S k T t X.m] fun v own=>∃ da dc x cap X',See X' V'∧v=.tuple ⟨[.agg ⟨Ev2 0 j y.op y.a y.b da y.d.length dc n e x bs.length cap true⟩,.bool true]⟩ ∧
   own [hoC q k j { y with phase:=0 },kmC S k (E2 T j y.stamp) t X'.m,dC x cap bs]:=by
 have fo:=A71 B ok (Dq7 hj);have e0:=A.s j (by omega);rw [hp.v] at e0;refine Co A21 (fun _=>A23 ..) fun h r=>?_;refine Yn fun b1 h=>?_;refine B6 (hoC q k j y) fun ⟨ha,hc⟩=>?_;refine Je ?_;refine Jc ?_;unhygienic intros;refine B04 S y.c k N T t j X.m ?_;rw [A.eX];refine Yd (Ag5 y.c k (frH S T t N j) X fo) fun h=>?_;rw [Q8 A.c];refine Jc ?_;unhygienic intros;refine Yn fun b2 h=>?_;refine Yd (Aa6 y.c k (frH S T t N j) X fo j) fun h=>?_;rw [O8 A.c (by omega),e0];dsimp only;refine Jc ?_;unhygienic intros;refine Yf rfl ?_;refine Yb (Yf rfl ?_);refine Jb ?_;unhygienic intros;refine Yv ?_;rw [hp.s];refine Yf rfl ?_;refine Jb ?_;unhygienic intros;rw [hp.s];refine Yf rfl ?_;refine Jb ?_;unhygienic intros;rw [h0];refine Bt6 S y.c k N T t j X A.c.bad ?_;refine B1 (hoC q k j y) (ha,hc) ?_;refine Je ?_;refine Yf rfl ?_;refine Yt rfl ?_;refine Yc (Jw9 B q k N hj y T t ok A hh J h3 okL hp') ?_;rintro _ h ⟨da,dc,x,cap,X',A',rfl,o⟩<;>refine Jh o ?_;refine Jc ?_;unhygienic intros;refine Ys fun o=>?_;exact ⟨da,dc,x,cap,X',A',rfl,o.sub⟩
theorem I02 (h0:y.phase=2) (hh:W6 T j y.stamp=true) {V':VW} {n e:Int} {bs:List UInt8} (J:DoJ y.c k (frH S T t N j) X V' j y.op y.a y.b y.d n e bs true) :
  Ct B0 L9 [P0 q] [hoC q k j y,kmC S k T t X.m] fun v own=>∃ X',See X' V'∧v=E29∧own [hoC q k j { y with phase:=3 },kmC S k (E2 T j y.stamp) t X'.m]:=by
 have fo:=A71 B ok (Dq7 hj);have e0:=A.s j (by omega);rw [hp.v] at e0;refine Co A21 (fun _=>A23 ..) fun h r=>?_;refine Yn fun b1 h=>?_;refine B6 (hoC q k j y) fun ⟨ha,hc⟩=>?_;refine Je ?_;refine Jc ?_;unhygienic intros;refine B04 S y.c k N T t j X.m ?_;rw [A.eX];refine Yd (Ag5 y.c k (frH S T t N j) X fo) fun h=>?_;rw [Q8 A.c];refine Jc ?_;unhygienic intros;refine Yn fun b2 h=>?_;refine Yd (Aa6 y.c k (frH S T t N j) X fo j) fun h=>?_;rw [O8 A.c (by omega),e0];dsimp only;refine Jc ?_;unhygienic intros;refine Yf rfl ?_;refine Yb (Yf rfl ?_);refine Jb ?_;unhygienic intros;refine Yv ?_;rw [hp.s];refine Yf rfl ?_;refine Jb ?_;unhygienic intros;rw [hp.s];refine Yf rfl ?_;refine Jb ?_;unhygienic intros;rw [h0];refine Bt6 S y.c k N T t j X A.c.bad ?_;refine B1 (hoC q k j y) (ha,hc) ?_;refine Je ?_;refine Yf rfl ?_;refine Yt rfl ?_;refine Yc (Jy6 B q k N hj y T t ok A hh J) ?_;rintro _ h ⟨X',A',rfl,o⟩<;>refine Jh o ?_;refine Jc ?_;unhygienic intros;refine Ys fun o=>?_;exact ⟨X',A',rfl,o.sub⟩
theorem Gn4 (h0:y.phase=0) (op a b:Int) (pb:HP) (da:Option Addr) (ro:Bool) (dc:Nat) (d:List UInt8) (hd:d.length≤B3) [ks:IsSl pb da ro A9 1 d.length dc (A0 d)] :
  Ct B0 Af2 [P0 q,.agg ⟨[int op,int a,int b,.slice da d.length dc]⟩] [hoC q k j y,kmC S k T t X.m,pb] fun v own=>v=.bool true∧own [hoC q k j { y with phase:=1,op:=op,a:=a,b:=b,d:=d },kmC S k T t X.m,pb]:=by
 have fo:=A71 B ok (Dq7 hj);have e0:=A.s j (by omega);rw [hp.v] at e0;refine Co D30 (fun _=>D46 ..) fun h r=>?_;refine Yn fun b1 h=>?_;refine B6 (hoC q k j y) fun ⟨ha,hc⟩=>?_;refine Je ?_;refine Jc ?_;unhygienic intros;refine B04 S y.c k N T t j X.m ?_;rw [A.eX];refine Yd (Ag5 y.c k (frH S T t N j) X fo) fun h=>?_;rw [Q8 A.c];refine Jc ?_;unhygienic intros;rw [h0];refine Yf rfl ?_;refine Jc ?_;unhygienic intros;refine Yn fun b2 h=>?_;refine Yd (Aa6 y.c k (frH S T t N j) X fo j) fun h=>?_;rw [O8 A.c (by omega),e0];dsimp only;refine Jc ?_;unhygienic intros;refine Yf (by simp [hp.s]) ?_;refine Jc ?_;unhygienic intros;refine Bt6 S y.c k N T t j X A.c.bad ?_;refine Yc (Hp4 pb ro da dc d hd) ?_;rintro _ h ⟨xa,xc,rfl,o⟩<;>refine Jh o ?_;refine Jc ?_;unhygienic intros;simp only [List.set_cons_zero,List.set_cons_succ];refine Jc ?_;unhygienic intros;simp only [List.take_succ_cons,List.take_zero,List.drop_zero];refine Jc ?_;unhygienic intros;simp only [List.take_succ_cons,List.take_zero,List.drop_zero,List.drop_succ_cons,List.drop_nil,List.nil_append,List.append_nil,List.cons_append,List.length_cons,List.length_nil,Nat.zero_add,Nat.reduceAdd];refine B1 (hoC q k j { y with phase:=1,op:=op,a:=a,b:=b,d:=d }) (xa,xc) ?_;refine Je ?_;exact Yz
end
theorem spN {S:KS} (B:Base S) {j:Int} (hj:0≤j∧j<4):A16 S.tabs j=[256,257,258]:=by
 rw [B.like.tabs];obtain rfl|rfl|rfl|rfl:j=0∨j=1∨j=2∨j=3:=by omega
 all_goals kernel_rfl
section
variable {S:KS} (B:Base S) (k N:Nat) {j:Int} (hj:0≤j∧j<4) (T:SectS) (t:Int) (ok:TOk N T t) (m:List (List UInt8))
include B hj ok
theorem E14:Ct B0 Au4 [P0 k,int j] [kmC S k T t m] fun v own=>∃ c,v=.tuple ⟨[P0 c,int 0]⟩∧own [kmC S k T t m,c3C c k j []]:=by
 intro h r o;obtain ⟨u,o1⟩:=Own.unfold (kmC S k T t m) o;have f:Fit S.mem.length (rgP 0) m:=(o1.picks [1] rfl).pure;have J:=Iu1 k (N0 (SH S T t) (Y3 S.mem (rgP 0) m)) N (kmN B ok f) j;rw [show A16 (N0 (SH S T t) (Y3 S.mem (rgP 0) m)).tabs j=[256,257,258] from spN B hj] at J;obtain ⟨v,h',e,hv⟩:=J h _ (o1.picks [0] rfl);rcases hv with ⟨_,c,rfl,o2⟩|⟨hn,_⟩
 ·have o3:Own h' (c3C c k j []::E1 k (N0 (SH S T t) (Y3 S.mem (rgP 0) m))::pu (Fit S.mem.length (rgP 0) m)::r):=o2;exact ⟨_,h',e,c,rfl,Own.shut (f:=fun _:Unit=>kmF S k T t m) () (o3.picks [1,1] rfl)⟩
 ·cases hn
theorem Jw3:Ct B0 A92 [P0 k,int j,int j,int 0] [kmC S k T t m] fun v own=>∃ q c,v=.tuple ⟨[P0 q,int 0]⟩∧own [hoC q k j ⟨c,0,0,0,0,0,[]⟩,kmC S k T t m]:=by
 refine Co E31 (fun _=>E34 ..) fun h r=>?_;refine Yc (E14 B k N hj T t ok m) ?_;rintro _ h ⟨c,rfl,o⟩<;>refine Jh o ?_;refine Jb ?_;unhygienic intros;refine Yb (Yf (decide_eq_false (by omega)) ?_);refine Jb ?_;unhygienic intros;refine Yv ?_;refine Yf (decide_eq_false (by omega)) ?_
 have hlt:0<(N0 (SH S T t) (Y3 S.mem (rgP 0) m)).sects.length:=by
  show 0<(S.sects.set 0 T).length;rw [List.length_set,B.sects];decide
 refine B6 (kmC S k T t m) fun u=>?_;refine Je ?_;generalize hK:N0 (SH S T t) (Y3 S.mem (rgP 0) m)=K at hlt;refine B6 (E1 k K) fun A=>?_;refine Je ?_;refine P9 10 rfl fun hA=>?_;obtain ⟨x,hx⟩:∃ x,A.ss[0]?=some x:=⟨A.ss[0]'(by omega),List.getElem?_eq_getElem _⟩
 refine Tr.pcall (Hq6 k K A 0 x hlt hx) ?_;refine Jc ?_;unhygienic intros;refine B1 (E1 k K) A ?_;refine Je ?_;subst hK;refine B1 (kmC S k T t m) () ?_;refine Je ?_;refine Yn fun q h=>?_;refine Bh5 ?_;refine B1 (hoC q k j ⟨c,0,0,0,0,0,[]⟩) (none,0) ?_;refine Je ?_;refine Ys fun o=>?_;exact ⟨q,c,rfl,o.sub⟩
theorem Jb1 (q:Nat) (y:HoS) (h0:y.phase=0):Ct B0 Bd0 [P0 q] [hoC q k j y,kmC S k T t m] fun v own=>∃ c,v=.tuple ⟨[]⟩∧own [hoC q k j { y with c:=c },kmC S k T t m]:=by
 refine Co Gx1 (fun _=>Gu9 ..) fun h r=>?_;refine Yc (?_:Ct B0 A29 [P0 q] [hoC q k j y] fun v own=>v=.tuple ⟨[]⟩∧own [hoC q k j y]) ?_
 ·refine Co G35 (fun _=>G38 ..) fun h r=>?_;refine B6 (hoC q k j y) fun ⟨ha,hc⟩=>?_;refine Je ?_;refine Jb ?_;unhygienic intros;rw [h0];refine Yb (Yf rfl ?_);refine Jb ?_;unhygienic intros;refine Yv ?_;rw [h0];refine Yf rfl ?_;refine Jc ?_;unhygienic intros;simp only [List.set_cons_zero,List.set_cons_succ];refine (?_:Tr (pt q (.cells A03 false (hoL k j { y with phase:=0 } ha hc))::_) _ _ _);rw [← h0];refine B1 (hoC q k j y) (ha,hc) ?_;refine Je ?_;exact Yz
 rintro _ h ⟨rfl,o⟩;refine (?_:Tr _ _ _ _) o;refine Je ?_;refine B6 (hoC q k j y) fun ⟨ha,hc⟩=>?_;refine Je ?_;refine Jc ?_;unhygienic intros;refine Yc (E14 B k N hj T t ok m) ?_;rintro _ h ⟨c,rfl,o⟩<;>refine Jh o ?_;refine Jc ?_;unhygienic intros;simp only [List.set_cons_zero,List.set_cons_succ];refine B1 (hoC q k j { y with c:=c }) (ha,hc) ?_;refine Je ?_;refine Ys fun o=>?_;exact ⟨c,rfl,o.sub⟩
end
theorem Ii5 (w:Nat) (K:RKS) (kK:RKOk K) (e:Nat) (he:e<K.B.envs.length):Ct B0 Br6 [P0 w,int (e:Nat),int (e:Nat),int 0] [rkC w K] fun v own=>∃ b,v=P0 b∧own [rkC w K]:=by
 refine Co Hc1 (fun _=>G90 ..) fun h r=>?_;refine Yc (Ex6 w K kK e he) ?_;rintro _ h (⟨_,m,rfl,o⟩|⟨_,rfl,o⟩)
 ·refine (?_:Tr _ _ _ _) o;refine Je ?_;refine Jc ?_;unhygienic intros;refine Yn fun b1 h=>?_;refine Ys fun o=>?_;exact ⟨b1,rfl,o.sub⟩
 ·refine (?_:Tr _ _ _ _) o;refine Je ?_;refine Jc ?_;unhygienic intros;refine Yn fun b1 h=>?_;refine Ys fun o=>?_;exact ⟨b1,rfl,o.sub⟩
theorem Du2 {S:KS} (B:Base S) {r:List HP} {h:H} {Q:Value→H→Prop} (k w N:Nat) (K:RKS) (kK:RKOk K) (hB:K.B.envs.length=18) (T:SectS) (t:Int) (ok:TOk N T t) (m:List (List UInt8)) (i:Nat) (hi:i<4) (qs ms:List Nat) (hq:qs.length=i) (hm:ms.length=i) (a1 a2:Option Addr) (c1 c2:Nat)
  (next:∀ q c b a1 c1 a2 c2 h,Tr (kmC S k T t m::rkC w K::slC false J9 1 a1 (qs++[q]).length c1 ((qs++[q]).map P0)::slC false Aq0 1 a2 (ms++[b]).length c2 ((ms++[b]).map P0)::hoC q k (i:Nat) ⟨c,0,0,0,0,0,[]⟩::r) h
   (H0 Ah7 A77 [(4,P0 k),(6,P0 w),(8,.slice a1 (qs++[q]).length c1),(9,.slice a2 (ms++[b]).length c2),(10,int ((i+1:Nat):Int))] h) Q) :
  Tr (kmC S k T t m::rkC w K::slC false J9 1 a1 qs.length c1 (qs.map P0)::slC false Aq0 1 a2 ms.length c2 (ms.map P0)::r) h (H0 Ah7 A77 [(4,P0 k),(6,P0 w),(8,.slice a1 qs.length c1),(9,.slice a2 ms.length c2),(10,int (i:Nat))] h) Q:=by
 have e1:=wN i;refine Yj Ed8 (Eo3 ..) ?_;refine Yt (by simp;omega) ?_;refine Yc (Jw3 B k N (j:=(i:Nat)) (by omega) T t ok m) ?_;rintro _ h ⟨q,c,rfl,o⟩<;>refine Jh o ?_;refine Jb ?_;unhygienic intros;refine Yb (Yf rfl ?_);refine Jb ?_;unhygienic intros;refine Yv ?_;refine Yf rfl ?_;refine Yn fun b1 h=>?_;refine Jc ?_;unhygienic intros;refine Tr.xApd ?_ (fun x1 y1 h=>?_);exact ⟨by first|rfl|simp,by first|rfl|simp,by simp only [B3];omega⟩;refine Je ?_;refine Yc (Ii5 w K kK i (by omega)) ?_;rintro _ h ⟨b,rfl,o⟩<;>refine Jh o ?_;refine Jc ?_;unhygienic intros;refine Yn fun b2 h=>?_;refine Jc ?_;unhygienic intros;refine Tr.xApd ?_ (fun x2 y2 h=>?_);exact ⟨by first|rfl|simp,by first|rfl|simp,by simp only [B3];omega⟩;refine Je ?_;have nx:=next q c b x1 y1 x2 y2 h
 simp only [List.length_append,List.length_cons,List.length_nil,Nat.zero_add,List.map_append,List.map_cons,List.map_nil] at nx;rw [e1];exact N8 [4,1,3,3,2] 2 rfl rfl nx
theorem E84:TOk 0 (I9 5) 0:=⟨Ha1 (by omega),by omega,by omega⟩
theorem Hv3:Ct B0 Ah7 [] [] fun v own=>∃ k w a ac a2 ac2 q0 q1 q2 q3 c0 c1,v=.tuple ⟨[P0 k,.slice a 4 ac,P0 w,.slice a2 4 ac2]⟩ ∧
  own [kmC S3 k (I9 5) 0 X1.m,slC false J9 1 a 4 ac [P0 q0,P0 q1,P0 q2,P0 q3],hoC q0 k 0 ⟨c0,0,0,0,0,0,[]⟩,hoC q1 k 1 ⟨c1,0,0,0,0,0,[]⟩]:=by
 refine Co Ed8 (fun _=>If2 ..) fun h r=>?_;refine Yc (Jo7) ?_;rintro _ h ⟨a,rfl,o⟩<;>refine Jh o ?_;refine Jc ?_;unhygienic intros;refine Yc (Jp7 a) ?_;rintro _ h ⟨k,c,w,m,K,⟨kK,hB⟩,rfl,o⟩;refine (?_:Tr _ _ _ _) o;refine Je ?_;refine Jb ?_;unhygienic intros
 have eF:F1=frH S3 (I9 5) 0 0 0:=by
  show (⟨S3,0,0,[256,257,258],rgP 0⟩:Fr)=⟨SH S3 (I9 5) 0,0,0,[256,257,258],rgP 0⟩;rw [Kb0 Ar4]
 rw [eF];refine Bt6 S3 c k 0 (I9 5) 0 0 X1 rfl ?_;refine G0 false J9 1 (by omega) ?_;refine G0 false Aq0 1 (by omega) ?_;have hl:K.B.envs.length=18:=by rw [hB,Bw5];rfl
 refine N8 [2,3,1,0] 2 rfl rfl ?_;refine Du2 Ar4 k w 0 K kK hl (I9 5) 0 E84 X1.m 0 (by omega) [] [] rfl rfl none none 0 0 fun q0 c0 d0 a1 n1 a2 n2 h=>?_;refine Du2 Ar4 k w 0 K kK hl (I9 5) 0 E84 X1.m 1 (by omega) [q0] [d0] rfl rfl a1 a2 n1 n2 fun q1 c1 d1 a1 n1 a2 n2 h=>?_;refine Du2 Ar4 k w 0 K kK hl (I9 5) 0 E84 X1.m 2 (by omega) [q0,q1] [d0,d1] rfl rfl a1 a2 n1 n2 fun q2 c2 d2 a1 n1 a2 n2 h=>?_;refine Du2 Ar4 k w 0 K kK hl (I9 5) 0 E84 X1.m 3 (by omega) [q0,q1,q2] [d0,d1,d2] rfl rfl a1 a2 n1 n2 fun q3 c3 d3 a1 n1 a2 n2 h=>?_;refine Yj Ed8 (Eo3 ..) ?_;refine Yf rfl ?_;refine Ys fun o=>?_;have o2:Own h (kmC S3 k (I9 5) 0 X1.m::rkC w K::slC false J9 1 a1 4 n1 [P0 q0,P0 q1,P0 q2,P0 q3]::slC false Aq0 1 a2 4 n2 [P0 d0,P0 d1,P0 d2,P0 d3]::hoC q3 k 3 ⟨c3,0,0,0,0,0,[]⟩::hoC q2 k 2 ⟨c2,0,0,0,0,0,[]⟩::hoC q1 k 1 ⟨c1,0,0,0,0,0,[]⟩::hoC q0 k 0 ⟨c0,0,0,0,0,0,[]⟩::r):=o;exact ⟨k,w,a1,n1,a2,n2,q0,q1,q2,q3,c0,c1,rfl,o2.fin [0,1,5,4] 4 rfl rfl⟩
theorem TOk.enter {N:Nat} {T:SectS} {t:Int} (k:TOk N T t) (hN:N+4<1000000000) (j:Int):TOk (N+2) (D0 T j t).2 t:=⟨Jh6 k.ok k.hN j t k.now,by omega,k.now⟩
theorem TOk.leave {N:Nat} {T:SectS} {t:Int} (k:TOk N T t) (j st:Int):TOk N (E2 T j st) t:=⟨Ja2 k.ok j st,k.hN,k.now⟩
section
variable {S:KS} (B:Base S) (hb k N:Nat) (a:Option Addr) (ac:Nat) (Q:List Nat) (i q:Nat) (hi:i<4) (hq:Q[i]?=some q) (y:HoS) (T:SectS) (t:Int) (ok:TOk N T t) (hN:N+4<1000000000) {X:CX} {V V':VW} (A:See X V) {p p':ProcS} (hp:Qt V i p)
include B hi hq ok hN A hp
end
theorem I00 (k:Nat) (S:KS) (A:KA) (s:Int) (hs:S.sects.length≤s):CtP B0 Ad9 [P0 k,int s] (At4 k S A) (.pointer none):=by
 obtain ⟨m,s',q,rg,ea,ec,ma,mc,ms,sa,sc,ss⟩:=A;refine CtP.of Eb7 rfl fun h r=>Tr.eq (Eg4 ..) ?_;refine Je ?_;refine Tr.orG (c:=true) (fun hb=>?_) ?_
 ·refine Ja ?_;unhygienic intros;refine Ys fun o=>?_;exact ⟨decide_eq_true (by omega),rfl⟩
 rw [Bool.or_true];refine Yt rfl ?_;exact Jz
section
variable {S:KS} (B:Base S) (k N:Nat) (T:SectS) (t:Int) (ok:TOk N T t)
include B ok
theorem I93 (m:List (List UInt8)):Ct B0 A92 [P0 k,int 0,int 9,int 0] [kmC S k T t m] fun v own=>v=.tuple ⟨[.pointer none,int 1]⟩∧own [kmC S k T t m]:=by
 refine Co E31 (fun _=>E34 ..) fun h r=>?_;refine Yc (E14 B k N (j:=0) (by omega) T t ok m) ?_;rintro _ h ⟨c,rfl,o⟩<;>refine Jh o ?_;refine Jb ?_;unhygienic intros;refine Yf rfl ?_;refine Yb (Yf rfl ?_);refine Yv ?_;refine Yt rfl ?_;exact Yz
theorem Je9 (m:List (List UInt8)):Ct B0 A92 [P0 k,int 0,int 0,int 9] [kmC S k T t m] fun v own=>v=.tuple ⟨[.pointer none,int 8]⟩∧own [kmC S k T t m]:=by
 refine Co E31 (fun _=>E34 ..) fun h r=>?_;refine Yc (E14 B k N (j:=0) (by omega) T t ok m) ?_;rintro _ h ⟨c,rfl,o⟩<;>refine Jh o ?_;refine Jb ?_;unhygienic intros;refine Yf rfl ?_;refine Yb (Yf rfl ?_);refine Yv ?_;refine Yf rfl ?_
 have hlt:(((N0 (SH S T t) (Y3 S.mem (rgP 0) m)).sects.length:Nat):Int)≤9:=by
  show (((S.sects.set 0 T).length:Nat):Int)≤9;rw [List.length_set,B.sects];decide
 refine B6 (kmC S k T t m) fun u=>?_;refine Je ?_;generalize hK:N0 (SH S T t) (Y3 S.mem (rgP 0) m)=K at hlt;refine B6 (E1 k K) fun A=>?_;refine Je ?_;refine Tr.pcall (I00 k K A 9 hlt) ?_;refine Jc ?_;unhygienic intros;refine B1 (E1 k K) A ?_;refine Je ?_;subst hK;refine B1 (kmC S k T t m) () ?_;refine Je ?_;exact Yz
theorem I14 (q:Nat) {j:Int} (hj:0≤j∧j<4) (y:HoS) (h0:y.phase=0) {X:CX} {V:VW} (A:See X V) (hv:V.S j=(.zero,0)) (op a b:Int) (da:Option Addr) (dn dc:Nat) :
  Ct B0 Af2 [P0 q,.agg ⟨[int op,int a,int b,.slice da dn dc]⟩] [hoC q k j y,kmC S k T t X.m] fun v own=>v=.bool false∧own [hoC q k j y,kmC S k T t X.m]:=by
 have fo:=A71 B ok (Dq7 hj);have e0:=A.s j (by omega);rw [hv] at e0;refine Co D30 (fun _=>D46 ..) fun h r=>?_;refine Yn fun b1 h=>?_;refine B6 (hoC q k j y) fun ⟨ha,hc⟩=>?_;refine Je ?_;refine Jc ?_;unhygienic intros;refine B04 S y.c k N T t j X.m ?_;rw [A.eX];refine Yd (Ag5 y.c k (frH S T t N j) X fo) fun h=>?_;rw [Q8 A.c];refine Jc ?_;unhygienic intros;rw [h0];refine Yf rfl ?_;refine Jc ?_;unhygienic intros;refine Yn fun b2 h=>?_;refine Yd (Aa6 y.c k (frH S T t N j) X fo j) fun h=>?_;rw [O8 A.c (by omega),e0];dsimp only;refine Jc ?_;unhygienic intros;refine Yt (by rfl) ?_;refine Bt6 S y.c k N T t j X A.c.bad ?_;refine B1 (hoC q k j y) (ha,hc) ?_;refine Je ?_;exact Yz
end
theorem qt1:Qt V1 0 p0:=⟨rfl,by rfl,by rfl⟩
theorem E77:Ct B0 A68 [] [] fun v own=>v=.bool true∧own []:=by
 have st:(D0 (I9 5) 0 0).1.1=1:=by kernel_rfl
 have hh:W6 (D0 (I9 5) 0 0).2 0 1=true:=by kernel_rfl
 have ok2:=E84.enter (by omega) 0;refine Co Hz1 (fun _=>Hx2 ..) fun h r=>?_;refine Yc Hv3 ?_;rintro _ h ⟨k,w,a,ac,a2,ac2,q0,q1,q2,q3,c0,c1,rfl,o⟩;refine (?_:Tr _ _ _ _) o;refine Je ?_;(refine Ja ?_;unhygienic intros;repeat(refine Gw ?_;rintro px rfl;refine Ja ?_;unhygienic intros));refine Bh5 ?_;refine Yd (Gn4 Ar4 q0 k 0 (j:=0) (by omega) ⟨c0,0,0,0,0,0,[]⟩ (I9 5) 0 E84 Ie4 qt1 rfl 1 0 0 (dC none 0 []) none false 0 [] (by simp [B3])) fun h=>?_;refine Jc ?_;unhygienic intros;refine Yd (Gi2 Ar4 q0 k 0 (j:=0) (by omega) ⟨c0,1,0,1,0,0,[]⟩ (I9 5) 0 E84 Ie4 qt1 rfl) fun h=>?_;rw [st,show Gt4 ⟨c0,1,0,1,0,0,[]⟩ 1=⟨c0,2,1,1,0,0,[]⟩ from rfl];refine Jc ?_;unhygienic intros;refine Yn fun b1 h=>?_;refine Jc ?_;unhygienic intros;refine Yc (Ha0 Ar4 q0 k 2 (j:=0) (by omega) ⟨c0,2,1,1,0,0,[]⟩ (D0 (I9 5) 0 0).2 0 ok2 Ie4 qt1 rfl hh (J36 (A71 Ar4 ok2 G64) Ie4 (by omega) qt1 0 0 []) (show (1:Int)≠3 by decide) (ok2.leave 0 1) qt1) ?_;rintro _ h ⟨da,dc,x,cap,X',A',rfl,o⟩<;>refine Jh o ?_;refine Jc ?_;unhygienic intros;refine Yn fun b2 h=>?_;refine Jc ?_;unhygienic intros;refine Yd (I93 Ar4 k 2 (E2 (D0 (I9 5) 0 0).2 0 1) 0 (ok2.leave 0 1) X'.m) fun h=>?_;refine Jc ?_;unhygienic intros;refine Yd (Je9 Ar4 k 2 (E2 (D0 (I9 5) 0 0).2 0 1) 0 (ok2.leave 0 1) X'.m) fun h=>?_;refine Jb ?_;unhygienic intros;refine Yb (Yt rfl ?_);refine Yv ?_;refine Yb (Yt rfl ?_);refine Jb ?_;unhygienic intros;refine Yv ?_;refine Yb (Yt rfl ?_);refine Jb ?_;unhygienic intros;refine Yv ?_;refine Yb (Yt rfl ?_);refine Jb ?_;unhygienic intros;refine Yv ?_;refine Yb (Yt rfl ?_);refine Jb ?_;unhygienic intros;refine Yd (Em8 q0 k 0 ⟨c0,0,1,1,0,0,[]⟩) fun h=>?_;refine Jb ?_;unhygienic intros;refine Yv ?_;refine Yb (Yt rfl ?_);refine Yv ?_;refine Yb (Yt rfl ?_);refine Yv ?_;refine Yb (Yt rfl ?_);refine Jb ?_;unhygienic intros;refine Yd (I14 Ar4 k 2 (E2 (D0 (I9 5) 0 0).2 0 1) 0 (ok2.leave 0 1) q1 (j:=1) (by omega) ⟨c1,0,0,0,0,0,[]⟩ rfl A' rfl 1 0 0 none 0 0) fun h=>?_;refine Jb ?_;unhygienic intros;refine Yv ?_;exact Yz
end Go.EQ
