/- A read that found nothing is woken by bytes, and by the end, and by nothing else: till then its picks do nothing. -/
import Derived.Test.YtonlefldpebcpaaGreatDoorMj
set_option linter.all false
set_option maxRecDepth 10000
namespace Go.EQ
open Go Go.NN
theorem Jj3 (k:Nat) (S:KS):CtP A7 A62 [P0 k] [D6 k S] (int S.now):=by
 refine CtP.of G56 rfl fun h r=>Tr.eq (G36 ..) ?_;refine Je ?_
 refine B1 (D6 k S) fun ⟨m,s,q,rg,ea,ec,ma,mc,ms,sa,sc,ss⟩=>?_;refine Je ?_
 exact Jz
def SH (S:KS) (T:SectS) (t:Int):KS:={ S with sects:=S.sects.set 0 T,now:=t }
structure Base (S:KS):Prop where
 like:Like S
 sects:S.sects=[I3 5,I3 5]
 may:S.may=[[0],[1]]
 envs:S.envs=[0,0,0,0,0,0,0,0,0,1,1,1,1,1,1,1,1,1]
 now:S.now=0
theorem Ap1:Base S3:=⟨Is1,by kernel_rfl,by kernel_rfl,by kernel_rfl,by kernel_rfl⟩
structure TOk (N:Nat) (T:SectS) (t:Int):Prop where
 ok:SectOk N T
 hN:N+2<1000000000
 now:0≤t∧t≤1073741824
theorem Ju8:EnvP 0 2:=⟨by omega,by omega,by kernel_rfl,by kernel_rfl,by kernel_rfl⟩
theorem Ek0 {j:Int} (h:0≤j∧j<4):EnvP 0 j:=by
 obtain rfl|rfl|rfl|rfl:j=0∨j=1∨j=2∨j=3:=by omega
 ·exact Gr5
 ·exact Jo3
 ·exact Ju8
 ·exact Jv1
def frH (S:KS) (T:SectS) (t:Int) (N:Nat) (env:Int):Fr:=⟨SH S T t,N,env,[256,257,258],rgP 0⟩
abbrev kmF (S:KS) (k:Nat) (T:SectS) (t:Int) (m:List (List UInt8)):List HP:=[D6 k (L5 (SH S T t) (V4 S.mem (rgP 0) m)),pu (Fit S.mem.length (rgP 0) m)]
def kmC (S:KS) (k:Nat) (T:SectS) (t:Int) (m:List (List UInt8)):HP:=hex fun _:Unit=>sl (kmF S k T t m)
instance {S:KS} {k:Nat} {T:SectS} {t:Int} {m:List (List UInt8)}:Chk (kmC S k T t m) (fun _:Unit=>kmF S k T t m):=⟨rfl⟩
abbrev c3C (c k:Nat) (env:Int) (bad:List RecS):HP:=W3 c k env [256,257,258] bad
theorem Own.cmOf {S:KS} {h:H} {r:List HP} {c k N:Nat} {T:SectS} {t env:Int} {m:List (List UInt8)} {bad:List RecS} (o:Own h (kmC S k T t m::c3C c k env bad::r)):Own h (cmC c k (frH S T t N env) ⟨m,bad⟩::r):=by
 obtain ⟨u,o1⟩:=Own.unfold (kmC S k T t m) o
 exact Own.shut (f:=fun _:Unit=>cmF c k (frH S T t N env) ⟨m,bad⟩) () (o1.picks [0,1,0] rfl)
theorem Own.kmOf {S:KS} {h:H} {r:List HP} {c k N:Nat} {T:SectS} {t env:Int} {X:CX} (o:Own h (cmC c k (frH S T t N env) X::r)):Own h (kmC S k T t X.m::c3C c k env X.bad::r):=by
 obtain ⟨u,o1⟩:=Own.unfold (cmC c k (frH S T t N env) X) o
 have o2:Own h (D6 k (L5 (SH S T t) (V4 S.mem (rgP 0) X.m))::pu (Fit S.mem.length (rgP 0) X.m)::c3C c k env X.bad::r):=o1.picks [0,1,0] rfl
 exact Own.shut (f:=fun _:Unit=>kmF S k T t X.m) () o2
section
variable {S:KS} (B:Base S)
include B
theorem Jv7:SH S (I3 5) 0=S:=by
 have h1:=B.sects;have h2:=B.now
 obtain ⟨a,b,c,d,e,f,g,i⟩:=S
 simp only at h1 h2
 subst h1 h2
 rfl
theorem Je9 {N:Nat} {T:SectS} {t:Int} (k:TOk N T t):KOk N (SH S T t):=by
 have h:=B.like.ok
 have hs:=k.hN
 refine ⟨h.envs,h.tabs,h.space,h.quota,h.mem,h.regs,?_,h.mayl,?_,?_,k.now⟩
 ·show S.may.length=(S.sects.set 0 T).length;rw [List.length_set];exact h.may
 ·show (S.sects.set 0 T).length≤8;rw [List.length_set];exact h.nsect
 ·intro X hX
  rcases List.mem_or_eq_of_mem_set (show X ∈ S.sects.set 0 T from hX) with h1|rfl
  ·exact (h.sects X h1).up (Nat.zero_le N) (by omega)
  ·exact k.ok
theorem Bk8 {N:Nat} {T:SectS} {t:Int} (k:TOk N T t) {env:Int} (e:EnvP 0 env):FrOk (frH S T t N env):=by
 have g:=G70 B.like e
 have:=k.hN
 exact ⟨Je9 B k,by show N+1<1000000000;omega,g.ne,g.small,g.len,g.env,g.pl,g.dj,g.own,g.brs⟩
theorem Jf4 (T:SectS) (t:Int) (p:List UInt8) {env:Int} (he:0≤env∧env<4):Db5 (L5 (SH S T t) p) env 0=true:=by
 unfold Db5 Ba8 Ho8
 show (decide ((0:Int)≤0∧(0:Int)<((S.sects.set 0 T).length:Int)) && decide (S.envs.getD env.toNat 0 ∈ S.may.getD (0:Int).toNat []))=true
 rw [List.length_set,B.sects,B.may,B.envs]
 obtain rfl|rfl|rfl|rfl:env=0∨env=1∨env=2∨env=3:=by omega
 all_goals decide
theorem Je8 (T:SectS) (t:Int) (p:List UInt8):Aq6 (L5 (SH S T t) p) 0=T:=by
 show (S.sects.set 0 T).getD (0:Int).toNat Jf2=T
 rw [B.sects];rfl
omit B in
theorem Jm8 (T T':SectS) (t:Int) (p:List UInt8):putSect (L5 (SH S T t) p) 0 T'=L5 (SH S T' t) p:=by
 show ({ S with sects:=(S.sects.set 0 T).set 0 T',now:=t,mem:=p }:KS)={ S with sects:=S.sects.set 0 T',now:=t,mem:=p }
 rw [List.set_set]
theorem Jp2 (T:SectS) (t:Int) (p:List UInt8) {env:Int} (he:0≤env∧env<4):¬ (env<0∨env≥((L5 (SH S T t) p).envs.length:Int)):=by
 show ¬ (env<0∨env≥(S.envs.length:Int))
 rw [B.envs];simp;omega
theorem Jn1 (T:SectS) (t:Int) (p:List UInt8) {env:Int} (he:0≤env∧env<4):W0 (L5 (SH S T t) p) env ⟨8,0,0,0,0,0,[]⟩=((0,(B3 T env t).1.1,[]),L5 (SH S (B3 T env t).2 t) p):=by
 unfold W0
 rw [if_neg (Jp2 B T t p he)]
 unfold kDo
 rw [if_neg (by decide),if_neg (by decide),if_neg (by decide),if_neg (by decide),if_neg (by decide),if_neg (by decide),if_pos rfl]
 unfold Dq9
 rw [if_pos (Jf4 B T t p he),Je8 B]
 show ((0,(B3 T env t).1.1,[]),putSect (L5 (SH S T t) p) 0 (B3 T env t).2)=_
 rw [Jm8]
theorem Jo2 (T:SectS) (t:Int) (p:List UInt8) {env:Int} (he:0≤env∧env<4) (st:Int):W0 (L5 (SH S T t) p) env ⟨9,0,st,0,0,0,[]⟩=((if V0 T env st then 0 else 8,0,[]),L5 (SH S (D9 T env st) t) p):=by
 unfold W0
 rw [if_neg (Jp2 B T t p he)]
 unfold kDo
 rw [if_neg (show ¬ (9:Int)=1 by decide),if_neg (show ¬ (9:Int)=2 by decide),if_neg (show ¬ (9:Int)=3 by decide),if_neg (show ¬ (9:Int)=4 by decide),if_neg (show ¬ (9:Int)=6 by decide),if_neg (show ¬ (9:Int)=7 by decide),if_neg (show ¬ (9:Int)=8 by decide),if_pos rfl]
 unfold Dp6
 rw [if_pos (Jf4 B T t p he),Je8 B,Jm8]
theorem kmN {N:Nat} {T:SectS} {t:Int} (ok:TOk N T t) {m:List (List UInt8)} (f:Fit S.mem.length (rgP 0) m):KOk N (L5 (SH S T t) (V4 S.mem (rgP 0) m)):=by
 have kk:=Je9 B ok
 exact ⟨kk.envs,kk.tabs,kk.space,kk.quota,by show (V4 S.mem (rgP 0) m).length≤65536;rw [B43 f,B.like.mem];omega,kk.regs,kk.may,kk.mayl,kk.nsect,kk.sects,kk.now⟩
theorem I23 (k N:Nat) (T:SectS) (t:Int) (m:List (List UInt8)) (ok:TOk N T t) {env:Int} (he:0≤env∧env<4) :
  Ct A7 L9 [P0 k,int env,.agg ⟨[int 8,int 0,int 0,int 0,int 0,int 0,.slice none 0 0]⟩] [kmC S k T t m] fun v own=>∃ x d,v=.agg ⟨[int 0,int (B3 T env t).1.1,.slice x 0 d]⟩∧own [kmC S k (B3 T env t).2 t m]:=by
 have hN:=ok.hN
 intro h r o
 obtain ⟨u,o1⟩:=Own.unfold (kmC S k T t m) o
 have f:Fit S.mem.length (rgP 0) m:=(o1.picks [1] rfl).pure
 have J:=Gh0 k (L5 (SH S T t) (V4 S.mem (rgP 0) m)) N (kmN B ok f) (by omega) env 8 0 0 0 0 0 (by decide)
 rw [Jn1 B T t _ he] at J
 obtain ⟨v,h',e,y,d,hv,o2⟩:=J h _ (o1.picks [0] rfl)
 have o3:Own h' (D6 k (L5 (SH S (B3 T env t).2 t) (V4 S.mem (rgP 0) m))::pu (Fit S.mem.length (rgP 0) m)::r):=Own.weak1 0 o2
 exact ⟨v,h',e,y,d,hv,Own.shut (f:=fun _:Unit=>kmF S k (B3 T env t).2 t m) () o3⟩
theorem It8 (k N:Nat) (T:SectS) (t:Int) (m:List (List UInt8)) (ok:TOk N T t) {env:Int} (he:0≤env∧env<4) (st:Int) :
  Ct A7 L9 [P0 k,int env,.agg ⟨[int 9,int 0,int st,int 0,int 0,int 0,.slice none 0 0]⟩] [kmC S k T t m] fun v own=>∃ e x d,v=.agg ⟨[int e,int 0,.slice x 0 d]⟩∧own [kmC S k (D9 T env st) t m]:=by
 have hN:=ok.hN
 intro h r o
 obtain ⟨u,o1⟩:=Own.unfold (kmC S k T t m) o
 have f:Fit S.mem.length (rgP 0) m:=(o1.picks [1] rfl).pure
 have J:=Gh0 k (L5 (SH S T t) (V4 S.mem (rgP 0) m)) N (kmN B ok f) (by omega) env 9 0 st 0 0 0 (by decide)
 rw [Jo2 B T t _ he] at J
 obtain ⟨v,h',e,y,d,hv,o2⟩:=J h _ (o1.picks [0] rfl)
 have o3:Own h' (D6 k (L5 (SH S (D9 T env st) t) (V4 S.mem (rgP 0) m))::pu (Fit S.mem.length (rgP 0) m)::r):=Own.weak1 0 o2
 exact ⟨v,h',e,_,y,d,hv,Own.shut (f:=fun _:Unit=>kmF S k (D9 T env st) t m) () o3⟩
end
theorem Iz9 (m:Int):Bx3 .i64 0 m=0:=by
 unfold Bx3
 simp
 rfl
theorem I92 (p:ProcS) (hs:p.state=1) (h0:p.pending=0):Ct A7 A40 [.agg ⟨D7 p⟩] [] fun v own=>v=.tuple ⟨[int 0,int 0]⟩∧own []:=by
 refine Ct.of G13 rfl fun h r=>Tr.eq (G32 ..) ?_;refine Je ?_
 refine Tr.nw fun b h=>?_
 (refine Jb ?_;unhygienic intros)
 rw [hs,h0,Iz9]
 refine Tr.bnd (Tr.condF rfl ?_)
 refine Tr.some fun o=>(?_:Tr _ _ _ _) o;refine Je ?_
 refine Tr.condT rfl ?_
 refine Tr.some fun o=>?_
 exact ⟨rfl,o.sub⟩
theorem H69 (p:ProcS) (hs:p.state=1) (h0:p.pending=0):Ct A7 Ag5 [.agg ⟨D7 p⟩] [] fun v own=>v=.tuple ⟨[.agg ⟨D7 p⟩,.slice none 0 0,int 0]⟩∧own []:=by
 refine Ct.of E16 rfl fun h r=>Tr.eq (Hn5 ..) ?_;refine Je ?_
 refine Tr.nw fun b h=>?_
 refine Tr.nw fun b1 h=>?_
 refine Tr.jmp E16 (Tr.eq (Gs7 ..) ?_);(try simp only[Nr,Nl,wl,Nat.reduceAdd,Nat.reduceMul,Int.reduceToNat])
 (refine Ja ?_;unhygienic intros)
 refine Tr.xCall (I92 p hs h0) ?_;rintro _ h ⟨rfl,o⟩<;>refine Jh o ?_
 (refine Jd ?_;unhygienic intros)
 refine Tr.some fun o=>?_
 exact ⟨rfl,o.sub⟩
structure HoS where
 c:Nat
 phase:Int
 stamp:Int
 op:Int
 a:Int
 b:Int
 d:List UInt8
abbrev hoL (k:Nat) (j:Int) (y:HoS) (da:Option Addr) (dc:Nat):List Value:=[P0 k,int j,int j,int 0,P0 y.c,int y.phase,int y.stamp,int y.op,int y.a,int y.b,.slice da y.d.length dc]
abbrev dC (da:Option Addr) (dc:Nat) (d:List UInt8):HP:=slC false A5 1 da d.length dc (A0 d)
abbrev hoF (q k:Nat) (j:Int) (y:HoS) (x:Option Addr × Nat):List HP:=[pt q (.cells Ax4 false (hoL k j y x.1 x.2)),dC x.1 x.2 y.d,c3C y.c k j []]
def hoC (q k:Nat) (j:Int) (y:HoS):HP:=hex fun x=>sl (hoF q k j y x)
instance {q k:Nat} {j:Int} {y:HoS}:Chk (hoC q k j y) (hoF q k j y):=⟨rfl⟩
theorem Do1 {l r:List HP} {h:H} {α:Type} {Q:α→H→Prop} {x:Option (α × H)} (S:KS) (c k N:Nat) (T:SectS) (t env:Int) (m:List (List UInt8)) [tk:Takes [kmC S k T t m,c3C c k env []] l r] (tt:Tr (cmC c k (frH S T t N env) ⟨m,[]⟩::r) h x Q):Tr l h x Q:=fun o=>tt (Own.cmOf (o.perm tk.pm))
theorem Df4 {l r:List HP} {h:H} {α:Type} {Q:α→H→Prop} {x:Option (α × H)} (S:KS) (c k N:Nat) (T:SectS) (t env:Int) (X:CX) (hb:X.bad=[]) [tk:Take (cmC c k (frH S T t N env) X) l r] (tt:Tr (kmC S k T t X.m::c3C c k env []::r) h x Q):Tr l h x Q:=fun o=>tt (by
 have o2:=Own.kmOf (o.perm tk.pm)
 rw [hb] at o2;exact o2)
theorem See.eX {X:CX} {V:VW} (A:See X V):(⟨X.m,[]⟩:CX)=X:=by
 have:=A.c.bad
 obtain ⟨m,b⟩:=X
 subst this;rfl
def Eu0 (y:HoS) (st:Int):HoS:=if st>0 then { y with phase:=2,stamp:=st } else y
theorem Hi3 (q k:Nat) (j:Int) (y:HoS):Ct A7 At7 [P0 q] [hoC q k j y] fun v own=>v=int y.phase∧own [hoC q k j y]:=by
 refine Ct.of Gk2 rfl fun h r=>Tr.eq (Gk7 ..) ?_;refine Je ?_
 refine B1 (hoC q k j y) fun ⟨da,dc⟩=>?_;refine Je ?_
 (refine Ja ?_;unhygienic intros)
 refine A9 (hoC q k j y) (da,dc) ?_;refine Je ?_
 refine Tr.some fun o=>?_
 exact ⟨rfl,o.sub⟩
section
variable {S:KS} (B:Base S)
include B
theorem Hf8 (q k N:Nat) {j:Int} (hj:0≤j∧j<4) (y:HoS) (T:SectS) (t:Int) (m:List (List UInt8)) (ok:TOk N T t) (ph:Int) :
  Ct A7 Al1 [P0 q,int ph] [hoC q k j y,kmC S k T t m] fun v own=>v=.tuple ⟨[]⟩∧own [hoC q k j { y with phase:=ph },kmC S k (D9 T j y.stamp) t m]:=by
 refine Ct.of Gl5 rfl fun h r=>Tr.eq (Gl1 ..) ?_;refine Je ?_
 refine B1 (hoC q k j y) fun ⟨da,dc⟩=>?_;refine Je ?_
 (refine Ja ?_;unhygienic intros)
 refine Tr.xCall (It8 B k N T t m ok hj y.stamp) ?_;rintro _ h ⟨e,x,d,rfl,o⟩<;>refine Jh o ?_
 (refine Ja ?_;unhygienic intros)
 simp only [List.set_cons_zero,List.set_cons_succ]
 refine A9 (hoC q k j { y with phase:=ph }) (da,dc) ?_;refine Je ?_
 refine Tr.some fun o=>?_
 exact ⟨rfl,o.sub⟩
theorem I88 (q k N:Nat) {j:Int} (hj:0≤j∧j<4) (y:HoS) (T:SectS) (t:Int) (m:List (List UInt8)) (ok:TOk N T t) :
  Ct A7 Bh3 [P0 q] [hoC q k j y,kmC S k T t m] fun v own=>v=.tuple ⟨[]⟩∧own [hoC q k j (Eu0 y (B3 T j t).1.1),kmC S k (B3 T j t).2 t m]:=by
 refine Ct.of Gt3 rfl fun h r=>Tr.eq (Gw2 ..) ?_;refine Je ?_
 refine B1 (hoC q k j y) fun ⟨da,dc⟩=>?_;refine Je ?_
 (refine Jc ?_;unhygienic intros)
 refine Tr.nw fun b1 h=>?_
 (refine Jc ?_;unhygienic intros)
 refine Tr.xCall (I23 B k N T t m ok hj) ?_;rintro _ h ⟨x,d,rfl,o⟩<;>refine Jh o ?_
 (refine Jc ?_;unhygienic intros)
 unfold Eu0
 by_cases h1:(B3 T j t).1.1>0
 ·rw [if_pos h1]
  refine Tr.condT (by simpa using h1) ?_
  (refine Jc ?_;unhygienic intros)
  simp only [List.set_cons_zero,List.set_cons_succ]
  refine A9 (hoC q k j { y with phase:=2,stamp:=(B3 T j t).1.1 }) (da,dc) ?_;refine Je ?_
  refine Tr.some fun o=>?_
  exact ⟨rfl,o.sub⟩
 ·rw [if_neg h1]
  refine Tr.condF (by simpa using h1) ?_
  refine A9 (hoC q k j y) (da,dc) ?_;refine Je ?_
  refine Tr.some fun o=>?_
  exact ⟨rfl,o.sub⟩
end
theorem See.same {X:CX} {V:VW} (A:See X V) {i:Int} {p:ProcS} (hp:V.S i=(p,1)) (hi:0≤i∧i<8):(Az4 X i p).1=true∧See (Az4 X i p).2 V:=by
 have e:=A.s i hi
 have hk:okS p=true∧InS p:=by
  have h1:=Jg1 A.c hi
  have h2:InS (vS X i).1:=D17 _
  rw [e,hp] at h1 h2
  rcases h1 with ⟨h3,_⟩|⟨_,h3⟩
  ·cases h3
  ·exact ⟨h3,h2⟩
 have w:=Bc2 A.c hi hk.1 hk.2
 refine ⟨by rw [w.1],?_⟩
 have s:=A.ws hi hk.1 hk.2
 rw [w.1]
 refine s.to (fun j hj=>?_) (fun _ _=>rfl) (fun _ _=>rfl)
 show (if j=i then (p,1) else V.S j)=V.S j
 by_cases h:j=i
 ·subst h;rw [if_pos rfl,hp]
 ·rw [if_neg h]
structure Qt (V:VW) (j:Int) (p:ProcS):Prop where
 v:V.S j=(p,1)
 s:p.state=1
 z:p.pending=0
abbrev Et7 (s slot op a b:Int) (da:Option Addr) (dn dc:Nat) (n e:Int) (xa:Option Addr) (xn xc:Nat) (back:Bool):List Value:=[int s,int slot,int op,int a,int b,.slice da dn dc,int n,int e,.slice xa xn xc,.bool back,.slice none 0 0,int 0]
section
variable {S:KS} (B:Base S)
include B
theorem Jd6 (q k N:Nat) {j:Int} (hj:0≤j∧j<4) (y:HoS) (T:SectS) (t:Int) (ok:TOk N T t) {X:CX} {V:VW} (A:See X V) {p:ProcS} (hp:Qt V j p)
  (s slot op a b:Int) (da:Option Addr) (dn dc:Nat) (n e:Int) (xa:Option Addr) (xn xc:Nat) (back:Bool) :
  Ct A7 Ar0 [P0 q,.agg ⟨Et7 s slot op a b da dn dc n e xa xn xc back⟩] [hoC q k j y,kmC S k T t X.m] fun v own=>∃ X',See X' V∧v=.agg ⟨Et7 s slot op a b da dn dc n e xa xn xc back⟩∧own [hoC q k j y,kmC S k T t X'.m]:=by
 have fo:=Bk8 B ok (Ek0 hj)
 have e0:=A.s j (by omega)
 rw [hp.v] at e0
 have sm:=A.same hp.v (by omega)
 refine Ct.of G16 rfl fun h r=>Tr.eq (G63 ..) ?_;refine Je ?_
 refine Tr.nw fun b1 h=>?_
 refine Tr.nw fun b2 h=>?_
 refine B1 (hoC q k j y) fun ⟨ha,hc⟩=>?_;refine Je ?_
 (refine Jc ?_;unhygienic intros)
 refine Tr.nw fun b3 h=>?_
 refine Do1 S y.c k N T t j X.m ?_
 rw [A.eX]
 refine Tr.xCall (A84 y.c k (frH S T t N j) X fo j) ?_;rintro _ h ⟨rfl,o⟩<;>refine Jh o ?_
 rw [Aj4 A.c (by omega),e0]
 dsimp only
 (refine Jb ?_;unhygienic intros)
 refine Tr.bnd (Tr.condF rfl ?_)
 (refine Jb ?_;unhygienic intros)
 refine Tr.some fun o=>(?_:Tr _ _ _ _) o;refine Je ?_
 rw [hp.s]
 refine Tr.condF rfl ?_
 (refine Jc ?_;unhygienic intros)
 refine Tr.xCall (H69 p hp.s hp.z) ?_;rintro _ h ⟨rfl,o⟩<;>refine Jh o ?_
 (refine Jc ?_;unhygienic intros)
 refine Tr.xCall (Do2 y.c k (frH S T t N j) X fo j p) ?_;rintro _ h ⟨rfl,o⟩<;>refine Jh o ?_
 (refine Jc ?_;unhygienic intros)
 refine Tr.condF rfl ?_
 (refine Jc ?_;unhygienic intros)
 refine Df4 S y.c k N T t j (Az4 X j p).2 sm.2.c.bad ?_
 refine A9 (hoC q k j y) (ha,hc) ?_;refine Je ?_
 refine Tr.some fun o=>?_
 exact ⟨_,sm.2,rfl,o.sub⟩
end
theorem Ju4 {h:H} {ro:Bool} {e:TypeId} {sz:Nat} {a:Option Addr} {n c:Nat} {cs:List Value} {r:List HP} (m:Nat) (hm:m≤n) (o:Own h (slC ro e sz a n c cs::r)):Own h (slC ro e sz a m c (cs.take (m*sz))::r):=by
 cases a with
 | none =>
  obtain ⟨rfl,rfl,rfl,hs⟩:=o.slNone
  obtain rfl:m=0:=by omega
  simpa using o
 | some x =>
  obtain ⟨b,o',sp⟩:=x
  obtain ⟨pre,post,o2,h1,h2,h3,h4,h5,h6,h7⟩:=o.slOpen
  have hl:m*sz≤cs.length:=by rw [← h1];exact Nat.mul_le_mul_right _ hm
  have e1:pre++cs++post=pre++cs.take (m*sz)++(cs.drop (m*sz)++post):=by rw [List.append_assoc pre cs,List.append_assoc pre,← List.append_assoc (cs.take _),List.take_append_drop]
  rw [e1] at o2
  refine Own.slShut (b:=b) (o:=o') (sp:=sp) o2 ⟨by rw [List.length_take];omega,by omega,?_,h4,h5,h6,h7⟩
  rw [List.length_append,List.length_drop,← h1]
  have:(c-m)*sz=(c-n)*sz+(n*sz-m*sz):=by rw [← Nat.sub_mul,← Nat.add_mul];congr 1;omega
  omega
theorem Jr2 {h:H} {e:TypeId} {sz:Nat} {a:Option Addr} {n c:Nat} {cs:List Value} {r:List HP} (o:Own h (slC false e sz a n c cs::r)):Own h (slC false e sz (Ar1 a) n n cs::r):=by
 cases a with
 | none=>obtain ⟨rfl,rfl,rfl,hs⟩:=o.slNone;exact o
 | some x =>
  obtain ⟨b,o',sp⟩:=x
  obtain ⟨pre,post,o2,h1,h2,h3,h4,h5,h6,h7⟩:=o.slOpen
  refine Own.slShut (b:=b) (o:=o') (sp:=none) o2 ⟨h1,by omega,by simp,fun h=>h4 (by omega),fun h=>absurd rfl h,h6,fun h=>?_⟩
  rcases Nat.eq_zero_or_pos c with hc|hc
  ·exact h7 hc
  ·have:=h4 hc;omega
theorem I40 {l:List HP} {h:H} {α:Type} {Q:α→H→Prop} {ro:Bool} {e:TypeId} {sz:Nat} {a:Option Addr} {n c:Nat} {cs:List Value} {z:Option (α × H)} (i:Nat) (hi:l[i]?=some (slC ro e sz a n c cs)) (m:Nat) (cs':List Value) (hm:m≤n) (hc:cs.take (m*sz)=cs')
  (k:Tr (l.set i (slC ro e sz a m c cs')) h z Q):Tr l h z Q:=fun o=>by
 subst hc;exact k (Own.back (h:=h) hi (Ju4 m hm (o.front hi)))
theorem Ih9 (a:Option Addr) (n c:Nat) (cs:List Value):Ct A7 Y8 [.slice a n c] [slC false A5 1 a n c cs] fun v own=>v=.slice (Ar1 a) n n∧own [slC false A5 1 (Ar1 a) n n cs]:=by
 refine Ct.of D08 rfl fun h r=>Tr.eq (Dz7 ..) ?_;refine Je ?_
 refine V5 0 rfl fun hl hc _=>?_
 simp only [Int.toNat_natCast]
 (refine Ja ?_;unhygienic intros)
 refine Ys fun o=>?_
 refine ⟨?_,Jr2 o⟩
 simp
abbrev bytesN (p:PipeS) (i:Nat):List UInt8:=(List.range i).map fun (j:Nat)=>p.data.getD (((p.head+j)%32).toNat) 0
abbrev Q3 (p:PipeS):List UInt8:=bytesN p p.count.toNat
theorem Ao7 {p:PipeS} (h:okP p=true):(0≤p.head∧p.head≤31)∧(0≤p.count∧p.count≤32)∧(0≤p.readers∧p.readers≤8)∧(0≤p.writers∧p.writers≤8):=by
 simp only [okP,Bool.and_eq_true,decide_eq_true_eq] at h;omega
theorem Ih3 {l:List UInt8} {j:Nat} (h:j<l.length):(A0 l)[j]?=some (.int .u8 (l.getD j 0).toNat):=by
 unfold A0
 rw [List.getElem?_map,List.getElem?_eq_getElem h,List.getD_eq_getElem?_getD,List.getElem?_eq_getElem h];rfl
theorem Ix2 (p:PipeS) {j:Nat} (h:j<32):(E5 p)[4+j]?=some (.int .u8 (p.data.getD j 0).toNat):=by
 rw [show 4+j=j+4 by omega]
 exact Ih3 (by rw [p.len];exact h)
theorem Gc3 (b:Nat) (p:PipeS) (hp:okP p=true):∀ (m i:Nat) (a:Option Addr) (ac:Nat),(i:Int)+m=p.count→CtJ I1 Aq7 Bo5 [(1,P0 b),(3,.slice a i ac),(9,int p.count),(10,int i)] [pt b (.cells D1 false (E5 p)),slC false A5 1 a i ac (A0 (bytesN p i))] fun v own =>
  ∃ a' c',v=.slice a' p.count.toNat c'∧own [slC false A5 1 a' p.count.toNat c' (A0 (Q3 p))]
 | 0,i,a,ac,hi=>by
  obtain rfl:i=p.count.toNat:=by omega
  refine CtJ.of D88 fun h r=>Tr.eq (Eb2 ..) ?_;refine Je ?_
  refine Yf (by simp;omega) ?_
  refine Ys fun o=>?_
  exact ⟨a,ac,rfl,o.sub⟩
 | m+1,i,a,ac,hi=>by
  obtain ⟨r1,r2,r3,r4⟩:=Ao7 hp
  have e1:=wN i
  have e2:IntKind.wrap .i64 (p.head+i)=p.head+i:=by rw [B4];omega
  have hg:=Ix2 p (j:=((p.head+i)%32).toNat) (by omega)
  refine CtJ.of D88 fun h r=>Tr.eq (Eb2 ..) ?_;refine Je ?_
  refine Yt (by simp;omega) ?_
  rw [e1]
  (refine Ja ?_;unhygienic intros)
  rw [e2,Ip4 (show 0≤p.head+(i:Int) by omega)]
  (refine Ja ?_;unhygienic intros)
  refine V5 2 rfl fun hl hc _=>?_
  refine Tr.xApd (new:=A0 [p.data.getD (((p.head+i)%32).toNat) 0]) ⟨rfl,rfl,by simp only [A8];omega⟩ fun a2 c2 h=>?_
  have H:=Gc3 b p hp m (i+1) a2 c2 (by omega)
  refine (?_:Tr (pt b_1 _::pt b _::slC false A5 1 a2 (i+1) c2 (A0 (bytesN p i)++A0 [p.data.getD (((p.head+i)%32).toNat) 0])::_) _ _ _)
  rw [← Jo8,show bytesN p i++[p.data.getD (((p.head+i)%32).toNat) 0]=bytesN p (i+1) by unfold bytesN;rw [List.range_succ,List.map_append];rfl]
  refine Ad0 [1,1] 1 rfl rfl ?_
  exact Yr H fun v h q=>q
theorem Eq6 (p:PipeS):(Q3 p).length=p.count.toNat:=by simp [Q3]
theorem Iw0 (p:PipeS) (hp:okP p=true):Ct A7 Aq7 [.agg ⟨E5 p⟩] [] fun v own=>∃ a c,v=.slice a p.count.toNat c∧own [slC false A5 1 a p.count.toNat c (A0 (Q3 p))]:=by
 refine Ct.of D88 rfl fun h r=>Tr.eq (H25 ..) ?_;refine Je ?_
 (refine Ja ?_;unhygienic intros)
 refine Yc (Hs5 p) ?_;rintro _ h ⟨rfl,o⟩<;>refine Jh o ?_
 rw [hp]
 (refine Ja ?_;unhygienic intros)
 refine G6 false A5 1 (by omega) ?_
 have H:=fun b=>Gc3 b p hp p.count.toNat 0 none 0 (by have:=Ao7 hp;omega)
 refine (?_:Tr (slC false A5 1 none 0 0 (A0 (bytesN p 0))::_) _ _ _)
 exact Yr (H _) fun v h q=>q
abbrev Bh4 (p:PipeS) (m:Nat):PipeS:=if 0<m then ⟨(p.head+m)%32,p.count-m,p.readers,p.writers,p.data,p.len⟩ else p
theorem I83 (p:PipeS) (hp:okP p=true) (n:Int) (hn:0≤n∧n≤32):Ct A7 Dn9 [.agg ⟨E5 p⟩,int n] [] fun v own=>∃ a c,v=.tuple ⟨[.agg ⟨E5 (Bh4 p (min n.toNat p.count.toNat))⟩,.slice a (min n.toNat p.count.toNat) c]⟩∧own [slC false A5 1 a (min n.toNat p.count.toNat) c (A0 ((Q3 p).take (min n.toNat p.count.toNat)))]:=by
 obtain ⟨r1,r2,r3,r4⟩:=Ao7 hp
 refine Ct.of Ie4 rfl fun h r=>Tr.eq (Ia8 ..) ?_;refine Je ?_
 (refine Ja ?_;unhygienic intros)
 refine Yc (Iw0 p hp) ?_
 rintro _ h ⟨a,c,rfl,o⟩
 refine Jh o ?_
 refine Tr.dx ?_
 simp only [Z9,Ae3]
 have e:min (max n 0) ((p.count.toNat:Nat):Int)=((min n.toNat p.count.toNat:Nat):Int):=by omega
 have hle:min n.toNat p.count.toNat≤p.count.toNat:=by omega
 rw [e]
 simp only [Int.toNat_natCast]
 generalize min n.toNat p.count.toNat=m at hle
 refine V5 0 rfl fun hl hc _=>?_
 (refine Ja ?_;unhygienic intros)
 refine I40 0 rfl m (A0 ((Q3 p).take m)) hle (by rw [Nat.mul_one,Jl8]) ?_
 refine (?_:Tr (slC false A5 1 a m c (A0 ((Q3 p).take m))::_::_::_) _ _ _)
 by_cases hm:0<m
 ·rw [show Bh4 p m=⟨(p.head+m)%32,p.count-m,p.readers,p.writers,p.data,p.len⟩ from if_pos hm]
  refine Yt (by simpa using hm) ?_
  (refine Ja ?_;unhygienic intros)
  rw [show Int.tmod (IntKind.wrap .i64 (p.head+m)) 32=(p.head+m)%32 by rw [show IntKind.wrap .i64 (p.head+m)=p.head+m by rw [B4];omega,Ip4 (show 0≤p.head+(m:Int) by omega)],show IntKind.wrap .i64 (p.count-m)=p.count-m by rw [B4];omega]
  refine (?_:Tr (_::_::pt _ (.cells D1 false (E5 ⟨(p.head+m)%32,p.count-m,p.readers,p.writers,p.data,p.len⟩))::_) _ _ _)
  generalize (⟨(p.head+m)%32,p.count-m,p.readers,p.writers,p.data,p.len⟩:PipeS)=q
  (refine Ja ?_;unhygienic intros)
  refine Yc (Ih9 a m c (A0 ((Q3 p).take m))) ?_;rintro _ h ⟨rfl,o⟩<;>refine Jh o ?_
  (refine Ja ?_;unhygienic intros)
  refine Ys fun o=>?_
  exact ⟨Ar1 a,m,rfl,o.sub⟩
 ·rw [show Bh4 p m=p from if_neg hm]
  refine Yf (by simpa using hm) ?_
  (refine Ja ?_;unhygienic intros)
  refine Yc (Ih9 a m c (A0 ((Q3 p).take m))) ?_;rintro _ h ⟨rfl,o⟩<;>refine Jh o ?_
  (refine Ja ?_;unhygienic intros)
  refine Ys fun o=>?_
  exact ⟨Ar1 a,m,rfl,o.sub⟩
theorem I36 (p:PipeS) {j:Nat} (h:j<32) (x:UInt8):Dt5 (E5 p) (4+j) (.int .u8 x.toNat)=some (E5 ⟨p.head,p.count,p.readers,p.writers,p.data.set j x,by rw [List.length_set];exact p.len⟩):=by
 have e:Nat.blt (4+j) (E5 p).length=true:=by rw [Ah4 p.len];exact Nat.ble_eq_true_of_le (by omega)
 unfold Dt5
 rw [e,show 4+j=j+4 by omega]
 show some ((E5 p).set (j+4) _)=_
 simp only [E5,List.set_cons_succ,A0,List.map_set]
abbrev A16 (p:PipeS) (b:UInt8):PipeS:=⟨p.head,p.count+1,p.readers,p.writers,p.data.set (((p.head+p.count)%32).toNat) b,by rw [List.length_set];exact p.len⟩
def N9:PipeS→List UInt8→PipeS × Int
 | p,[]=>(p,0)
 | p,b::l=>if p.count=32 then (p,0) else ((N9 (A16 p b) l).1,(N9 (A16 p b) l).2+1)
theorem Hg9:∀ (l:List UInt8) (p:PipeS),0≤(N9 p l).2∧(N9 p l).2≤l.length
 | [],p=>by simp [N9]
 | b::l,p=>by
  have:=Hg9 l (A16 p b)
  unfold N9;split<;>simp<;>omega
theorem Gs4 {p:PipeS} (h:okP p=true) (hc:p.count≠32) (b:UInt8):okP (A16 p b)=true:=by
 have:=Ao7 h
 simp only [okP,Bool.and_eq_true,decide_eq_true_eq] at h ⊢;omega
theorem G49 (b1 b2:Nat) (pb:HP) (a:Option Addr) (ro:Bool) (cc:Nat) (l:List UInt8) (hl:l.length≤1000) [ks:IsSl pb a ro A5 1 l.length cc (A0 l)] (z:PipeS):∀ (m i:Nat) (n:Int) (p:PipeS),okP p=true→i+m=l.length→0≤n→n≤i →
  CtJ I1 A64 B25 [(2,P0 b1),(4,P0 b2),(6,int n),(13,.slice a l.length cc),(14,int l.length),(15,int i)] [pt b1 (.cells D1 false (E5 p)),pt b2 (.cells D1 false (E5 z)),pb] fun v own =>
   v=.tuple ⟨[.agg ⟨E5 (N9 p (l.drop i)).1⟩,int (n+(N9 p (l.drop i)).2)]⟩∧own [pb]
 | 0,i,n,p,hp,hi,h0,hn=>by
  rw [List.drop_eq_nil_of_le (by omega),show N9 p []=(p,0) from rfl,Int.add_zero]
  refine CtJ.of Er3 fun h r=>Tr.eq (E12 ..) ?_;refine Je ?_
  refine Yf (by simp;omega) ?_
  (refine Ja ?_;unhygienic intros)
  refine Ys fun o=>?_
  exact ⟨rfl,o.sub⟩
 | m+1,i,n,p,hp,hi,h0,hn=>by
  obtain ⟨r1,r2,r3,r4⟩:=Ao7 hp
  have hil:i<l.length:=by omega
  have hg:=Ih3 hil
  have hd:l.drop i=l.getD i 0::l.drop (i+1):=by
   rw [List.drop_eq_getElem_cons hil,List.getD_eq_getElem?_getD,List.getElem?_eq_getElem hil];rfl
  rw [hd,N9]
  generalize l.getD i 0=x at hg
  have e1:=wN i
  have e2:=wI n
  refine CtJ.of Er3 fun h r=>Tr.eq (E12 ..) ?_;refine Je ?_
  refine Yt (by simp;omega) ?_
  rw [e1,e2]
  simp only [Int.toNat_natCast]
  (refine Ja ?_;unhygienic intros;repeat(refine Gw ?_;rintro px rfl;refine Ja ?_;unhygienic intros))
  by_cases hc:p.count=32
  ·rw [if_pos hc]
   refine Yt (by simpa using hc) ?_
   (refine Ja ?_;unhygienic intros)
   refine Ys fun o=>?_
   rw [Int.add_zero]
   exact ⟨rfl,o.sub⟩
  rw [if_neg hc]
  refine Yf (by simpa using hc) ?_
  have e3:Int.tmod (IntKind.wrap .i64 (p.head+p.count)) 32=(p.head+p.count)%32:=by
   rw [show IntKind.wrap .i64 (p.head+p.count)=p.head+p.count by rw [B4];omega,Ip4 (show 0≤p.head+p.count by omega)]
  have hs:=I36 p (j:=((p.head+p.count)%32).toNat) (by omega) x
  have H:=G49 b1 b2 pb (some px) ro cc l hl z m (i+1) (n+1) (A16 p x) (Gs4 hp hc x) (by omega) (by omega) (by omega)
  (refine Ja ?_;unhygienic intros)
  rw [e3]
  (refine Ja ?_;unhygienic intros)
  dsimp only
  rw [show IntKind.wrap .i64 (p.count+1)=p.count+1 by rw [B4];omega]
  refine (?_:Tr (pt b1 (.cells D1 false (E5 (A16 p x)))::pt b2 (.cells D1 false (E5 z))::pb::_) _ _ _)
  refine Yr H ?_
  intro v h q
  obtain ⟨rfl,o⟩:=q
  exact ⟨by rw [Int.add_right_comm,Int.add_assoc],o⟩
theorem Ii4 (p:PipeS) (hp:okP p=true) (pb:HP) (a:Option Addr) (ro:Bool) (cc:Nat) (l:List UInt8) (hl:l.length≤1000) [ks:IsSl pb a ro A5 1 l.length cc (A0 l)] :
  Ct A7 A64 [.agg ⟨E5 p⟩,.slice a l.length cc] [pb] fun v own=>v=.tuple ⟨[.agg ⟨E5 (N9 p l).1⟩,int (N9 p l).2]⟩∧own [pb]:=by
 refine Ct.of Er3 rfl fun h r=>Tr.eq (Iq5 ..) ?_;refine Je ?_
 (refine Ja ?_;unhygienic intros)
 refine Yc (Hs5 p) ?_;rintro _ h ⟨rfl,o⟩<;>refine Jh o ?_
 rw [hp]
 (refine Ja ?_;unhygienic intros)
 have H:=fun b1 b2=>G49 b1 b2 pb a ro cc l hl .zero l.length 0 0 p hp (by omega) (by omega) (by omega)
 rw [List.drop_zero,Int.zero_add] at H
 refine (?_:Tr (pt _ (.cells D1 false (E5 .zero))::pt _ (.cells D1 false (E5 p))::pb::_) _ _ _)
 exact Yr (H _ _) fun v h q=>q
abbrev vT (X:CX):PipeS × Int:=U6 (rd X ⟨4,0⟩)
theorem Jv6 {nc:Nat}:Rin nc ⟨4,0⟩:=⟨by simp,by simp,by simp,by simp [Y7]⟩
theorem Hc1 {nc:Nat} {X:CX} (c:Clean nc X) {i:Int} (h:0≤i∧i<3+nc) {q:PipeS} (ok:okP q=true):vT (A80 X i q)=vT X:=by
 have hl:(N6 q).length=W2 (3:Int):=by rw [Bt1 q.len];rfl
 show U6 (rd _ _)=_
 rw [Aq0 c (Br4 h) Jv6 hl,if_neg (by simp)]
theorem B56 (e:Int):Ct A7 U5 [int e] [] fun v own=>v=.agg ⟨P3 0 e false⟩∧own []:=by
 refine Ct.of Hx4 rfl fun h r=>Tr.eq (H28 ..) ?_;refine Je ?_
 (refine Ja ?_;intros)
 refine Ys fun o=>?_
 exact ⟨rfl,o.tail⟩
theorem Gx4 (f:FileS):Ct A7 A38 [.agg ⟨Ak6 f⟩] [] fun v own=>v=.agg ⟨if f.flags=1 then P3 0 111 false else P3 0 0 true⟩∧own []:=by
 refine Ct.of Hk1 rfl fun h r=>Tr.eq (Hk0 ..) ?_;refine Je ?_
 (refine Jb ?_;intros)
 by_cases h1:f.flags=1
 ·rw [if_pos h1]
  refine Yt (by simpa using h1) ?_
  refine Yc (B56 111) ?_;rintro _ h ⟨rfl,o⟩<;>(refine Jf o ?_;intros)
  refine Ys fun o=>?_
  exact ⟨rfl,o.sub⟩
 ·rw [if_neg h1]
  refine Yf (by simpa using h1) ?_
  (refine Ja ?_;intros)
  refine Ys fun o=>?_
  exact ⟨rfl,o.sub⟩
abbrev Dz9 (b b1:Nat):Value:=.func (.func Bb8) ⟨[]⟩ ⟨[P0 b,P0 b1]⟩
theorem G98 (c k b b1:Nat) (F:Fr) (X:CX) (ok:FrOk F) (f:FileS) (q:PipeS):Ct A7 Bb8 [.agg ⟨E5 q⟩,P0 b,P0 b1] [cmC c k F X,pt b (.cells U2 false [P0 c]),pt b1 (.cells D3 false (Ak6 f))] fun v own =>
  v=.bool (Bg0 X f.pipe q).1∧own [cmC c k F (Bg0 X f.pipe q).2,pt b (.cells U2 false [P0 c]),pt b1 (.cells D3 false (Ak6 f))]:=by
 refine Ct.of Hs6 rfl fun h r=>Tr.eq (Hs7 ..) ?_;refine Je ?_
 (refine Ja ?_;intros)
 refine Yc (Ek2 c k F X ok f.pipe q) ?_;rintro _ h ⟨rfl,o⟩<;>(refine Jf o ?_;intros)
 refine Ys fun o=>?_
 exact ⟨rfl,o.sub⟩
def Ar7 (q:PipeS) (v:Value):List Value:=E5 q++[v]
theorem D78 (q:PipeS) (v:Value):(Ar7 q v).length=37:=by unfold Ar7;rw [List.length_append,Ah4 q.len];rfl
theorem I80 (q:PipeS) (x:Fn) (y z:Array Value):(Ar7 q (.func x y z)).all Value.oneCell=true:=by unfold Ar7;rw [List.all_append,Hf5];rfl
instance {q:PipeS} {v:Value}:LenC (Ar7 q v) 37:=⟨D78 q v⟩
instance {q:PipeS} {v:Value}:PartC (Ar7 q v) 0 37 (Ar7 q v):=⟨B77 (D78 q v)⟩
instance {q:PipeS} {v:Value}:PartC (Ar7 q v) 0 36 (E5 q):=⟨by
 unfold Dm1
 rw [Nat.ble_eq_true_of_le (by rw [D78];omega),List.drop_zero]
 unfold Ar7
 rw [List.take_left' (Ah4 q.len)];rfl⟩
instance {q:PipeS} {x:Fn} {y z:Array Value} {cs:List Value} [k:LenC cs 37]:SetsC cs 0 (Ar7 q (.func x y z)) (Ar7 q (.func x y z)):=⟨Br7 k.ok (D78 q _) (I80 q x y z)⟩
theorem Ix0 (c k:Nat) (F:Fr) (X:CX) (ok:FrOk F) {nc:Nat} (cl:Clean nc X) (f:FileS) (h3:f.kind≠3) (hp:0≤f.pipe∧f.pipe<3+nc):Ct A7 Da9 [P0 c,.agg ⟨Ak6 f⟩] [cmC c k F X] fun v own =>
  ∃ b b1,v=.tuple ⟨[.agg ⟨Ar7 (vP X f.pipe).1 (Dz9 b b1)⟩,.bool ((vP X f.pipe).2==1)]⟩∧own [cmC c k F X,pt b (.cells U2 false [P0 c]),pt b1 (.cells D3 false (Ak6 f))]:=by
 refine Ct.of Ip8 rfl fun h r=>Tr.eq (Il3 ..) ?_;refine Je ?_
 refine Yn fun b h=>?_
 refine Yn fun b1 h=>?_
 refine Yn fun b2 h=>?_
 (refine Ja ?_;intros)
 refine Yf (by simpa using h3) ?_
 (refine Ja ?_;intros)
 refine Yc (Et8 c k F X ok f.pipe) ?_;rintro _ h ⟨rfl,o⟩<;>refine Jh o ?_
 rw [Dn2 cl hp]
 dsimp only
 generalize (vP X f.pipe).1=q
 (refine Jc ?_;intros)
 refine Yn fun b3 h=>?_
 (refine Jc ?_;intros)
 refine Tr.ck (D78 q _) ?_
 refine (?_:Tr _ _ (pAgg ⟨b2,0,none⟩ (Ar7 q (Dz9 b b1)) _ _) _)
 (refine Ja ?_;intros)
 refine Ys fun o=>?_
 exact ⟨b,b1,rfl,o.sub⟩
def Ac1 (V:VW) (i fd n:Int):FileS × Int :=
 if (ofW V i fd).2≠0 then ((ofW V i fd).1.2,(ofW V i fd).2)
 else if (ofW V i fd).1.2.kind=2 then ((ofW V i fd).1.2,109)
 else if n<0∨n>32 then ((ofW V i fd).1.2,122)
 else ((ofW V i fd).1.2,0)
theorem Js6 (c k:Nat) (F:Fr) (X:CX) (ok:FrOk F) (V:VW) (A:See X V) (i fd n:Int) (hi:0≤i∧i<8) (h3:(ofW V i fd).1.2.kind≠3):Ct A7 Dm8 [P0 c,int i,int fd,int n] [cmC c k F X] fun v own=>v=.tuple ⟨[.agg ⟨Ak6 (Ac1 V i fd n).1⟩,int (Ac1 V i fd n).2]⟩∧own [cmC c k F X]:=by
 have eo:=A.ofv hi fd
 unfold Ac1
 refine Ct.of Ia7 rfl fun h r=>Tr.eq (H73 ..) ?_;refine Je ?_
 refine Yn fun b0 h=>?_
 refine Yc (Is7 c k F X ok A.c i fd hi) ?_;rintro _ h ⟨rfl,o⟩<;>refine Jh o ?_
 rw [eo]
 (refine Jc ?_;intros)
 refine Yn fun b1 h=>?_
 (refine Jb ?_;intros)
 generalize (ofW V i fd).1.2=x at *
 generalize (ofW V i fd).2=e at *
 by_cases h1:e=0
 case neg =>
  rw [if_pos h1]
  refine Yt (by simpa using h1) ?_
  (refine Ja ?_;intros)
  refine Ys fun o=>?_
  exact ⟨rfl,o.sub⟩
 have n1:¬ e≠0:=by simpa using h1
 rw [if_neg n1]
 refine Yf (by simpa using h1) ?_
 (refine Ja ?_;intros)
 by_cases h2:x.kind=2
 ·rw [if_pos h2]
  refine Yt (by simpa using h2) ?_
  (refine Ja ?_;intros)
  refine Ys fun o=>?_
  exact ⟨rfl,o.sub⟩
 rw [if_neg h2]
 refine Yf (by simpa using h2) ?_
 by_cases h4:n<0
 ·rw [if_pos (.inl h4)]
  refine Yb (Yt (by simpa using h4) ?_)
  refine Ys fun o=>(?_:Tr _ _ _ _) o;refine Je ?_
  refine Yt rfl ?_
  (refine Ja ?_;intros)
  refine Ys fun o=>?_
  exact ⟨rfl,o.sub⟩
 refine Yb (Yf (by simpa using h4) ?_)
 refine Ys fun o=>(?_:Tr _ _ _ _) o;refine Je ?_
 by_cases h5:n>32
 ·rw [if_pos (.inr h5)]
  refine Yt (by simpa using h5) ?_
  (refine Ja ?_;intros)
  refine Ys fun o=>?_
  exact ⟨rfl,o.sub⟩
 rw [if_neg (fun h=>h.elim h4 h5)]
 refine Yf (by simpa using h5) ?_
 (refine Ja ?_;intros)
 refine Yf (by simpa using h3) ?_
 (refine Ja ?_;intros)
 refine Ys fun o=>?_
 exact ⟨rfl,o.sub⟩
structure RdS where
 bs:List UInt8
 e:Int
 blk:Bool
def B11 (V:VW) (i fd n:Int):RdS × VW :=
 if (Ac1 V i fd n).2≠0∨n=0 then (⟨[],(Ac1 V i fd n).2,false⟩,V)
 else if (V.P (Ac1 V i fd n).1.pipe).2≠1 then (⟨[],105,false⟩,V)
 else if (V.P (Ac1 V i fd n).1.pipe).1.count=0 then
  if (Ac1 V i fd n).1.kind=1∧(V.P (Ac1 V i fd n).1.pipe).1.writers=0 then (⟨[],0,false⟩,V)
  else if (Ac1 V i fd n).1.flags=1 then (⟨[],111,false⟩,V) else (⟨[],0,true⟩,V)
 else (⟨(Q3 (V.P (Ac1 V i fd n).1.pipe).1).take (min n.toNat (V.P (Ac1 V i fd n).1.pipe).1.count.toNat),0,false⟩,
  wP V (Ac1 V i fd n).1.pipe (Bh4 (V.P (Ac1 V i fd n).1.pipe).1 (min n.toNat (V.P (Ac1 V i fd n).1.pipe).1.count.toNat)))
theorem H30 {p:PipeS} (h:okP p=true) {m:Nat} (hm:m≤p.count.toNat):okP (Bh4 p m)=true:=by
 have:=Ao7 h
 unfold Bh4
 split
 ·simp only [okP,Bool.and_eq_true,decide_eq_true_eq];omega
 ·exact h
theorem Jc5 (c k:Nat) (F:Fr) (X:CX) (ok:FrOk F) (V:VW) (A:See X V) (i fd n:Int) (hi:0≤i∧i<8) (h3:(ofW V i fd).1.2.kind≠3) (hp:(Ac1 V i fd n).2=0→0≤(Ac1 V i fd n).1.pipe∧(Ac1 V i fd n).1.pipe<6) :
  Ct A7 De7 [P0 c,int i,int fd,int n] [cmC c k F X] fun v own=>∃ a cap X',See X' (B11 V i fd n).2∧vT X'=vT X ∧
   v=.agg ⟨[int (B11 V i fd n).1.bs.length,int (B11 V i fd n).1.e,.slice a (B11 V i fd n).1.bs.length cap,.bool (B11 V i fd n).1.blk]⟩ ∧
   own [cmC c k F X',slC false A5 1 a (B11 V i fd n).1.bs.length cap (A0 (B11 V i fd n).1.bs)]:=by
 have nil:∀ {h:NN.H} {r:List HP},Own h (cmC c k F X::r)→Own h (cmC c k F X::slC false A5 1 none 0 0 (A0 [])::r):=fun o=>(o.slNil false A5 (by omega)).perm (List.Perm.swap _ _ _)
 have hk3:(Ac1 V i fd n).2=0→(Ac1 V i fd n).1.kind≠3:=by
  intro h;unfold Ac1 at h ⊢;repeat' split
  all_goals exact h3
 have hn:(Ac1 V i fd n).2=0→0≤n∧n≤32:=by
  intro h;unfold Ac1 at h
  split at h
  ·rename_i h1;exact absurd h h1
  ·split at h
   ·cases h
   ·split at h
    ·cases h
    ·omega
 unfold B11
 refine Ct.of Hr9 rfl fun h r=>Tr.eq (H40 ..) ?_;refine Je ?_
 refine Yn fun b0 h=>?_
 refine Yc (Js6 c k F X ok V A i fd n hi h3) ?_;rintro _ h ⟨rfl,o⟩<;>refine Jh o ?_
 generalize (Ac1 V i fd n).1=x at *
 generalize (Ac1 V i fd n).2=e at *
 (refine Jc ?_;intros)
 refine Yn fun b1 h=>?_
 (refine Jb ?_;intros)
 by_cases h1:e≠0∨n=0
 ·rw [if_pos h1]
  have hg:∀ {h:NN.H} {r:List HP},Tr (pt b1 (.cells D3 false (Ak6 x))::cmC c k F X::pt b0 (.cells Q2 false (P3 0 0 false))::r) h (bnd (A7 U5 [int e] h) fun r_3 hv_5=>aAgg r_3 fun x_2=>ck (List.length x_2=4) (pAgg ⟨b0,0,none⟩ x_2 hv_5 fun hv_6=>gAgg ⟨b0,0,none⟩ 4 hv_6 fun x_3=>some (Value.agg ⟨x_3⟩,hv_6)))
   fun (v:Value) h'=>∃ a cap X',See X' V∧vT X'=vT X∧v=.agg ⟨[int 0,int e,.slice a 0 cap,.bool false]⟩∧Own h' (cmC c k F X'::slC false A5 1 a 0 cap (A0 [])::r):=by
   intro h r
   refine Yc (B56 e) ?_;rintro _ h ⟨rfl,o⟩<;>(refine Jf o ?_;intros)
   refine Ys fun o=>?_
   exact ⟨none,0,X,A,rfl,rfl,nil o.sub⟩
  by_cases h2:e=0
  ·refine Yb (Yf (by simpa using h2) ?_)
   refine Ys fun o=>(?_:Tr _ _ _ _) o;refine Je ?_
   refine Yt (by simpa using h1.resolve_left (by simpa using h2)) ?_
   exact hg
  ·refine Yb (Yt (by simpa using h2) ?_)
   refine Ys fun o=>(?_:Tr _ _ _ _) o;refine Je ?_
   refine Yt rfl ?_
   exact hg
 rw [if_neg h1]
 have h2:e=0:=Classical.byContradiction fun h=>h1 (.inl h)
 have h0:n≠0:=fun h=>h1 (.inr h)
 have hpx:=hp h2
 have hnn:=hn h2
 have hkk:=hk3 h2
 subst h2
 refine Yb (Yf rfl ?_)
 refine Ys fun o=>(?_:Tr _ _ _ _) o;refine Je ?_
 refine Yf (by simpa using h0) ?_
 (refine Ja ?_;intros)
 refine Yc (Ix0 c k F X ok A.c x hkk (by omega)) ?_
 rintro _ h ⟨b,b2,rfl,o⟩
 refine Jh o ?_
 have hvp:=A.p x.pipe hpx
 rw [hvp]
 have hq:(V.P x.pipe).2=1→okP (V.P x.pipe).1=true:=fun h=>by
  rcases G57 A.c (i:=x.pipe) (by omega) with ⟨h6,_⟩|⟨_,h6⟩
  ·rw [hvp,h] at h6;cases h6
  ·rw [hvp] at h6;exact h6
 generalize hqq:(V.P x.pipe).1=q at *
 generalize (V.P x.pipe).2=st at *
 (refine Jc ?_;intros)
 refine Yn fun b3 h=>?_
 (refine Jb ?_;intros)
 by_cases h5:st=1
 case neg =>
  rw [if_pos h5]
  refine Yt (by simpa using h5) ?_
  refine Yc (B56 105) ?_;rintro _ h ⟨rfl,o⟩<;>(refine Jf o ?_;intros)
  refine Ys fun o=>?_
  exact ⟨none,0,X,A,rfl,rfl,nil o.sub⟩
 have n5:¬ st≠1:=by simpa using h5
 rw [if_neg n5]
 refine Yf (by simpa using h5) ?_
 replace hq:=hq h5
 obtain ⟨r1,r2,r3,r4⟩:=Ao7 hq
 (refine Jb ?_;intros)
 by_cases h6:q.count=0
 ·rw [if_pos h6]
  refine Yb (Yt (by simpa using h6) ?_)
  (refine Jb ?_;intros)
  have hw:∀ {h:NN.H} {r:List HP},Tr (pt b3 (.cells De3 false (Ar7 q (Dz9 b b2)))::cmC c k F X::pt b (.cells U2 false [P0 c])::pt b2 (.cells D3 false (Ak6 x))::pt b1 (.cells D3 false (Ak6 x))::pt b0 (.cells Q2 false (P3 0 0 false))::r) h
    (gAgg ⟨b1,0,none⟩ 4 h fun x_14=>bnd (A7 A38 [.agg ⟨x_14⟩] h) fun r_8 hv_15=>aAgg r_8 fun x_15=>ck (List.length x_15=4) (pAgg ⟨b0,0,none⟩ x_15 hv_15 fun hv_16=>gAgg ⟨b0,0,none⟩ 4 hv_16 fun x_16=>some (Value.agg ⟨x_16⟩,hv_16)))
    fun (v:Value) h'=>∃ a cap X',See X' (if x.flags=1 then ((⟨[],111,false⟩:RdS),V) else (⟨[],0,true⟩,V)).2∧vT X'=vT X∧v=.agg ⟨[int (if x.flags=1 then ((⟨[],111,false⟩:RdS),V) else (⟨[],0,true⟩,V)).1.bs.length,int (if x.flags=1 then ((⟨[],111,false⟩:RdS),V) else (⟨[],0,true⟩,V)).1.e,.slice a (if x.flags=1 then ((⟨[],111,false⟩:RdS),V) else (⟨[],0,true⟩,V)).1.bs.length cap,.bool (if x.flags=1 then ((⟨[],111,false⟩:RdS),V) else (⟨[],0,true⟩,V)).1.blk]⟩∧Own h' (cmC c k F X'::slC false A5 1 a (if x.flags=1 then ((⟨[],111,false⟩:RdS),V) else (⟨[],0,true⟩,V)).1.bs.length cap (A0 (if x.flags=1 then ((⟨[],111,false⟩:RdS),V) else (⟨[],0,true⟩,V)).1.bs)::r):=by
   intro h r
   (refine Ja ?_;intros)
   refine Yc (Gx4 x) ?_;rintro _ h ⟨rfl,o⟩<;>refine Jh o ?_
   by_cases h7:x.flags=1
   ·rw [if_pos h7]
    (refine Ja ?_;intros)
    refine Ys fun o=>?_
    rw [if_pos h7]
    exact ⟨none,0,X,A,rfl,rfl,nil o.sub⟩
   ·rw [if_neg h7]
    (refine Ja ?_;intros)
    refine Ys fun o=>?_
    rw [if_neg h7]
    exact ⟨none,0,X,A,rfl,rfl,nil o.sub⟩
  by_cases h8:x.kind=1
  ·by_cases h9:q.writers=0
   ·rw [if_pos ⟨h8,h9⟩]
    refine Ys fun o=>(?_:Tr _ _ _ _) o;refine Je ?_
    refine Yb (Yt (by simpa using h8) ?_)
    (refine Jb ?_;intros)
    refine Ys fun o=>(?_:Tr _ _ _ _) o;refine Je ?_
    refine Yt (by simpa using h9) ?_
    (refine Ja ?_;intros)
    refine Ys fun o=>?_
    exact ⟨none,0,X,A,rfl,rfl,nil o.sub⟩
   ·rw [if_neg (fun h=>h9 h.2)]
    refine Ys fun o=>(?_:Tr _ _ _ _) o;refine Je ?_
    refine Yb (Yt (by simpa using h8) ?_)
    (refine Jb ?_;intros)
    refine Ys fun o=>(?_:Tr _ _ _ _) o;refine Je ?_
    refine Yf (by simpa using h9) ?_
    (refine Jb ?_;intros)
    refine Yt (by simpa using h6) ?_
    exact hw
  ·rw [if_neg (fun h=>h8 h.1)]
   refine Ys fun o=>(?_:Tr _ _ _ _) o;refine Je ?_
   refine Yb (Yf (by simpa using h8) ?_)
   refine Ys fun o=>(?_:Tr _ _ _ _) o;refine Je ?_
   refine Yf rfl ?_
   (refine Jb ?_;intros)
   refine Yt (by simpa using h6) ?_
   exact hw
 rw [if_neg h6]
 refine Yb (Yf (by simpa using h6) ?_)
 refine Ys fun o=>(?_:Tr _ _ _ _) o;refine Je ?_
 refine Yb (Yf rfl ?_)
 refine Ys fun o=>(?_:Tr _ _ _ _) o;refine Je ?_
 refine Yf rfl ?_
 (refine Jb ?_;intros)
 refine Yf (by simpa using h6) ?_
 (refine Ja ?_;intros)
 refine Yc (I83 q hq n hnn) ?_
 rintro _ h ⟨a,cap,rfl,o⟩
 refine Jh o ?_
 have hm:min n.toNat q.count.toNat≤q.count.toNat:=by omega
 have hlen:((Q3 q).take (min n.toNat q.count.toNat)).length=min n.toNat q.count.toNat:=by
  rw [List.length_take,Eq6];omega
 rw [hlen]
 have hok:=H30 hq hm
 generalize min n.toNat q.count.toNat=m at *
 obtain ⟨w1,_⟩:=Ay5 A.c (i:=x.pipe) (by omega) hok
 have hwp:=A.wp hpx hok
 have hvt:=Hc1 A.c (i:=x.pipe) (by omega) hok
 generalize Bh4 q m=q2 at *
 have hfv:(Ar7 q (Dz9 b b2))[36]?=some (Dz9 b b2):=by
  unfold Ar7;rw [List.getElem?_append_right (by rw [Ah4 q.len];exact Nat.le_refl _),Ah4 q.len];rfl
 (refine Jc ?_;intros)
 refine Yn fun b4 h=>?_
 (refine Ja ?_;intros)
 simp only [List.nil_append]
 refine Yc (G98 c k b b2 F X ok x q2) ?_;rintro _ h ⟨rfl,o⟩<;>refine Jh o ?_
 rw [w1]
 dsimp only
 (refine Ja ?_;intros)
 refine Ys fun o=>?_
 exact ⟨a,cap,A80 X x.pipe q2,hwp,hvt,rfl,o.sub⟩
structure WrS where
 n:Int
 e:Int
 blk:Bool
def D46 (V:VW) (i fd:Int) (l:List UInt8):WrS × VW :=
 if (ofW V i fd).2≠0 then (⟨0,(ofW V i fd).2,false⟩,V)
 else if (ofW V i fd).1.2.kind≠2 then (⟨0,109,false⟩,V)
 else if l.length>32 then (⟨0,122,false⟩,V)
 else if l.length=0 then (⟨0,0,false⟩,V)
 else if (V.P (ofW V i fd).1.2.pipe).2≠1 then (⟨0,105,false⟩,V)
 else if 32-(V.P (ofW V i fd).1.2.pipe).1.count=0∨l.length≤8∧32-(V.P (ofW V i fd).1.2.pipe).1.count<l.length then
  if (ofW V i fd).1.2.flags=1 then (⟨0,111,false⟩,V) else (⟨0,0,true⟩,V)
 else (⟨(N9 (V.P (ofW V i fd).1.2.pipe).1 l).2,0,false⟩,wP V (ofW V i fd).1.2.pipe (N9 (V.P (ofW V i fd).1.2.pipe).1 l).1)
theorem Eq8:∀ (l:List UInt8) (p:PipeS),okP p=true→okP (N9 p l).1=true
 | [],p,h=>h
 | b::l,p,h=>by
  unfold N9
  split
  ·exact h
  ·rename_i hc;exact Eq8 l _ (Gs4 h hc b)
abbrev wrL (w:WrS):List Value:=P3 w.n w.e w.blk
theorem Iz4 (c k:Nat) (F:Fr) (X:CX) (ok:FrOk F) (V:VW) (A:See X V) (i fd:Int) (hi:0≤i∧i<8) (hp:(ofW V i fd).2=0→(ofW V i fd).1.2.kind=2→0≤(ofW V i fd).1.2.pipe∧(ofW V i fd).1.2.pipe<6∧(V.P (ofW V i fd).1.2.pipe).1.readers≠0)
  (pb:HP) (a:Option Addr) (ro:Bool) (cc:Nat) (l:List UInt8) (hl:l.length≤A8) [ks:IsSl pb a ro A5 1 l.length cc (A0 l)] :
  Ct A7 B21 [P0 c,int i,int fd,.slice a l.length cc] [cmC c k F X,pb] fun v own=>∃ X',See X' (D46 V i fd l).2∧vT X'=vT X∧v=.agg ⟨wrL (D46 V i fd l).1⟩∧own [cmC c k F X',pb]:=by
 have eo:=A.ofv hi fd
 unfold D46
 refine Ct.of Hn2 rfl fun h r=>Tr.eq (Hl6 ..) ?_;refine Je ?_
 refine Yn fun b0 h=>?_
 refine Yc (Is7 c k F X ok A.c i fd hi) ?_;rintro _ h ⟨rfl,o⟩<;>refine Jh o ?_
 rw [eo]
 (refine Jc ?_;intros)
 refine Yn fun b1 h=>?_
 (refine Jb ?_;intros)
 generalize (ofW V i fd).1.2=x at *
 generalize (ofW V i fd).2=e at *
 by_cases h1:e=0
 case neg =>
  rw [if_pos h1]
  refine Yt (by simpa using h1) ?_
  refine Yc (B56 e) ?_;rintro _ h ⟨rfl,o⟩<;>(refine Jf o ?_;intros)
  refine Ys fun o=>?_
  exact ⟨X,A,rfl,rfl,o.sub⟩
 have n1:¬ e≠0:=by simpa using h1
 rw [if_neg n1]
 refine Yf (by simpa using h1) ?_
 (refine Jb ?_;intros)
 by_cases h2:x.kind=2
 case neg =>
  rw [if_pos h2]
  refine Yt (by simpa using h2) ?_
  refine Yc (B56 109) ?_;rintro _ h ⟨rfl,o⟩<;>(refine Jf o ?_;intros)
  refine Ys fun o=>?_
  exact ⟨X,A,rfl,rfl,o.sub⟩
 have n2:¬ x.kind≠2:=by simpa using h2
 rw [if_neg n2]
 refine Yf (by simpa using h2) ?_
 obtain ⟨hp0,hp6,hrd⟩:=hp h1 h2
 by_cases h3:l.length>32
 ·rw [if_pos h3]
  refine Yt (by rw [decide_eq_true_iff];omega) ?_
  refine Yc (B56 122) ?_;rintro _ h ⟨rfl,o⟩<;>(refine Jf o ?_;intros)
  refine Ys fun o=>?_
  exact ⟨X,A,rfl,rfl,o.sub⟩
 rw [if_neg h3]
 refine Yf (by rw [decide_eq_false_iff_not];omega) ?_
 by_cases h4:l.length=0
 ·rw [if_pos h4]
  refine Yt (by rw [beq_iff_eq];omega) ?_
  (refine Ja ?_;intros)
  refine Ys fun o=>?_
  exact ⟨X,A,rfl,rfl,o.sub⟩
 rw [if_neg h4]
 refine Yf (by rw [beq_eq_false_iff_ne];omega) ?_
 (refine Ja ?_;intros)
 refine Yc (Ix0 c k F X ok A.c x (by omega) (by omega)) ?_
 rintro _ h ⟨b,b2,rfl,o⟩
 refine Jh o ?_
 have hvp:=A.p x.pipe ⟨hp0,hp6⟩
 rw [hvp]
 have hq:(V.P x.pipe).2=1→okP (V.P x.pipe).1=true:=fun h=>by
  rcases G57 A.c (i:=x.pipe) (by omega) with ⟨h6,_⟩|⟨_,h6⟩
  ·rw [hvp,h] at h6;cases h6
  ·rw [hvp] at h6;exact h6
 generalize hqq:(V.P x.pipe).1=q at *
 generalize (V.P x.pipe).2=st at *
 (refine Jc ?_;intros)
 refine Yn fun b3 h=>?_
 (refine Jb ?_;intros)
 by_cases h5:st=1
 case neg =>
  rw [if_pos h5]
  refine Yt (by simpa using h5) ?_
  refine Yc (B56 105) ?_;rintro _ h ⟨rfl,o⟩<;>(refine Jf o ?_;intros)
  refine Ys fun o=>?_
  exact ⟨X,A,rfl,rfl,o.sub⟩
 have n5:¬ st≠1:=by simpa using h5
 rw [if_neg n5]
 refine Yf (by simpa using h5) ?_
 replace hq:=hq h5
 obtain ⟨r1,r2,r3,r4⟩:=Ao7 hq
 have e1:IntKind.wrap .i64 (32-q.count)=32-q.count:=by rw [B4];omega
 (refine Jb ?_;intros)
 refine Yf (by simpa using hrd) ?_
 (refine Jb ?_;intros)
 rw [e1]
 by_cases a1:32-q.count=0
 ·rw [if_pos (.inl a1)]
  refine Yb (Yt (by rw [beq_iff_eq];exact a1) ?_)
  refine Ys fun o=>(?_:Tr _ _ _ _) o;refine Je ?_
  refine Yt rfl ?_
  (refine Ja ?_;intros)
  refine Yc (Gx4 x) ?_;rintro _ h ⟨rfl,o⟩<;>refine Jh o ?_
  by_cases h7:x.flags=1
  ·rw [if_pos h7,if_pos h7]
   (refine Ja ?_;intros)
   refine Ys fun o=>?_
   exact ⟨X,A,rfl,rfl,o.sub⟩
  ·rw [if_neg h7,if_neg h7]
   (refine Ja ?_;intros)
   refine Ys fun o=>?_
   exact ⟨X,A,rfl,rfl,o.sub⟩
 refine Yb (Yf (by rw [beq_eq_false_iff_ne];exact a1) ?_)
 by_cases a2:l.length≤8
 ·by_cases a3:32-q.count<l.length
  ·rw [if_pos (.inr ⟨a2,a3⟩)]
   refine Yb (Yt (by rw [decide_eq_true_iff];omega) ?_)
   refine Ys fun o=>(?_:Tr _ _ _ _) o;refine Je ?_
   refine Ys fun o=>(?_:Tr _ _ _ _) o;refine Je ?_
   refine Yt (by rw [decide_eq_true_iff];exact a3) ?_
   (refine Ja ?_;intros)
   refine Yc (Gx4 x) ?_;rintro _ h ⟨rfl,o⟩<;>refine Jh o ?_
   by_cases h7:x.flags=1
   ·rw [if_pos h7,if_pos h7]
    (refine Ja ?_;intros)
    refine Ys fun o=>?_
    exact ⟨X,A,rfl,rfl,o.sub⟩
   ·rw [if_neg h7,if_neg h7]
    (refine Ja ?_;intros)
    refine Ys fun o=>?_
    exact ⟨X,A,rfl,rfl,o.sub⟩
  ·rw [if_neg (fun h=>h.elim a1 fun h=>a3 h.2)]
   refine Yb (Yt (by rw [decide_eq_true_iff];omega) ?_)
   refine Ys fun o=>(?_:Tr _ _ _ _) o;refine Je ?_
   refine Ys fun o=>(?_:Tr _ _ _ _) o;refine Je ?_
   refine Yf (by rw [decide_eq_false_iff_not];exact a3) ?_
   (refine Ja ?_;intros)
   refine Yc (Ii4 q hq pb a ro cc l (by omega)) ?_;rintro _ h ⟨rfl,o⟩<;>refine Jh o ?_
   have hok:=Eq8 l q hq
   obtain ⟨w1,_⟩:=Ay5 A.c (i:=x.pipe) (by omega) hok
   have hwp:=A.wp ⟨hp0,hp6⟩ hok
   have hvt:=Hc1 A.c (i:=x.pipe) (by omega) hok
   generalize (N9 q l).1=q2 at *
   have hfv:(Ar7 q (Dz9 b b2))[36]?=some (Dz9 b b2):=by
    unfold Ar7;rw [List.getElem?_append_right (by rw [Ah4 q.len];exact Nat.le_refl _),Ah4 q.len];rfl
   (refine Jc ?_;intros)
   refine Yn fun b4 h=>?_
   (refine Ja ?_;intros)
   simp only [List.nil_append]
   refine Yc (G98 c k b b2 F X ok x q2) ?_;rintro _ h ⟨rfl,o⟩<;>refine Jh o ?_
   rw [w1]
   dsimp only
   (refine Ja ?_;intros)
   refine Ys fun o=>?_
   exact ⟨A80 X x.pipe q2,hwp,hvt,rfl,o.sub⟩
 ·rw [if_neg (fun h=>h.elim a1 fun h=>a2 h.1)]
  refine Yb (Yf (by rw [decide_eq_false_iff_not];omega) ?_)
  refine Ys fun o=>(?_:Tr _ _ _ _) o;refine Je ?_
  refine Ys fun o=>(?_:Tr _ _ _ _) o;refine Je ?_
  refine Yf rfl ?_
  (refine Ja ?_;intros)
  refine Yc (Ii4 q hq pb a ro cc l (by omega)) ?_;rintro _ h ⟨rfl,o⟩<;>refine Jh o ?_
  have hok:=Eq8 l q hq
  obtain ⟨w1,_⟩:=Ay5 A.c (i:=x.pipe) (by omega) hok
  have hwp:=A.wp ⟨hp0,hp6⟩ hok
  have hvt:=Hc1 A.c (i:=x.pipe) (by omega) hok
  generalize (N9 q l).1=q2 at *
  have hfv:(Ar7 q (Dz9 b b2))[36]?=some (Dz9 b b2):=by
   unfold Ar7;rw [List.getElem?_append_right (by rw [Ah4 q.len];exact Nat.le_refl _),Ah4 q.len];rfl
  (refine Jc ?_;intros)
  refine Yn fun b4 h=>?_
  (refine Ja ?_;intros)
  simp only [List.nil_append]
  refine Yc (G98 c k b b2 F X ok x q2) ?_;rintro _ h ⟨rfl,o⟩<;>refine Jh o ?_
  rw [w1]
  dsimp only
  (refine Ja ?_;intros)
  refine Ys fun o=>?_
  exact ⟨A80 X x.pipe q2,hwp,hvt,rfl,o.sub⟩
theorem Hi7 (l:List UInt8) (j n:Nat) (x:UInt8) (h:j<l.length):(l.set j x).getD n 0=if n=j then x else l.getD n 0:=by
 rw [List.getD_eq_getElem?_getD,List.getD_eq_getElem?_getD,List.getElem?_set]
 by_cases hj:j=n
 ·subst hj;simp [h]
 ·rw [if_neg hj,if_neg (fun e=>hj e.symm)]
theorem Iq7 {p:PipeS} (hp:okP p=true) (hc:p.count≠32) (b:UInt8):Q3 (A16 p b)=Q3 p++[b]:=by
 obtain ⟨r1,r2,r3,r4⟩:=Ao7 hp
 have hl:=p.len
 have hj:((p.head+p.count)%32).toNat<p.data.length:=by rw [hl];omega
 have e:(A16 p b).count.toNat=p.count.toNat+1:=by show (p.count+1).toNat=_;omega
 unfold Q3
 rw [e]
 unfold bytesN
 rw [List.range_succ,List.map_append]
 congr 1
 ·refine List.map_congr_left fun j hj2=>?_
  have:=List.mem_range.1 hj2
  show (p.data.set _ b).getD (((p.head+j)%32).toNat) 0=_
  rw [Hi7 _ _ _ _ hj,if_neg (by omega)]
 ·show [(p.data.set _ b).getD (((p.head+(p.count.toNat:Nat))%32).toNat) 0]=[b]
  rw [Hi7 _ _ _ _ hj,if_pos (by rw [show ((p.count.toNat:Nat):Int)=p.count by omega])]
theorem Hg0:∀ (l:List UInt8) (p:PipeS),okP p=true→(N9 p l).2=min (l.length:Int) (32-p.count)∧(N9 p l).1.count=p.count+(N9 p l).2∧Q3 (N9 p l).1=Q3 p++l.take (N9 p l).2.toNat∧(N9 p l).1.readers=p.readers∧(N9 p l).1.writers=p.writers
 | [],p,h=>by
  have:=Ao7 h
  refine ⟨by show (0:Int)=min ((([]:List UInt8).length:Nat):Int) (32-p.count);rw [List.length_nil];omega,by simp [N9],by simp [N9],rfl,rfl⟩
 | b::l,p,h=>by
  have hr:=Ao7 h
  unfold N9
  by_cases hc:p.count=32
  ·rw [if_pos hc]
   refine ⟨by simp;omega,by simp,by simp,rfl,rfl⟩
  ·rw [if_neg hc]
   obtain ⟨h1,h2,h3,h4,h5⟩:=Hg0 l (A16 p b) (Gs4 h hc b)
   have hn:=Hg9 l (A16 p b)
   have hk:(A16 p b).count=p.count+1:=rfl
   refine ⟨?_,?_,?_,h4,h5⟩
   ·show (N9 (A16 p b) l).2+1=_
    rw [h1,hk,List.length_cons];omega
   ·show (N9 (A16 p b) l).1.count=p.count+((N9 (A16 p b) l).2+1)
    rw [h2,hk];omega
   ·show Q3 (N9 (A16 p b) l).1=Q3 p++(b::l).take ((N9 (A16 p b) l).2+1).toNat
    rw [h3,Iq7 h hc,show ((N9 (A16 p b) l).2+1).toNat=(N9 (A16 p b) l).2.toNat+1 by omega,List.take_succ_cons]
    simp
theorem In3 {p:PipeS} (hp:okP p=true) {m:Nat} (hm:m≤p.count.toNat):Q3 (Bh4 p m)=(Q3 p).drop m∧(Bh4 p m).count=p.count-m∧(Bh4 p m).readers=p.readers∧(Bh4 p m).writers=p.writers:=by
 obtain ⟨r1,r2,r3,r4⟩:=Ao7 hp
 by_cases h0:0<m
 case neg =>
  obtain rfl:m=0:=by omega
  rw [show Bh4 p 0=p from if_neg h0]
  exact ⟨by simp,by simp,rfl,rfl⟩
 rw [show Bh4 p m=⟨(p.head+m)%32,p.count-m,p.readers,p.writers,p.data,p.len⟩ from if_pos h0]
 refine ⟨?_,rfl,rfl,rfl⟩
 unfold Q3 bytesN
 dsimp only
 rw [← List.map_drop,List.range_eq_range' ,List.range_eq_range',List.drop_range',Nat.mul_one,Nat.zero_add]
 rw [show (p.count-(m:Int)).toNat=p.count.toNat-m by omega]
 rw [show List.range' m (p.count.toNat-m)=(List.range' 0 (p.count.toNat-m)).map fun j=>m+j by rw [List.map_add_range'];rfl]
 rw [List.map_map]
 refine List.map_congr_left fun j hj=>?_
 show p.data.getD ((((p.head+m)%32+j)%32).toNat) 0=p.data.getD (((p.head+((m+j:Nat):Int))%32).toNat) 0
 congr 1
 omega
def FiJ (c k:Nat) (F:Fr) (X:CX) (V':VW) (i op a b:Int) (d:List UInt8) (n e:Int) (bs:List UInt8) (blk:Bool):Prop:=∀ (da:Option Addr) (dc:Nat),
 Ct A7 Bj8 [P0 c,int i,.agg ⟨[int op,int a,int b,.slice da d.length dc]⟩] [cmC c k F X,dC da dc d] fun v own=>∃ x cap X',See X' V'∧v=.tuple ⟨[.agg ⟨[int n,int e,.slice x bs.length cap,.bool blk]⟩,.bool true]⟩∧own [cmC c k F X',dC x cap bs,dC da dc d]
def DoJ (c k:Nat) (F:Fr) (X:CX) (V':VW) (i op a b:Int) (d:List UInt8) (n e:Int) (bs:List UInt8) (blk:Bool):Prop:=∀ (da:Option Addr) (dc:Nat),
 Ct A7 Dz8 [P0 c,int i,.agg ⟨[int op,int a,int b,.slice da d.length dc]⟩] [cmC c k F X,dC da dc d] fun v own=>∃ x cap X',See X' V'∧v=.agg ⟨[int n,int e,.slice x bs.length cap,.bool blk]⟩∧own [cmC c k F X',dC x cap bs,dC da dc d]
theorem Bv3 {l:List HP} {h:H} {α:Type} {Q:α→H→Prop} {z:Option (α × H)} (t:Tr (dC none 0 []::l) h z Q):Tr l h z Q:=G6 false A5 1 (by omega) t
theorem Hv3 {c:Nat} {i:Int} {op:Int} (ho:op<9∨16<op) (a b:Int) (da:Option Addr) (dn dc:Nat):Ct A7 Bj8 [P0 c,int i,.agg ⟨[int op,int a,int b,.slice da dn dc]⟩] [] fun v own=>v=.tuple ⟨[.agg ⟨P3 0 0 false⟩,.bool false]⟩∧own []:=by
 refine Ct.of Bk6 rfl fun h r=>Tr.eq (Bj4 ..) ?_;refine Je ?_
 refine Tr.nw fun b1 h=>?_
 refine Tr.nw fun b2 h=>?_
 (refine Jc ?_;unhygienic intros)
 refine Tr.condF (by simp;omega) ?_
 refine Tr.condF (by simp;omega) ?_
 refine Tr.condF (by simp;omega) ?_
 refine Tr.condF (by simp;omega) ?_
 refine Tr.condF (by simp;omega) ?_
 refine Tr.condF (by simp;omega) ?_
 refine Tr.condF (by simp;omega) ?_
 refine Tr.condF (by simp;omega) ?_
 (refine Jc ?_;unhygienic intros)
 refine Tr.some fun o=>?_
 exact ⟨rfl,o.sub⟩
section
variable {c k:Nat} {F:Fr} {X:CX} {V V':VW} (ok:FrOk F) (A:See X V) {i:Int} (hi:0≤i∧i<8) {n e:Int}
include ok A hi
theorem Ip6 (hR:Gj4 V i=(P3 n e false,V')) (a b:Int) (d:List UInt8):FiJ c k F X V' i 9 a b d n e [] false:=by
 intro da dc
 have P:=A.pipe hi
 rw [hR] at P
 refine Ct.of Bk6 rfl fun h r=>Tr.eq (Bj4 ..) ?_;refine Je ?_
 refine Tr.nw fun b1 h=>?_
 refine Tr.nw fun b2 h=>?_
 (refine Jd ?_;unhygienic intros)
 refine Tr.xCall (Jd4 c k F X ok A.c i hi) ?_;rintro _ h ⟨rfl,o⟩<;>refine Jh o ?_
 rw [P.1]
 (refine Jc ?_;unhygienic intros)
 refine Bv3 ?_
 refine Tr.some fun o=>?_
 exact ⟨none,0,_,P.2,rfl,o.sub⟩
theorem B59 {op a b:Int} {d bs:List UInt8} {blk:Bool} (J:FiJ c k F X V' i op a b d n e bs blk):DoJ c k F X V' i op a b d n e bs blk:=by
 intro da dc
 have J:=J da dc
 refine Ct.of Ev2 rfl fun h r=>Tr.eq (Eq9 ..) ?_;refine Je ?_
 refine Tr.nw fun b1 h=>?_
 refine Tr.nw fun b2 h=>?_
 refine Tr.xCall (A37 c k F X ok) ?_;rintro _ h ⟨rfl,o⟩<;>refine Jh o ?_
 rw [Af8 A.c]
 (refine Jc ?_;unhygienic intros)
 refine Tr.xCall (J) ?_;rintro _ h ⟨x,cap,X',A',rfl,o⟩<;>refine Jh o ?_
 (refine Jc ?_;unhygienic intros)
 refine Tr.nw fun b3 h=>?_
 (refine Jc ?_;unhygienic intros)
 refine Tr.some fun o=>?_
 exact ⟨x,cap,X',A',rfl,o.sub⟩
theorem Gp4 (fd b:Int) (d:List UInt8) (hR:Bs7 V i fd=(P3 n e false,V')):FiJ c k F X V' i 12 fd b d n e [] false:=by
 intro da dc
 have P:=A.closeFd hi fd
 rw [hR] at P
 refine Ct.of Bk6 rfl fun h r=>Tr.eq (Bj4 ..) ?_;refine Je ?_
 refine Tr.nw fun b1 h=>?_
 refine Tr.nw fun b2 h=>?_
 (refine Jd ?_;unhygienic intros)
 refine Tr.xCall (Iv5 c k F X ok A.c i fd hi) ?_;rintro _ h ⟨rfl,o⟩<;>refine Jh o ?_
 rw [P.1]
 (refine Jc ?_;unhygienic intros)
 refine Bv3 ?_
 refine Tr.some fun o=>?_
 exact ⟨none,0,_,P.2,rfl,o.sub⟩
theorem Es9 (fd m:Int) (d:List UInt8) {bs:List UInt8} {blk:Bool} (h3:(ofW V i fd).1.2.kind≠3) (hp:(Ac1 V i fd m).2=0→0≤(Ac1 V i fd m).1.pipe∧(Ac1 V i fd m).1.pipe<6)
  (hR:B11 V i fd m=(⟨bs,e,blk⟩,V')):FiJ c k F X V' i 10 fd m d bs.length e bs blk:=by
 intro da dc
 have P:=Jc5 c k F X ok V A i fd m hi h3 hp
 rw [hR] at P
 refine Ct.of Bk6 rfl fun h r=>Tr.eq (Bj4 ..) ?_;refine Je ?_
 refine Tr.nw fun b1 h=>?_
 refine Tr.nw fun b2 h=>?_
 (refine Jd ?_;unhygienic intros)
 refine Tr.xCall (P) ?_;rintro _ h ⟨x,cap,X',A',_,rfl,o⟩<;>refine Jh o ?_
 (refine Jc ?_;unhygienic intros)
 refine Tr.some fun o=>?_
 exact ⟨x,cap,X',A',rfl,o.sub⟩
theorem Ib5 (fd b:Int) (d:List UInt8) (hl:d.length≤A8) (hp:(ofW V i fd).2=0→(ofW V i fd).1.2.kind=2→0≤(ofW V i fd).1.2.pipe∧(ofW V i fd).1.2.pipe<6∧(V.P (ofW V i fd).1.2.pipe).1.readers≠0)
  (hR:D46 V i fd d=(⟨n,e,false⟩,V')):FiJ c k F X V' i 11 fd b d n e [] false:=by
 intro da dc
 have P:=Iz4 c k F X ok V A i fd hi hp (dC da dc d) da false dc d hl
 rw [hR] at P
 refine Ct.of Bk6 rfl fun h r=>Tr.eq (Bj4 ..) ?_;refine Je ?_
 refine Tr.nw fun b1 h=>?_
 refine Tr.nw fun b2 h=>?_
 (refine Jd ?_;unhygienic intros)
 refine Tr.xCall (P) ?_;rintro _ h ⟨X',A',_,rfl,o⟩<;>refine Jh o ?_
 (refine Jc ?_;unhygienic intros)
 refine Bv3 ?_
 refine Tr.some fun o=>?_
 exact ⟨none,0,X',A',rfl,o.sub⟩
theorem Jj4 (a b:Int) (d:List UInt8) (hR:Gh5 V i=(P3 n e false,V')):DoJ c k F X V' i 2 a b d n e [] false:=by
 intro da dc
 have P:=A.fork hi
 rw [hR] at P
 refine Ct.of Ev2 rfl fun h r=>Tr.eq (Eq9 ..) ?_;refine Je ?_
 refine Tr.nw fun b1 h=>?_
 refine Tr.nw fun b2 h=>?_
 refine Tr.xCall (A37 c k F X ok) ?_;rintro _ h ⟨rfl,o⟩<;>refine Jh o ?_
 rw [Af8 A.c]
 (refine Jc ?_;unhygienic intros)
 refine Tr.xCall (Hv3 (by omega) a b da d.length dc) ?_;rintro _ h ⟨rfl,o⟩<;>refine Jh o ?_
 (refine Jc ?_;unhygienic intros)
 refine Tr.nw fun b3 h=>?_
 (refine Jd ?_;unhygienic intros)
 refine Tr.xCall (Jj2 c k F X ok A.c i hi) ?_;rintro _ h ⟨rfl,o⟩<;>refine Jh o ?_
 rw [P.1]
 (refine Jc ?_;unhygienic intros)
 refine Bv3 ?_
 refine Tr.some fun o=>?_
 exact ⟨none,0,_,P.2,rfl,o.sub⟩
theorem Js4 {p:ProcS} (hq:Qt V i p) (a b:Int) (d:List UInt8):DoJ c k F X V i 1 a b d i 0 [] false:=by
 intro da dc
 have es:=A.self hi
 have e2:Ai0 V i=(p,0):=by unfold Ai0;rw [hq.v,if_pos ⟨rfl,hq.s⟩]
 rw [e2] at es
 refine Ct.of Ev2 rfl fun h r=>Tr.eq (Eq9 ..) ?_;refine Je ?_
 refine Tr.nw fun b1 h=>?_
 refine Tr.nw fun b2 h=>?_
 refine Tr.xCall (A37 c k F X ok) ?_;rintro _ h ⟨rfl,o⟩<;>refine Jh o ?_
 rw [Af8 A.c]
 (refine Jc ?_;unhygienic intros)
 refine Tr.xCall (Hv3 (by omega) a b da d.length dc) ?_;rintro _ h ⟨rfl,o⟩<;>refine Jh o ?_
 (refine Jc ?_;unhygienic intros)
 refine Tr.nw fun b3 h=>?_
 (refine Jd ?_;unhygienic intros)
 refine Tr.xCall (?_:Ct A7 Ae6 [P0 c,int i,.agg ⟨[int 1,int a,int b,.slice da d.length dc]⟩] [cmC c k F X] fun v own=>v=.agg ⟨P3 i 0 false⟩∧own [cmC c k F X]) ?_
 ·refine Ct.of Ie7 rfl fun h r=>Tr.eq (Ia1 ..) ?_;refine Je ?_
  refine Tr.nw fun b1 h=>?_
  refine Tr.nw fun b2 h=>?_
  refine Tr.xCall (Ep3 c k F X ok A.c i hi) ?_;rintro _ h ⟨rfl,o⟩<;>refine Jh o ?_
  rw [es]
  (refine Jc ?_;unhygienic intros)
  refine Tr.nw fun b3 h=>?_
  (refine Jd ?_;unhygienic intros)
  refine Tr.some fun o=>?_
  exact ⟨rfl,o.sub⟩
 rintro _ h ⟨rfl,o⟩
 refine (?_:Tr _ _ _ _) o
 refine Je ?_
 (refine Jc ?_;unhygienic intros)
 refine Bv3 ?_
 refine Tr.some fun o=>?_
 exact ⟨none,0,X,A,rfl,o.sub⟩
end
theorem He8 (k:Nat) (S:KS) (A:KA) (s:Nat) (x:Nat) (hs:s<S.sects.length) (hx:A.ss[s]?=some x):CtP A7 Aa7 [P0 k,int s] (Ar3 k S A) (P0 x):=by
 obtain ⟨m,s',q,rg,ea,ec,ma,mc,ms,sa,sc,ss⟩:=A
 simp only at hx
 have hg:(ss.map P0)[s]?=some (.pointer (some ⟨x,0,none⟩)):=by rw [List.getElem?_map,hx];rfl
 refine CtP.of D58 rfl fun h r=>Tr.eq (D47 ..) ?_;refine Je ?_
 refine Tr.orG (c:=false) (fun hb=>?_) ?_
 ·(refine Ja ?_;unhygienic intros)
  refine Tr.some fun o=>?_
  exact ⟨decide_eq_false (by omega),rfl⟩
 refine Tr.condF rfl ?_
 rw [Int.toNat_natCast]
 exact Jz
theorem H06 {l r:List HP} {h:H} {α:Type} {Q:α→H→Prop} {kk:Bool→H→Option (α × H)} {S:KS} (B:Base S) (k q:Nat) (j:Int) (y:HoS) (da:Option Addr) (dc:Nat) (T:SectS) (t:Int) (m:List (List UInt8)) [tk:Takes [kmC S k T t m,pt q (.cells Ax4 false (hoL k j y da dc))] l r]
  (tt:Tr (kmC S k T t m::pt q (.cells Ax4 false (hoL k j y da dc))::r) h (kk (V0 T j y.stamp) h) Q) :
  Tr l h (bnd (A7 Aa7 [P0 k,int 0] h) fun r hv=>aPtr r fun x4=>NN.gInt .i64 ⟨q,1,none⟩ hv fun x5=>same (int j) (int x5) (NN.gInt .i64 ⟨q,6,none⟩ hv fun x6=>same (int y.stamp) (int x6) (bnd (A7 Al4 [.pointer x4,int j,int y.stamp] hv) fun r1 hv3=>aBool r1 fun x7=>kk x7 hv3))) Q:=fun ow=>by
 have ow:=ow.perm tk.pm
 revert ow
 show Tr (kmC S k T t m::pt q (.cells Ax4 false (hoL k j y da dc))::r) h _ Q
 have hlt:0<(L5 (SH S T t) (V4 S.mem (rgP 0) m)).sects.length:=by
  show 0<(S.sects.set 0 T).length;rw [List.length_set,B.sects];decide
 have hT:(L5 (SH S T t) (V4 S.mem (rgP 0) m)).sects[0]?=some T:=by
  show (S.sects.set 0 T)[0]?=some T;rw [B.sects];rfl
 refine B1 (kmC S k T t m) fun u=>?_;refine Je ?_
 generalize hK:L5 (SH S T t) (V4 S.mem (rgP 0) m)=K at hlt hT ⊢
 refine B1 (D6 k K) fun A=>?_;refine Je ?_
 refine O5 10 rfl fun hA=>?_
 obtain ⟨x,hx⟩:∃ x,A.ss[0]?=some x:=⟨A.ss[0]'(by omega),List.getElem?_eq_getElem _⟩
 refine Tr.pcall (He8 k K A 0 x hlt hx) ?_
 (refine Ja ?_;unhygienic intros)
 refine Ah8 I9 A.ss K.sects hx hT ?_
 refine Tr.pcall (Hy7 x T j y.stamp) ?_
 (refine Ja ?_;unhygienic intros)
 refine As7 I9 A.ss K.sects 0 hx hT ?_
 refine A9 (D6 k K) A ?_;refine Je ?_
 subst hK
 refine A9 (kmC S k T t m) () ?_;refine Je ?_
 exact tt
theorem Ja7 (q k:Nat) (j:Int) (y:HoS) (da:Option Addr) (dc:Nat) (n e:Int) (xa:Option Addr) (xn xc:Nat) (blk:Bool) :
  Ct A7 Az6 [P0 q,.agg ⟨[int n,int e,.slice xa xn xc,.bool blk]⟩] [pt q (.cells Ax4 false (hoL k j y da dc))] fun v own=>v=.agg ⟨Et7 0 j y.op y.a y.b da y.d.length dc n e xa xn xc true⟩∧own [pt q (.cells Ax4 false (hoL k j y da dc))]:=by
 refine Ct.of Gs2 rfl fun h r=>Tr.eq (Gw5 ..) ?_;refine Je ?_
 refine Tr.nw fun b1 h=>?_
 refine Tr.nw fun b2 h=>?_
 (refine Jc ?_;unhygienic intros)
 refine Tr.some fun o=>?_
 exact ⟨rfl,o.sub⟩
abbrev Er5:Value:=.tuple ⟨[.agg ⟨Et7 0 0 0 0 0 none 0 0 0 0 none 0 0 false⟩,.bool false]⟩
section
variable {S:KS} (B:Base S) (q k N:Nat) {j:Int} (hj:0≤j∧j<4) (y:HoS) (T:SectS) (t:Int) (ok:TOk N T t) {X:CX} {V:VW} (A:See X V)
include B hj ok A
theorem Jl0 (hh:V0 T j y.stamp=true) {V':VW} {n e:Int} {bs:List UInt8} (J:DoJ y.c k (frH S T t N j) X V' j y.op y.a y.b y.d n e bs false) (h3:y.op≠3) (okL:TOk N (D9 T j y.stamp) t) {p:ProcS} (hp:Qt V' j p) :
  Ct A7 Bd5 [P0 q] [hoC q k j y,kmC S k T t X.m] fun v own=>∃ da dc x cap X',See X' V'∧v=.tuple ⟨[.agg ⟨Et7 0 j y.op y.a y.b da y.d.length dc n e x bs.length cap true⟩,.bool true]⟩ ∧
   own [hoC q k j { y with phase:=0 },kmC S k (D9 T j y.stamp) t X'.m,dC x cap bs]:=by
 refine Ct.of En5 rfl fun h r=>Tr.eq (Eo8 ..) ?_;refine Je ?_
 refine Tr.nw fun b1 h=>?_
 refine B1 (hoC q k j y) fun ⟨ha,hc⟩=>?_;refine Je ?_
 (refine Jc ?_;unhygienic intros)
 refine H06 B k q j y ha hc T t X.m ?_
 rw [hh]
 refine Tr.condF rfl ?_
 (refine Jc ?_;unhygienic intros)
 refine Tr.nw fun b2 h=>?_
 refine Do1 S y.c k N T t j X.m ?_
 rw [A.eX]
 refine Tr.xCall (J ha hc) ?_;rintro _ h ⟨x,cap,X',A',rfl,o⟩<;>refine Jh o ?_
 (refine Jc ?_;unhygienic intros)
 refine Df4 S y.c k N T t j X' A'.c.bad ?_
 refine A9 (hoC q k j y) (ha,hc) ?_;refine Je ?_
 refine Tr.xCall (Hf8 B q k N hj y T t X'.m ok 0) ?_;rintro _ h ⟨rfl,o⟩<;>refine Jh o ?_
 (refine Jc ?_;unhygienic intros)
 refine B1 (hoC q k j { y with phase:=0 }) fun ⟨ga,gc⟩=>?_;refine Je ?_
 refine Tr.xCall (Ja7 q k j { y with phase:=0 } ga gc n e x bs.length cap false) ?_;rintro _ h ⟨rfl,o⟩<;>refine Jh o ?_
 (refine Jc ?_;unhygienic intros)
 refine Tr.nw fun b3 h=>?_
 (refine Jc ?_;unhygienic intros)
 refine Tr.condT (by simpa using h3) ?_
 (refine Jc ?_;unhygienic intros)
 refine A9 (hoC q k j { y with phase:=0 }) (ga,gc) ?_;refine Je ?_
 refine Tr.xCall (Jd6 B q k N hj { y with phase:=0 } (D9 T j y.stamp) t okL A' hp 0 j y.op y.a y.b ga y.d.length gc n e x bs.length cap true) ?_;rintro _ h ⟨X2,A2,rfl,o⟩<;>refine Jh o ?_
 (refine Jc ?_;unhygienic intros)
 refine Tr.some fun o=>?_
 exact ⟨ga,gc,x,cap,X2,A2,rfl,o.sub⟩
theorem Jh7 (hh:V0 T j y.stamp=true) {V':VW} {n e:Int} {bs:List UInt8} (J:DoJ y.c k (frH S T t N j) X V' j y.op y.a y.b y.d n e bs true) :
  Ct A7 Bd5 [P0 q] [hoC q k j y,kmC S k T t X.m] fun v own=>∃ X',See X' V'∧v=Er5∧own [hoC q k j { y with phase:=3 },kmC S k (D9 T j y.stamp) t X'.m]:=by
 refine Ct.of En5 rfl fun h r=>Tr.eq (Eo8 ..) ?_;refine Je ?_
 refine Tr.nw fun b1 h=>?_
 refine B1 (hoC q k j y) fun ⟨ha,hc⟩=>?_;refine Je ?_
 (refine Jc ?_;unhygienic intros)
 refine H06 B k q j y ha hc T t X.m ?_
 rw [hh]
 refine Tr.condF rfl ?_
 (refine Jc ?_;unhygienic intros)
 refine Tr.nw fun b2 h=>?_
 refine Do1 S y.c k N T t j X.m ?_
 rw [A.eX]
 refine Tr.xCall (J ha hc) ?_;rintro _ h ⟨x,cap,X',A',rfl,o⟩<;>refine Jh o ?_
 (refine Jc ?_;unhygienic intros)
 refine Df4 S y.c k N T t j X' A'.c.bad ?_
 refine A9 (hoC q k j y) (ha,hc) ?_;refine Je ?_
 refine Tr.xCall (Hf8 B q k N hj y T t X'.m ok 3) ?_;rintro _ h ⟨rfl,o⟩<;>refine Jh o ?_
 (refine Jc ?_;unhygienic intros)
 refine Tr.some fun o=>?_
 exact ⟨X',A',rfl,o.sub⟩
end
section
variable {S:KS} (B:Base S) (q k N:Nat) {j:Int} (hj:0≤j∧j<4) (y:HoS) (T:SectS) (t:Int) (ok:TOk N T t) {X:CX} {V:VW} (A:See X V) {p:ProcS} (hp:Qt V j p)
include B hj ok A hp
theorem Ee4 (h0:y.phase=1):Ct A7 J7 [P0 q] [hoC q k j y,kmC S k T t X.m] fun v own=>v=Er5∧own [hoC q k j (Eu0 y (B3 T j t).1.1),kmC S k (B3 T j t).2 t X.m]:=by
 have fo:=Bk8 B ok (Ek0 hj)
 have e0:=A.s j (by omega)
 rw [hp.v] at e0
 refine Ct.of Bf0 rfl fun h r=>Tr.eq (Bi6 ..) ?_;refine Je ?_
 refine Tr.nw fun b1 h=>?_
 refine B1 (hoC q k j y) fun ⟨ha,hc⟩=>?_;refine Je ?_
 (refine Jc ?_;unhygienic intros)
 refine Do1 S y.c k N T t j X.m ?_
 rw [A.eX]
 refine Tr.xCall (A37 y.c k (frH S T t N j) X fo) ?_;rintro _ h ⟨rfl,o⟩<;>refine Jh o ?_
 rw [Af8 A.c]
 (refine Jc ?_;unhygienic intros)
 refine Tr.nw fun b2 h=>?_
 refine Tr.xCall (A84 y.c k (frH S T t N j) X fo j) ?_;rintro _ h ⟨rfl,o⟩<;>refine Jh o ?_
 rw [Aj4 A.c (by omega),e0]
 dsimp only
 (refine Jc ?_;unhygienic intros)
 refine Tr.condF rfl ?_
 refine Tr.bnd (Tr.condF rfl ?_)
 (refine Jb ?_;unhygienic intros)
 refine Tr.some fun o=>(?_:Tr _ _ _ _) o;refine Je ?_
 rw [hp.s]
 refine Tr.condF rfl ?_
 (refine Jb ?_;unhygienic intros)
 rw [hp.s]
 refine Tr.condF rfl ?_
 (refine Jb ?_;unhygienic intros)
 rw [h0]
 refine Df4 S y.c k N T t j X A.c.bad ?_
 refine A9 (hoC q k j y) (ha,hc) ?_;refine Je ?_
 refine Tr.condT rfl ?_
 refine Tr.xCall (I88 B q k N hj y T t X.m ok) ?_;rintro _ h ⟨rfl,o⟩<;>refine Jh o ?_
 (refine Jc ?_;unhygienic intros)
 refine Tr.some fun o=>?_
 exact ⟨rfl,o.sub⟩
theorem Es1 (h0:y.phase=2) (hh:V0 T j y.stamp=true) {V':VW} {n e:Int} {bs:List UInt8} (J:DoJ y.c k (frH S T t N j) X V' j y.op y.a y.b y.d n e bs false) (h3:y.op≠3) (okL:TOk N (D9 T j y.stamp) t) {p':ProcS} (hp':Qt V' j p') :
  Ct A7 J7 [P0 q] [hoC q k j y,kmC S k T t X.m] fun v own=>∃ da dc x cap X',See X' V'∧v=.tuple ⟨[.agg ⟨Et7 0 j y.op y.a y.b da y.d.length dc n e x bs.length cap true⟩,.bool true]⟩ ∧
   own [hoC q k j { y with phase:=0 },kmC S k (D9 T j y.stamp) t X'.m,dC x cap bs]:=by
 have fo:=Bk8 B ok (Ek0 hj)
 have e0:=A.s j (by omega)
 rw [hp.v] at e0
 refine Ct.of Bf0 rfl fun h r=>Tr.eq (Bi6 ..) ?_;refine Je ?_
 refine Tr.nw fun b1 h=>?_
 refine B1 (hoC q k j y) fun ⟨ha,hc⟩=>?_;refine Je ?_
 (refine Jc ?_;unhygienic intros)
 refine Do1 S y.c k N T t j X.m ?_
 rw [A.eX]
 refine Tr.xCall (A37 y.c k (frH S T t N j) X fo) ?_;rintro _ h ⟨rfl,o⟩<;>refine Jh o ?_
 rw [Af8 A.c]
 (refine Jc ?_;unhygienic intros)
 refine Tr.nw fun b2 h=>?_
 refine Tr.xCall (A84 y.c k (frH S T t N j) X fo j) ?_;rintro _ h ⟨rfl,o⟩<;>refine Jh o ?_
 rw [Aj4 A.c (by omega),e0]
 dsimp only
 (refine Jc ?_;unhygienic intros)
 refine Tr.condF rfl ?_
 refine Tr.bnd (Tr.condF rfl ?_)
 (refine Jb ?_;unhygienic intros)
 refine Tr.some fun o=>(?_:Tr _ _ _ _) o;refine Je ?_
 rw [hp.s]
 refine Tr.condF rfl ?_
 (refine Jb ?_;unhygienic intros)
 rw [hp.s]
 refine Tr.condF rfl ?_
 (refine Jb ?_;unhygienic intros)
 rw [h0]
 refine Df4 S y.c k N T t j X A.c.bad ?_
 refine A9 (hoC q k j y) (ha,hc) ?_;refine Je ?_
 refine Tr.condF rfl ?_
 refine Tr.condT rfl ?_
 refine Tr.xCall (Jl0 B q k N hj y T t ok A hh J h3 okL hp') ?_;rintro _ h ⟨da,dc,x,cap,X',A',rfl,o⟩<;>refine Jh o ?_
 (refine Jc ?_;unhygienic intros)
 refine Tr.some fun o=>?_
 exact ⟨da,dc,x,cap,X',A',rfl,o.sub⟩
theorem Io9 (h0:y.phase=2) (hh:V0 T j y.stamp=true) {V':VW} {n e:Int} {bs:List UInt8} (J:DoJ y.c k (frH S T t N j) X V' j y.op y.a y.b y.d n e bs true) :
  Ct A7 J7 [P0 q] [hoC q k j y,kmC S k T t X.m] fun v own=>∃ X',See X' V'∧v=Er5∧own [hoC q k j { y with phase:=3 },kmC S k (D9 T j y.stamp) t X'.m]:=by
 have fo:=Bk8 B ok (Ek0 hj)
 have e0:=A.s j (by omega)
 rw [hp.v] at e0
 refine Ct.of Bf0 rfl fun h r=>Tr.eq (Bi6 ..) ?_;refine Je ?_
 refine Tr.nw fun b1 h=>?_
 refine B1 (hoC q k j y) fun ⟨ha,hc⟩=>?_;refine Je ?_
 (refine Jc ?_;unhygienic intros)
 refine Do1 S y.c k N T t j X.m ?_
 rw [A.eX]
 refine Tr.xCall (A37 y.c k (frH S T t N j) X fo) ?_;rintro _ h ⟨rfl,o⟩<;>refine Jh o ?_
 rw [Af8 A.c]
 (refine Jc ?_;unhygienic intros)
 refine Tr.nw fun b2 h=>?_
 refine Tr.xCall (A84 y.c k (frH S T t N j) X fo j) ?_;rintro _ h ⟨rfl,o⟩<;>refine Jh o ?_
 rw [Aj4 A.c (by omega),e0]
 dsimp only
 (refine Jc ?_;unhygienic intros)
 refine Tr.condF rfl ?_
 refine Tr.bnd (Tr.condF rfl ?_)
 (refine Jb ?_;unhygienic intros)
 refine Tr.some fun o=>(?_:Tr _ _ _ _) o;refine Je ?_
 rw [hp.s]
 refine Tr.condF rfl ?_
 (refine Jb ?_;unhygienic intros)
 rw [hp.s]
 refine Tr.condF rfl ?_
 (refine Jb ?_;unhygienic intros)
 rw [h0]
 refine Df4 S y.c k N T t j X A.c.bad ?_
 refine A9 (hoC q k j y) (ha,hc) ?_;refine Je ?_
 refine Tr.condF rfl ?_
 refine Tr.condT rfl ?_
 refine Tr.xCall (Jh7 B q k N hj y T t ok A hh J) ?_;rintro _ h ⟨X',A',rfl,o⟩<;>refine Jh o ?_
 (refine Jc ?_;unhygienic intros)
 refine Tr.some fun o=>?_
 exact ⟨X',A',rfl,o.sub⟩
theorem Ga0 (h0:y.phase=0) (op a b:Int) (pb:HP) (da:Option Addr) (ro:Bool) (dc:Nat) (d:List UInt8) (hd:d.length≤A8) [ks:IsSl pb da ro A5 1 d.length dc (A0 d)] :
  Ct A7 Ad3 [P0 q,.agg ⟨[int op,int a,int b,.slice da d.length dc]⟩] [hoC q k j y,kmC S k T t X.m,pb] fun v own=>v=.bool true∧own [hoC q k j { y with phase:=1,op:=op,a:=a,b:=b,d:=d },kmC S k T t X.m,pb]:=by
 have fo:=Bk8 B ok (Ek0 hj)
 have e0:=A.s j (by omega)
 rw [hp.v] at e0
 refine Ct.of Dv9 rfl fun h r=>Tr.eq (Dw7 ..) ?_;refine Je ?_
 refine Tr.nw fun b1 h=>?_
 refine B1 (hoC q k j y) fun ⟨ha,hc⟩=>?_;refine Je ?_
 (refine Jc ?_;unhygienic intros)
 refine Do1 S y.c k N T t j X.m ?_
 rw [A.eX]
 refine Tr.xCall (A37 y.c k (frH S T t N j) X fo) ?_;rintro _ h ⟨rfl,o⟩<;>refine Jh o ?_
 rw [Af8 A.c]
 (refine Jc ?_;unhygienic intros)
 rw [h0]
 refine Tr.condF rfl ?_
 (refine Jc ?_;unhygienic intros)
 refine Tr.nw fun b2 h=>?_
 refine Tr.xCall (A84 y.c k (frH S T t N j) X fo j) ?_;rintro _ h ⟨rfl,o⟩<;>refine Jh o ?_
 rw [Aj4 A.c (by omega),e0]
 dsimp only
 (refine Jc ?_;unhygienic intros)
 refine Tr.condF (by simp [hp.s]) ?_
 (refine Jc ?_;unhygienic intros)
 refine Df4 S y.c k N T t j X A.c.bad ?_
 refine Tr.xCall (Hh2 pb ro da dc d hd) ?_;rintro _ h ⟨xa,xc,rfl,o⟩<;>refine Jh o ?_
 (refine Jc ?_;unhygienic intros)
 simp only [List.set_cons_zero,List.set_cons_succ]
 (refine Jc ?_;unhygienic intros)
 simp only [List.take_succ_cons,List.take_zero,List.drop_zero]
 (refine Jc ?_;unhygienic intros)
 simp only [List.take_succ_cons,List.take_zero,List.drop_zero,List.drop_succ_cons,List.drop_nil,List.nil_append,List.append_nil,List.cons_append,List.length_cons,List.length_nil,Nat.zero_add,Nat.reduceAdd]
 refine A9 (hoC q k j { y with phase:=1,op:=op,a:=a,b:=b,d:=d }) (xa,xc) ?_;refine Je ?_
 refine Tr.some fun o=>?_
 exact ⟨rfl,o.sub⟩
end
theorem spN {S:KS} (B:Base S) {j:Int} (hj:0≤j∧j<4):Ay9 S.tabs j=[256,257,258]:=by
 rw [B.like.tabs]
 obtain rfl|rfl|rfl|rfl:j=0∨j=1∨j=2∨j=3:=by omega
 all_goals kernel_rfl
section
variable {S:KS} (B:Base S) (k N:Nat) {j:Int} (hj:0≤j∧j<4) (T:SectS) (t:Int) (ok:TOk N T t) (m:List (List UInt8))
include B hj ok
theorem Eq2:Ct A7 At0 [P0 k,int j] [kmC S k T t m] fun v own=>∃ c,v=.tuple ⟨[P0 c,int 0]⟩∧own [kmC S k T t m,c3C c k j []]:=by
 intro h r o
 obtain ⟨u,o1⟩:=Own.unfold (kmC S k T t m) o
 have f:Fit S.mem.length (rgP 0) m:=(o1.picks [1] rfl).pure
 have J:=Ig9 k (L5 (SH S T t) (V4 S.mem (rgP 0) m)) N (kmN B ok f) j
 rw [show Ay9 (L5 (SH S T t) (V4 S.mem (rgP 0) m)).tabs j=[256,257,258] from spN B hj] at J
 obtain ⟨v,h',e,hv⟩:=J h _ (o1.picks [0] rfl)
 rcases hv with ⟨_,c,rfl,o2⟩|⟨hn,_⟩
 ·have o3:Own h' (c3C c k j []::D6 k (L5 (SH S T t) (V4 S.mem (rgP 0) m))::pu (Fit S.mem.length (rgP 0) m)::r):=o2
  exact ⟨_,h',e,c,rfl,Own.shut (f:=fun _:Unit=>kmF S k T t m) () (o3.picks [1,1] rfl)⟩
 ·cases hn
theorem Jg8:Ct A7 A73 [P0 k,int j,int j,int 0] [kmC S k T t m] fun v own=>∃ q c,v=.tuple ⟨[P0 q,int 0]⟩∧own [hoC q k j ⟨c,0,0,0,0,0,[]⟩,kmC S k T t m]:=by
 refine Ct.of Ew6 rfl fun h r=>Tr.eq (Es8 ..) ?_;refine Je ?_
 refine Tr.xCall (Eq2 B k N hj T t ok m) ?_;rintro _ h ⟨c,rfl,o⟩<;>refine Jh o ?_
 (refine Jb ?_;unhygienic intros)
 refine Tr.bnd (Tr.condF (decide_eq_false (by omega)) ?_)
 (refine Jb ?_;unhygienic intros)
 refine Tr.some fun o=>(?_:Tr _ _ _ _) o;refine Je ?_
 refine Tr.condF (decide_eq_false (by omega)) ?_
 have hlt:0<(L5 (SH S T t) (V4 S.mem (rgP 0) m)).sects.length:=by
  show 0<(S.sects.set 0 T).length;rw [List.length_set,B.sects];decide
 refine B1 (kmC S k T t m) fun u=>?_;refine Je ?_
 generalize hK:L5 (SH S T t) (V4 S.mem (rgP 0) m)=K at hlt
 refine B1 (D6 k K) fun A=>?_;refine Je ?_
 refine O5 10 rfl fun hA=>?_
 obtain ⟨x,hx⟩:∃ x,A.ss[0]?=some x:=⟨A.ss[0]'(by omega),List.getElem?_eq_getElem _⟩
 refine Tr.pcall (He8 k K A 0 x hlt hx) ?_
 (refine Jc ?_;unhygienic intros)
 refine A9 (D6 k K) A ?_;refine Je ?_
 subst hK
 refine A9 (kmC S k T t m) () ?_;refine Je ?_
 refine Tr.nw fun q h=>?_
 refine Bv3 ?_
 refine A9 (hoC q k j ⟨c,0,0,0,0,0,[]⟩) (none,0) ?_;refine Je ?_
 refine Tr.some fun o=>?_
 exact ⟨q,c,rfl,o.sub⟩
theorem Iu3 (q:Nat) (y:HoS) (h0:y.phase=0):Ct A7 Ba2 [P0 q] [hoC q k j y,kmC S k T t m] fun v own=>∃ c,v=.tuple ⟨[]⟩∧own [hoC q k j { y with c:=c },kmC S k T t m]:=by
 refine Ct.of Gm6 rfl fun h r=>Tr.eq (Gk4 ..) ?_;refine Je ?_
 refine Tr.xCall (?_:Ct A7 Az8 [P0 q] [hoC q k j y] fun v own=>v=.tuple ⟨[]⟩∧own [hoC q k j y]) ?_
 ·refine Ct.of Gw9 rfl fun h r=>Tr.eq (Gu4 ..) ?_;refine Je ?_
  refine B1 (hoC q k j y) fun ⟨ha,hc⟩=>?_;refine Je ?_
  (refine Jb ?_;unhygienic intros)
  rw [h0]
  refine Tr.bnd (Tr.condF rfl ?_)
  (refine Jb ?_;unhygienic intros)
  refine Tr.some fun o=>(?_:Tr _ _ _ _) o;refine Je ?_
  rw [h0]
  refine Tr.condF rfl ?_
  (refine Jc ?_;unhygienic intros)
  simp only [List.set_cons_zero,List.set_cons_succ]
  refine (?_:Tr (pt q (.cells Ax4 false (hoL k j { y with phase:=0 } ha hc))::_) _ _ _)
  rw [← h0]
  refine A9 (hoC q k j y) (ha,hc) ?_;refine Je ?_
  refine Tr.some fun o=>?_
  exact ⟨rfl,o.sub⟩
 rintro _ h ⟨rfl,o⟩
 refine (?_:Tr _ _ _ _) o
 refine Je ?_
 refine B1 (hoC q k j y) fun ⟨ha,hc⟩=>?_;refine Je ?_
 (refine Jc ?_;unhygienic intros)
 refine Tr.xCall (Eq2 B k N hj T t ok m) ?_;rintro _ h ⟨c,rfl,o⟩<;>refine Jh o ?_
 (refine Jc ?_;unhygienic intros)
 simp only [List.set_cons_zero,List.set_cons_succ]
 refine A9 (hoC q k j { y with c:=c }) (ha,hc) ?_;refine Je ?_
 refine Tr.some fun o=>?_
 exact ⟨c,rfl,o.sub⟩
end
theorem Id3 (w:Nat) (K:RKS) (kK:RKOk K) (e:Nat) (he:e<K.B.envs.length):Ct A7 Bn4 [P0 w,int (e:Nat),int (e:Nat),int 0] [rkC w K] fun v own=>∃ b,v=P0 b∧own [rkC w K]:=by
 refine Ct.of G71 rfl fun h r=>Tr.eq (G00 ..) ?_;refine Je ?_
 refine Tr.xCall (En7 w K kK e he) ?_
 rintro _ h (⟨_,m,rfl,o⟩|⟨_,rfl,o⟩)
 ·refine (?_:Tr _ _ _ _) o
  refine Je ?_
  (refine Jc ?_;unhygienic intros)
  refine Tr.nw fun b1 h=>?_
  refine Tr.some fun o=>?_
  exact ⟨b1,rfl,o.sub⟩
 ·refine (?_:Tr _ _ _ _) o
  refine Je ?_
  (refine Jc ?_;unhygienic intros)
  refine Tr.nw fun b1 h=>?_
  refine Tr.some fun o=>?_
  exact ⟨b1,rfl,o.sub⟩
theorem Dn3 {S:KS} (B:Base S) {r:List HP} {h:H} {Q:Value→H→Prop} (k w N:Nat) (K:RKS) (kK:RKOk K) (hB:K.B.envs.length=18) (T:SectS) (t:Int) (ok:TOk N T t) (m:List (List UInt8)) (i:Nat) (hi:i<4) (qs ms:List Nat) (hq:qs.length=i) (hm:ms.length=i) (a1 a2:Option Addr) (c1 c2:Nat)
  (next:∀ q c b a1 c1 a2 c2 h,Tr (kmC S k T t m::rkC w K::slC false I7 1 a1 (qs++[q]).length c1 ((qs++[q]).map P0)::slC false An4 1 a2 (ms++[b]).length c2 ((ms++[b]).map P0)::hoC q k (i:Nat) ⟨c,0,0,0,0,0,[]⟩::r) h
   (I1 Ae5 A70 [(4,P0 k),(6,P0 w),(8,.slice a1 (qs++[q]).length c1),(9,.slice a2 (ms++[b]).length c2),(10,int ((i+1:Nat):Int))] h) Q) :
  Tr (kmC S k T t m::rkC w K::slC false I7 1 a1 qs.length c1 (qs.map P0)::slC false An4 1 a2 ms.length c2 (ms.map P0)::r) h (I1 Ae5 A70 [(4,P0 k),(6,P0 w),(8,.slice a1 qs.length c1),(9,.slice a2 ms.length c2),(10,int (i:Nat))] h) Q:=by
 have e1:=wN i
 refine Tr.jmp D35 (Tr.eq (Eb8 ..) ?_);(try simp only[Nr,Nl,wl,Nat.reduceAdd,Nat.reduceMul,Int.reduceToNat])
 refine Tr.condT (by simp;omega) ?_
 refine Tr.xCall (Jg8 B k N (j:=(i:Nat)) (by omega) T t ok m) ?_;rintro _ h ⟨q,c,rfl,o⟩<;>refine Jh o ?_
 (refine Jb ?_;unhygienic intros)
 refine Tr.bnd (Tr.condF rfl ?_)
 (refine Jb ?_;unhygienic intros)
 refine Tr.some fun o=>(?_:Tr _ _ _ _) o;refine Je ?_
 refine Tr.condF rfl ?_
 refine Tr.nw fun b1 h=>?_
 (refine Jc ?_;unhygienic intros)
 refine Tr.xApd ?_ (fun x1 y1 h=>?_);exact ⟨by first|rfl|simp,by first|rfl|simp,by simp only [A8];omega⟩;refine Je ?_
 refine Tr.xCall (Id3 w K kK i (by omega)) ?_;rintro _ h ⟨b,rfl,o⟩<;>refine Jh o ?_
 (refine Jc ?_;unhygienic intros)
 refine Tr.nw fun b2 h=>?_
 (refine Jc ?_;unhygienic intros)
 refine Tr.xApd ?_ (fun x2 y2 h=>?_);exact ⟨by first|rfl|simp,by first|rfl|simp,by simp only [A8];omega⟩;refine Je ?_
 have nx:=next q c b x1 y1 x2 y2 h
 simp only [List.length_append,List.length_cons,List.length_nil,Nat.zero_add,List.map_append,List.map_cons,List.map_nil] at nx
 rw [e1]
 exact Ad0 [4,1,3,3,2] 2 rfl rfl nx
theorem Es5:TOk 0 (I3 5) 0:=⟨G08 (by omega),by omega,by omega⟩
theorem Hh1:Ct A7 Ae5 [] [] fun v own=>∃ k w a ac a2 ac2 q0 q1 q2 q3 c0 c1,v=.tuple ⟨[P0 k,.slice a 4 ac,P0 w,.slice a2 4 ac2]⟩ ∧
  own [kmC S3 k (I3 5) 0 X1.m,slC false I7 1 a 4 ac [P0 q0,P0 q1,P0 q2,P0 q3],hoC q0 k 0 ⟨c0,0,0,0,0,0,[]⟩,hoC q1 k 1 ⟨c1,0,0,0,0,0,[]⟩]:=by
 refine Ct.of D35 rfl fun h r=>Tr.eq (Hq7 ..) ?_;refine Je ?_
 refine Tr.xCall (Jb1) ?_;rintro _ h ⟨a,rfl,o⟩<;>refine Jh o ?_
 (refine Jc ?_;unhygienic intros)
 refine Tr.xCall (I95 a) ?_
 rintro _ h ⟨k,c,w,m,K,⟨kK,hB⟩,rfl,o⟩
 refine (?_:Tr _ _ _ _) o
 refine Je ?_
 (refine Jb ?_;unhygienic intros)
 have eF:F1=frH S3 (I3 5) 0 0 0:=by
  show (⟨S3,0,0,[256,257,258],rgP 0⟩:Fr)=⟨SH S3 (I3 5) 0,0,0,[256,257,258],rgP 0⟩
  rw [Jv7 Ap1]
 rw [eF]
 refine Df4 S3 c k 0 (I3 5) 0 0 X1 rfl ?_
 refine G6 false I7 1 (by omega) ?_
 refine G6 false An4 1 (by omega) ?_
 have hl:K.B.envs.length=18:=by rw [hB,Bq8];rfl
 refine Ad0 [2,3,1,0] 2 rfl rfl ?_
 refine Dn3 Ap1 k w 0 K kK hl (I3 5) 0 Es5 X1.m 0 (by omega) [] [] rfl rfl none none 0 0 fun q0 c0 d0 a1 n1 a2 n2 h=>?_
 refine Dn3 Ap1 k w 0 K kK hl (I3 5) 0 Es5 X1.m 1 (by omega) [q0] [d0] rfl rfl a1 a2 n1 n2 fun q1 c1 d1 a1 n1 a2 n2 h=>?_
 refine Dn3 Ap1 k w 0 K kK hl (I3 5) 0 Es5 X1.m 2 (by omega) [q0,q1] [d0,d1] rfl rfl a1 a2 n1 n2 fun q2 c2 d2 a1 n1 a2 n2 h=>?_
 refine Dn3 Ap1 k w 0 K kK hl (I3 5) 0 Es5 X1.m 3 (by omega) [q0,q1,q2] [d0,d1,d2] rfl rfl a1 a2 n1 n2 fun q3 c3 d3 a1 n1 a2 n2 h=>?_
 refine Tr.jmp D35 (Tr.eq (Eb8 ..) ?_);(try simp only[Nr,Nl,wl,Nat.reduceAdd,Nat.reduceMul,Int.reduceToNat])
 refine Tr.condF rfl ?_
 refine Tr.some fun o=>?_
 have o2:Own h (kmC S3 k (I3 5) 0 X1.m::rkC w K::slC false I7 1 a1 4 n1 [P0 q0,P0 q1,P0 q2,P0 q3]::slC false An4 1 a2 4 n2 [P0 d0,P0 d1,P0 d2,P0 d3]::hoC q3 k 3 ⟨c3,0,0,0,0,0,[]⟩::hoC q2 k 2 ⟨c2,0,0,0,0,0,[]⟩::hoC q1 k 1 ⟨c1,0,0,0,0,0,[]⟩::hoC q0 k 0 ⟨c0,0,0,0,0,0,[]⟩::r):=o
 exact ⟨k,w,a1,n1,a2,n2,q0,q1,q2,q3,c0,c1,rfl,o2.fin [0,1,5,4] 4 rfl rfl⟩
theorem TOk.enter {N:Nat} {T:SectS} {t:Int} (k:TOk N T t) (hN:N+4<1000000000) (j:Int):TOk (N+2) (B3 T j t).2 t:=⟨Iv8 k.ok k.hN j t k.now,by omega,k.now⟩
theorem TOk.leave {N:Nat} {T:SectS} {t:Int} (k:TOk N T t) (j st:Int):TOk N (D9 T j st) t:=⟨Iv1 k.ok j st,k.hN,k.now⟩
section
variable {S:KS} (B:Base S) (hb k N:Nat) (a:Option Addr) (ac:Nat) (Q:List Nat) (i q:Nat) (hi:i<4) (hq:Q[i]?=some q) (y:HoS) (T:SectS) (t:Int) (ok:TOk N T t) (hN:N+4<1000000000) {X:CX} {V V':VW} (A:See X V) {p p':ProcS} (hp:Qt V i p)
include B hi hq ok hN A hp
end
theorem Is8 (k:Nat) (S:KS) (A:KA) (s:Int) (hs:S.sects.length≤s):CtP A7 Aa7 [P0 k,int s] (Ar3 k S A) (.pointer none):=by
 obtain ⟨m,s',q,rg,ea,ec,ma,mc,ms,sa,sc,ss⟩:=A
 refine CtP.of D58 rfl fun h r=>Tr.eq (D47 ..) ?_;refine Je ?_
 refine Tr.orG (c:=true) (fun hb=>?_) ?_
 ·(refine Ja ?_;unhygienic intros)
  refine Tr.some fun o=>?_
  exact ⟨decide_eq_true (by omega),rfl⟩
 rw [Bool.or_true]
 refine Tr.condT rfl ?_
 exact Jz
section
variable {S:KS} (B:Base S) (k N:Nat) (T:SectS) (t:Int) (ok:TOk N T t)
include B ok
theorem Iy3 (m:List (List UInt8)):Ct A7 A73 [P0 k,int 0,int 9,int 0] [kmC S k T t m] fun v own=>v=.tuple ⟨[.pointer none,int 1]⟩∧own [kmC S k T t m]:=by
 refine Ct.of Ew6 rfl fun h r=>Tr.eq (Es8 ..) ?_;refine Je ?_
 refine Tr.xCall (Eq2 B k N (j:=0) (by omega) T t ok m) ?_;rintro _ h ⟨c,rfl,o⟩<;>refine Jh o ?_
 (refine Jb ?_;unhygienic intros)
 refine Tr.condF rfl ?_
 refine Tr.bnd (Tr.condF rfl ?_)
 refine Tr.some fun o=>(?_:Tr _ _ _ _) o;refine Je ?_
 refine Tr.condT rfl ?_
 refine Tr.some fun o=>?_
 exact ⟨rfl,o.sub⟩
theorem I43 (m:List (List UInt8)):Ct A7 A73 [P0 k,int 0,int 0,int 9] [kmC S k T t m] fun v own=>v=.tuple ⟨[.pointer none,int 8]⟩∧own [kmC S k T t m]:=by
 refine Ct.of Ew6 rfl fun h r=>Tr.eq (Es8 ..) ?_;refine Je ?_
 refine Tr.xCall (Eq2 B k N (j:=0) (by omega) T t ok m) ?_;rintro _ h ⟨c,rfl,o⟩<;>refine Jh o ?_
 (refine Jb ?_;unhygienic intros)
 refine Tr.condF rfl ?_
 refine Tr.bnd (Tr.condF rfl ?_)
 refine Tr.some fun o=>(?_:Tr _ _ _ _) o;refine Je ?_
 refine Tr.condF rfl ?_
 have hlt:(((L5 (SH S T t) (V4 S.mem (rgP 0) m)).sects.length:Nat):Int)≤9:=by
  show (((S.sects.set 0 T).length:Nat):Int)≤9;rw [List.length_set,B.sects];decide
 refine B1 (kmC S k T t m) fun u=>?_;refine Je ?_
 generalize hK:L5 (SH S T t) (V4 S.mem (rgP 0) m)=K at hlt
 refine B1 (D6 k K) fun A=>?_;refine Je ?_
 refine Tr.pcall (Is8 k K A 9 hlt) ?_
 (refine Jc ?_;unhygienic intros)
 refine A9 (D6 k K) A ?_;refine Je ?_
 subst hK
 refine A9 (kmC S k T t m) () ?_;refine Je ?_
 refine Tr.some fun o=>?_
 exact ⟨rfl,o.sub⟩
theorem It1 (q:Nat) {j:Int} (hj:0≤j∧j<4) (y:HoS) (h0:y.phase=0) {X:CX} {V:VW} (A:See X V) (hv:V.S j=(.zero,0)) (op a b:Int) (da:Option Addr) (dn dc:Nat) :
  Ct A7 Ad3 [P0 q,.agg ⟨[int op,int a,int b,.slice da dn dc]⟩] [hoC q k j y,kmC S k T t X.m] fun v own=>v=.bool false∧own [hoC q k j y,kmC S k T t X.m]:=by
 have fo:=Bk8 B ok (Ek0 hj)
 have e0:=A.s j (by omega)
 rw [hv] at e0
 refine Ct.of Dv9 rfl fun h r=>Tr.eq (Dw7 ..) ?_;refine Je ?_
 refine Tr.nw fun b1 h=>?_
 refine B1 (hoC q k j y) fun ⟨ha,hc⟩=>?_;refine Je ?_
 (refine Jc ?_;unhygienic intros)
 refine Do1 S y.c k N T t j X.m ?_
 rw [A.eX]
 refine Tr.xCall (A37 y.c k (frH S T t N j) X fo) ?_;rintro _ h ⟨rfl,o⟩<;>refine Jh o ?_
 rw [Af8 A.c]
 (refine Jc ?_;unhygienic intros)
 rw [h0]
 refine Tr.condF rfl ?_
 (refine Jc ?_;unhygienic intros)
 refine Tr.nw fun b2 h=>?_
 refine Tr.xCall (A84 y.c k (frH S T t N j) X fo j) ?_;rintro _ h ⟨rfl,o⟩<;>refine Jh o ?_
 rw [Aj4 A.c (by omega),e0]
 dsimp only
 (refine Jc ?_;unhygienic intros)
 refine Tr.condT (by rfl) ?_
 refine Df4 S y.c k N T t j X A.c.bad ?_
 refine A9 (hoC q k j y) (ha,hc) ?_;refine Je ?_
 refine Tr.some fun o=>?_
 exact ⟨rfl,o.sub⟩
end
theorem qt1:Qt V1 0 p0:=⟨rfl,by rfl,by rfl⟩
theorem G29:Ct A7 Bk7 [] [] fun v own=>v=.bool true∧own []:=by
 have st:(B3 (I3 5) 0 0).1.1=1:=by kernel_rfl
 have hh:V0 (B3 (I3 5) 0 0).2 0 1=true:=by kernel_rfl
 have ok2:=Es5.enter (by omega) 0
 refine Ct.of Hk6 rfl fun h r=>Tr.eq (Hm1 ..) ?_;refine Je ?_
 refine Tr.xCall Hh1 ?_
 rintro _ h ⟨k,w,a,ac,a2,ac2,q0,q1,q2,q3,c0,c1,rfl,o⟩
 refine (?_:Tr _ _ _ _) o
 refine Je ?_
 (refine Ja ?_;unhygienic intros;repeat(refine Gw ?_;rintro px rfl;refine Ja ?_;unhygienic intros))
 refine Bv3 ?_
 refine Tr.xCall (Ga0 Ap1 q0 k 0 (j:=0) (by omega) ⟨c0,0,0,0,0,0,[]⟩ (I3 5) 0 Es5 Hr2 qt1 rfl 1 0 0 (dC none 0 []) none false 0 [] (by simp [A8])) ?_;rintro _ h ⟨rfl,o⟩<;>refine Jh o ?_
 (refine Jc ?_;unhygienic intros)
 refine Tr.xCall (Ee4 Ap1 q0 k 0 (j:=0) (by omega) ⟨c0,1,0,1,0,0,[]⟩ (I3 5) 0 Es5 Hr2 qt1 rfl) ?_;rintro _ h ⟨rfl,o⟩<;>refine Jh o ?_
 rw [st,show Eu0 ⟨c0,1,0,1,0,0,[]⟩ 1=⟨c0,2,1,1,0,0,[]⟩ from rfl]
 (refine Jc ?_;unhygienic intros)
 refine Tr.nw fun b1 h=>?_
 (refine Jc ?_;unhygienic intros)
 refine Tr.xCall (Es1 Ap1 q0 k 2 (j:=0) (by omega) ⟨c0,2,1,1,0,0,[]⟩ (B3 (I3 5) 0 0).2 0 ok2 Hr2 qt1 rfl hh (Js4 (Bk8 Ap1 ok2 Gr5) Hr2 (by omega) qt1 0 0 []) (show (1:Int)≠3 by decide) (ok2.leave 0 1) qt1) ?_;rintro _ h ⟨da,dc,x,cap,X',A',rfl,o⟩<;>refine Jh o ?_
 (refine Jc ?_;unhygienic intros)
 refine Tr.nw fun b2 h=>?_
 (refine Jc ?_;unhygienic intros)
 refine Tr.xCall (Iy3 Ap1 k 2 (D9 (B3 (I3 5) 0 0).2 0 1) 0 (ok2.leave 0 1) X'.m) ?_;rintro _ h ⟨rfl,o⟩<;>refine Jh o ?_
 (refine Jc ?_;unhygienic intros)
 refine Tr.xCall (I43 Ap1 k 2 (D9 (B3 (I3 5) 0 0).2 0 1) 0 (ok2.leave 0 1) X'.m) ?_;rintro _ h ⟨rfl,o⟩<;>refine Jh o ?_
 (refine Jb ?_;unhygienic intros)
 refine Tr.bnd (Tr.condT rfl ?_)
 refine Tr.some fun o=>(?_:Tr _ _ _ _) o;refine Je ?_
 refine Tr.bnd (Tr.condT rfl ?_)
 (refine Jb ?_;unhygienic intros)
 refine Tr.some fun o=>(?_:Tr _ _ _ _) o;refine Je ?_
 refine Tr.bnd (Tr.condT rfl ?_)
 (refine Jb ?_;unhygienic intros)
 refine Tr.some fun o=>(?_:Tr _ _ _ _) o;refine Je ?_
 refine Tr.bnd (Tr.condT rfl ?_)
 (refine Jb ?_;unhygienic intros)
 refine Tr.some fun o=>(?_:Tr _ _ _ _) o;refine Je ?_
 refine Tr.bnd (Tr.condT rfl ?_)
 (refine Jb ?_;unhygienic intros)
 refine Tr.xCall (Hi3 q0 k 0 ⟨c0,0,1,1,0,0,[]⟩) ?_;rintro _ h ⟨rfl,o⟩<;>refine Jh o ?_
 (refine Jb ?_;unhygienic intros)
 refine Tr.some fun o=>(?_:Tr _ _ _ _) o;refine Je ?_
 refine Tr.bnd (Tr.condT rfl ?_)
 refine Tr.some fun o=>(?_:Tr _ _ _ _) o;refine Je ?_
 refine Tr.bnd (Tr.condT rfl ?_)
 refine Tr.some fun o=>(?_:Tr _ _ _ _) o;refine Je ?_
 refine Tr.bnd (Tr.condT rfl ?_)
 (refine Jb ?_;unhygienic intros)
 refine Tr.xCall (It1 Ap1 k 2 (D9 (B3 (I3 5) 0 0).2 0 1) 0 (ok2.leave 0 1) q1 (j:=1) (by omega) ⟨c1,0,0,0,0,0,[]⟩ rfl A' rfl 1 0 0 none 0 0) ?_;rintro _ h ⟨rfl,o⟩<;>refine Jh o ?_
 (refine Jb ?_;unhygienic intros)
 refine Tr.some fun o=>(?_:Tr _ _ _ _) o;refine Je ?_
 refine Tr.some fun o=>?_
 exact ⟨rfl,o.sub⟩
end Go.EQ
