/- One that is stopped does nothing till it goes on, and holds nobody up; then its call is done. -/
import Derived.Test.YtonlefldpebcpaaGreatDoorMj
set_option linter.all false
set_option maxRecDepth 10000
namespace Go.EQ
open Go Go.NN
def SH (S:KS) (T:SectS) (t:Int):KS:={ S with sects:=S.sects.set 0 T,now:=t }
structure Base (S:KS):Prop where
 like:Like S
 sects:S.sects=[I1 5,I1 5]
 may:S.may=[[0],[1]]
 envs:S.envs=[0,0,0,0,0,0,0,0,0,1,1,1,1,1,1,1,1,1]
 now:S.now=0
theorem Ai2:Base S3:=⟨Hx9,by kernel_rfl,by kernel_rfl,by kernel_rfl,by kernel_rfl⟩
structure TOk (N:Nat) (T:SectS) (t:Int):Prop where
 ok:SectOk N T
 hN:N+2<1000000000
 now:0≤t∧t≤1073741824
theorem I56:EnvP 0 2:=⟨by omega,by omega,by kernel_rfl,by kernel_rfl,by kernel_rfl⟩
theorem Dm0 {j:Int} (h:0≤j∧j<4):EnvP 0 j:=by
 obtain rfl|rfl|rfl|rfl:j=0∨j=1∨j=2∨j=3:=by omega
 ·exact Gf4
 ·exact Il4
 ·exact I56
 ·exact I44
def frH (S:KS) (T:SectS) (t:Int) (N:Nat) (env:Int):Fr:=⟨SH S T t,N,env,[256,257,258],rgP 0⟩
abbrev kmF (S:KS) (k:Nat) (T:SectS) (t:Int) (m:List (List UInt8)):List HP:=[D4 k (J9 (SH S T t) (U8 S.mem (rgP 0) m)),pu (Fit S.mem.length (rgP 0) m)]
def kmC (S:KS) (k:Nat) (T:SectS) (t:Int) (m:List (List UInt8)):HP:=hex fun _:Unit=>sl (kmF S k T t m)
instance {S:KS} {k:Nat} {T:SectS} {t:Int} {m:List (List UInt8)}:Chk (kmC S k T t m) (fun _:Unit=>kmF S k T t m):=⟨rfl⟩
abbrev c3C (c k:Nat) (env:Int) (bad:List RecS):HP:=Y4 c k env [256,257,258] bad
theorem Own.cmOf {S:KS} {h:H} {r:List HP} {c k N:Nat} {T:SectS} {t env:Int} {m:List (List UInt8)} {bad:List RecS} (o:Own h (kmC S k T t m::c3C c k env bad::r)):Own h (cmC c k (frH S T t N env) ⟨m,bad⟩::r):=by
 obtain ⟨u,o1⟩:=Own.unfold (kmC S k T t m) o
 exact Own.shut (f:=fun _:Unit=>cmF c k (frH S T t N env) ⟨m,bad⟩) () (o1.picks [0,1,0] rfl)
theorem Own.kmOf {S:KS} {h:H} {r:List HP} {c k N:Nat} {T:SectS} {t env:Int} {X:CX} (o:Own h (cmC c k (frH S T t N env) X::r)):Own h (kmC S k T t X.m::c3C c k env X.bad::r):=by
 obtain ⟨u,o1⟩:=Own.unfold (cmC c k (frH S T t N env) X) o
 have o2:Own h (D4 k (J9 (SH S T t) (U8 S.mem (rgP 0) X.m))::pu (Fit S.mem.length (rgP 0) X.m)::c3C c k env X.bad::r):=o1.picks [0,1,0] rfl
 exact Own.shut (f:=fun _:Unit=>kmF S k T t X.m) () o2
section
variable {S:KS} (B:Base S)
include B
theorem I43:SH S (I1 5) 0=S:=by
 have h1:=B.sects;have h2:=B.now
 obtain ⟨a,b,c,d,e,f,g,i⟩:=S
 simp only at h1 h2
 subst h1 h2
 rfl
theorem Ir4 {N:Nat} {T:SectS} {t:Int} (k:TOk N T t):KOk N (SH S T t):=by
 have h:=B.like.ok
 have hs:=k.hN
 refine ⟨h.envs,h.tabs,h.space,h.quota,h.mem,h.regs,?_,h.mayl,?_,?_,k.now⟩
 ·show S.may.length=(S.sects.set 0 T).length;rw [List.length_set];exact h.may
 ·show (S.sects.set 0 T).length≤8;rw [List.length_set];exact h.nsect
 ·intro X hX
  rcases List.mem_or_eq_of_mem_set (show X ∈ S.sects.set 0 T from hX) with h1|rfl
  ·exact (h.sects X h1).up (Nat.zero_le N) (by omega)
  ·exact k.ok
theorem Ax6 {N:Nat} {T:SectS} {t:Int} (k:TOk N T t) {env:Int} (e:EnvP 0 env):FrOk (frH S T t N env):=by
 have g:=Gn2 B.like e
 have:=k.hN
 exact ⟨Ir4 B k,by show N+1<1000000000;omega,g.ne,g.small,g.len,g.env,g.pl,g.dj,g.own,g.brs⟩
theorem Ir7 (T:SectS) (t:Int) (p:List UInt8) {env:Int} (he:0≤env∧env<4):B87 (J9 (SH S T t) p) env 0=true:=by
 unfold B87 A61 G75
 show (decide ((0:Int)≤0∧(0:Int)<((S.sects.set 0 T).length:Int)) && decide (S.envs.getD env.toNat 0 ∈ S.may.getD (0:Int).toNat []))=true
 rw [List.length_set,B.sects,B.may,B.envs]
 obtain rfl|rfl|rfl|rfl:env=0∨env=1∨env=2∨env=3:=by omega
 all_goals decide
theorem Ir0 (T:SectS) (t:Int) (p:List UInt8):Ao3 (J9 (SH S T t) p) 0=T:=by
 show (S.sects.set 0 T).getD (0:Int).toNat Iq5=T
 rw [B.sects];rfl
omit B in
theorem Iy1 (T T':SectS) (t:Int) (p:List UInt8):putSect (J9 (SH S T t) p) 0 T'=J9 (SH S T' t) p:=by
 show ({ S with sects:=(S.sects.set 0 T).set 0 T',now:=t,mem:=p }:KS)={ S with sects:=S.sects.set 0 T',now:=t,mem:=p }
 rw [List.set_set]
theorem Iz7 (T:SectS) (t:Int) (p:List UInt8) {env:Int} (he:0≤env∧env<4):¬ (env<0∨env≥((J9 (SH S T t) p).envs.length:Int)):=by
 show ¬ (env<0∨env≥(S.envs.length:Int))
 rw [B.envs];simp;omega
theorem I09 (T:SectS) (t:Int) (p:List UInt8) {env:Int} (he:0≤env∧env<4):W5 (J9 (SH S T t) p) env ⟨8,0,0,0,0,0,[]⟩=((0,(B9 T env t).1.1,[]),J9 (SH S (B9 T env t).2 t) p):=by
 unfold W5
 rw [if_neg (Iz7 B T t p he)]
 unfold kDo
 rw [if_neg (by decide),if_neg (by decide),if_neg (by decide),if_neg (by decide),if_neg (by decide),if_neg (by decide),if_pos rfl]
 unfold Dj8
 rw [if_pos (Ir7 B T t p he),Ir0 B]
 show ((0,(B9 T env t).1.1,[]),putSect (J9 (SH S T t) p) 0 (B9 T env t).2)=_
 rw [Iy1]
theorem I20 (T:SectS) (t:Int) (p:List UInt8) {env:Int} (he:0≤env∧env<4) (st:Int):W5 (J9 (SH S T t) p) env ⟨9,0,st,0,0,0,[]⟩=((if Ao9 T env st then 0 else 8,0,[]),J9 (SH S (J0 T env st) t) p):=by
 unfold W5
 rw [if_neg (Iz7 B T t p he)]
 unfold kDo
 rw [if_neg (show ¬ (9:Int)=1 by decide),if_neg (show ¬ (9:Int)=2 by decide),if_neg (show ¬ (9:Int)=3 by decide),if_neg (show ¬ (9:Int)=4 by decide),if_neg (show ¬ (9:Int)=6 by decide),if_neg (show ¬ (9:Int)=7 by decide),if_neg (show ¬ (9:Int)=8 by decide),if_pos rfl]
 unfold Di1
 rw [if_pos (Ir7 B T t p he),Ir0 B,Iy1]
theorem kmN {N:Nat} {T:SectS} {t:Int} (ok:TOk N T t) {m:List (List UInt8)} (f:Fit S.mem.length (rgP 0) m):KOk N (J9 (SH S T t) (U8 S.mem (rgP 0) m)):=by
 have kk:=Ir4 B ok
 exact ⟨kk.envs,kk.tabs,kk.space,kk.quota,by show (U8 S.mem (rgP 0) m).length≤65536;rw [De8 f,B.like.mem];omega,kk.regs,kk.may,kk.mayl,kk.nsect,kk.sects,kk.now⟩
theorem Ie1 (k N:Nat) (T:SectS) (t:Int) (m:List (List UInt8)) (ok:TOk N T t) {env:Int} (he:0≤env∧env<4) :
  Ct A6 M7 [P0 k,int env,.agg ⟨[int 8,int 0,int 0,int 0,int 0,int 0,.slice none 0 0]⟩] [kmC S k T t m] fun v own=>∃ x d,v=.agg ⟨[int 0,int (B9 T env t).1.1,.slice x 0 d]⟩∧own [kmC S k (B9 T env t).2 t m]:=by
 have hN:=ok.hN
 intro h r o
 obtain ⟨u,o1⟩:=Own.unfold (kmC S k T t m) o
 have f:Fit S.mem.length (rgP 0) m:=(o1.picks [1] rfl).pure
 have J:=Gu6 k (J9 (SH S T t) (U8 S.mem (rgP 0) m)) N (kmN B ok f) (by omega) env 8 0 0 0 0 0 (by decide)
 rw [I09 B T t _ he] at J
 obtain ⟨v,h',e,y,d,hv,o2⟩:=J h _ (o1.picks [0] rfl)
 have o3:Own h' (D4 k (J9 (SH S (B9 T env t).2 t) (U8 S.mem (rgP 0) m))::pu (Fit S.mem.length (rgP 0) m)::r):=Own.weak1 0 o2
 exact ⟨v,h',e,y,d,hv,Own.shut (f:=fun _:Unit=>kmF S k (B9 T env t).2 t m) () o3⟩
theorem Ia5 (k N:Nat) (T:SectS) (t:Int) (m:List (List UInt8)) (ok:TOk N T t) {env:Int} (he:0≤env∧env<4) (st:Int) :
  Ct A6 M7 [P0 k,int env,.agg ⟨[int 9,int 0,int st,int 0,int 0,int 0,.slice none 0 0]⟩] [kmC S k T t m] fun v own=>∃ e x d,v=.agg ⟨[int e,int 0,.slice x 0 d]⟩∧own [kmC S k (J0 T env st) t m]:=by
 have hN:=ok.hN
 intro h r o
 obtain ⟨u,o1⟩:=Own.unfold (kmC S k T t m) o
 have f:Fit S.mem.length (rgP 0) m:=(o1.picks [1] rfl).pure
 have J:=Gu6 k (J9 (SH S T t) (U8 S.mem (rgP 0) m)) N (kmN B ok f) (by omega) env 9 0 st 0 0 0 (by decide)
 rw [I20 B T t _ he] at J
 obtain ⟨v,h',e,y,d,hv,o2⟩:=J h _ (o1.picks [0] rfl)
 have o3:Own h' (D4 k (J9 (SH S (J0 T env st) t) (U8 S.mem (rgP 0) m))::pu (Fit S.mem.length (rgP 0) m)::r):=Own.weak1 0 o2
 exact ⟨v,h',e,_,y,d,hv,Own.shut (f:=fun _:Unit=>kmF S k (J0 T env st) t m) () o3⟩
end
theorem Ia2 (m:Int):J7 .i64 0 m=0:=by
 unfold J7
 simp
 rfl
theorem Ip0 (p:ProcS) (hs:p.state=1) (h0:p.pending=0):Ct A6 As6 [.agg ⟨B5 p⟩] [] fun v own=>v=.tuple ⟨[int 0,int 0]⟩∧own []:=by
 refine Ct.of Dr6 rfl fun h r=>Tr.eq (Ei7 ..) ?_;refine Je ?_
 refine Tr.nw fun b h=>?_
 (refine Jb ?_;unhygienic intros)
 rw [hs,h0,Ia2]
 refine Tr.bnd (Tr.condF rfl ?_)
 refine Tr.some fun o=>(?_:Tr _ _ _ _) o;refine Je ?_
 refine Tr.condT rfl ?_
 refine Tr.some fun o=>?_
 exact ⟨rfl,o.sub⟩
theorem Hn4 (p:ProcS) (hs:p.state=1) (h0:p.pending=0):Ct A6 P1 [.agg ⟨B5 p⟩] [] fun v own=>v=.tuple ⟨[.agg ⟨B5 p⟩,.slice none 0 0,int 0]⟩∧own []:=by
 refine Ct.of Aj1 rfl fun h r=>Tr.eq (Dl8 ..) ?_;refine Je ?_
 refine Tr.nw fun b h=>?_
 refine Tr.nw fun b1 h=>?_
 refine Tr.jmp Aj1 (Tr.eq (Ax3 ..) ?_);(try simp only[Nr,Nl,wl,Nat.reduceAdd,Nat.reduceMul,Int.reduceToNat])
 (refine Ja ?_;unhygienic intros)
 refine Tr.xCall (Ip0 p hs h0) ?_;rintro _ h ⟨rfl,o⟩<;>refine Jh o ?_
 (refine Jd ?_;unhygienic intros)
 refine Tr.some fun o=>?_
 exact ⟨rfl,o.sub⟩
structure HoS where
 c:Nat
 phase:Int
 stamp:Int
 op:Int
 a:Int
 b:Int
 d:List UInt8
abbrev hoL (k:Nat) (j:Int) (y:HoS) (da:Option Addr) (dc:Nat):List Value:=[P0 k,int j,int j,int 0,P0 y.c,int y.phase,int y.stamp,int y.op,int y.a,int y.b,.slice da y.d.length dc]
abbrev dC (da:Option Addr) (dc:Nat) (d:List UInt8):HP:=slC false A4 1 da d.length dc (A0 d)
abbrev hoF (q k:Nat) (j:Int) (y:HoS) (x:Option Addr × Nat):List HP:=[pt q (.cells Au8 false (hoL k j y x.1 x.2)),dC x.1 x.2 y.d,c3C y.c k j []]
def hoC (q k:Nat) (j:Int) (y:HoS):HP:=hex fun x=>sl (hoF q k j y x)
instance {q k:Nat} {j:Int} {y:HoS}:Chk (hoC q k j y) (hoF q k j y):=⟨rfl⟩
theorem Bi5 {l r:List HP} {h:H} {α:Type} {Q:α→H→Prop} {x:Option (α × H)} (S:KS) (c k N:Nat) (T:SectS) (t env:Int) (m:List (List UInt8)) [tk:Takes [kmC S k T t m,c3C c k env []] l r] (tt:Tr (cmC c k (frH S T t N env) ⟨m,[]⟩::r) h x Q):Tr l h x Q:=fun o=>tt (Own.cmOf (o.perm tk.pm))
theorem Be4 {l r:List HP} {h:H} {α:Type} {Q:α→H→Prop} {x:Option (α × H)} (S:KS) (c k N:Nat) (T:SectS) (t env:Int) (X:CX) (hb:X.bad=[]) [tk:Take (cmC c k (frH S T t N env) X) l r] (tt:Tr (kmC S k T t X.m::c3C c k env []::r) h x Q):Tr l h x Q:=fun o=>tt (by
 have o2:=Own.kmOf (o.perm tk.pm)
 rw [hb] at o2;exact o2)
theorem See.eX {X:CX} {V:VW} (A:See X V):(⟨X.m,[]⟩:CX)=X:=by
 have:=A.c.bad
 obtain ⟨m,b⟩:=X
 subst this;rfl
def Eg7 (y:HoS) (st:Int):HoS:=if st>0 then { y with phase:=2,stamp:=st } else y
theorem Ew3 (q k:Nat) (j:Int) (y:HoS):Ct A6 Ai8 [P0 q] [hoC q k j y] fun v own=>v=int y.phase∧own [hoC q k j y]:=by
 refine Ct.of E67 rfl fun h r=>Tr.eq (E61 ..) ?_;refine Je ?_
 refine A9 (hoC q k j y) fun ⟨da,dc⟩=>?_;refine Je ?_
 (refine Ja ?_;unhygienic intros)
 refine A7 (hoC q k j y) (da,dc) ?_;refine Je ?_
 refine Tr.some fun o=>?_
 exact ⟨rfl,o.sub⟩
section
variable {S:KS} (B:Base S)
include B
theorem G17 (q k N:Nat) {j:Int} (hj:0≤j∧j<4) (y:HoS) (T:SectS) (t:Int) (m:List (List UInt8)) (ok:TOk N T t) (ph:Int) :
  Ct A6 Ai6 [P0 q,int ph] [hoC q k j y,kmC S k T t m] fun v own=>v=.tuple ⟨[]⟩∧own [hoC q k j { y with phase:=ph },kmC S k (J0 T j y.stamp) t m]:=by
 refine Ct.of E75 rfl fun h r=>Tr.eq (E66 ..) ?_;refine Je ?_
 refine A9 (hoC q k j y) fun ⟨da,dc⟩=>?_;refine Je ?_
 (refine Ja ?_;unhygienic intros)
 refine Tr.xCall (Ia5 B k N T t m ok hj y.stamp) ?_;rintro _ h ⟨e,x,d,rfl,o⟩<;>refine Jh o ?_
 (refine Ja ?_;unhygienic intros)
 simp only [List.set_cons_zero,List.set_cons_succ]
 refine A7 (hoC q k j { y with phase:=ph }) (da,dc) ?_;refine Je ?_
 refine Tr.some fun o=>?_
 exact ⟨rfl,o.sub⟩
theorem Hg1 (q k N:Nat) {j:Int} (hj:0≤j∧j<4) (y:HoS) (T:SectS) (t:Int) (m:List (List UInt8)) (ok:TOk N T t) :
  Ct A6 Bd7 [P0 q] [hoC q k j y,kmC S k T t m] fun v own=>v=.tuple ⟨[]⟩∧own [hoC q k j (Eg7 y (B9 T j t).1.1),kmC S k (B9 T j t).2 t m]:=by
 refine Ct.of Ge7 rfl fun h r=>Tr.eq (Gh6 ..) ?_;refine Je ?_
 refine A9 (hoC q k j y) fun ⟨da,dc⟩=>?_;refine Je ?_
 (refine Jc ?_;unhygienic intros)
 refine Tr.nw fun b1 h=>?_
 (refine Jc ?_;unhygienic intros)
 refine Tr.xCall (Ie1 B k N T t m ok hj) ?_;rintro _ h ⟨x,d,rfl,o⟩<;>refine Jh o ?_
 (refine Jc ?_;unhygienic intros)
 unfold Eg7
 by_cases h1:(B9 T j t).1.1>0
 ·rw [if_pos h1]
  refine Tr.condT (by simpa using h1) ?_
  (refine Jc ?_;unhygienic intros)
  simp only [List.set_cons_zero,List.set_cons_succ]
  refine A7 (hoC q k j { y with phase:=2,stamp:=(B9 T j t).1.1 }) (da,dc) ?_;refine Je ?_
  refine Tr.some fun o=>?_
  exact ⟨rfl,o.sub⟩
 ·rw [if_neg h1]
  refine Tr.condF (by simpa using h1) ?_
  refine A7 (hoC q k j y) (da,dc) ?_;refine Je ?_
  refine Tr.some fun o=>?_
  exact ⟨rfl,o.sub⟩
end
theorem See.same {X:CX} {V:VW} (A:See X V) {i:Int} {p:ProcS} (hp:V.S i=(p,1)) (hi:0≤i∧i<8):(A51 X i p).1=true∧See (A51 X i p).2 V:=by
 have e:=A.s i hi
 have hk:okS p=true∧InS p:=by
  have h1:=Gl7 A.c hi
  have h2:InS (vS X i).1:=De3 _
  rw [e,hp] at h1 h2
  rcases h1 with ⟨h3,_⟩|⟨_,h3⟩
  ·cases h3
  ·exact ⟨h3,h2⟩
 have w:=Aw2 A.c hi hk.1 hk.2
 refine ⟨by rw [w.1],?_⟩
 have s:=A.ws hi hk.1 hk.2
 rw [w.1]
 refine s.to (fun j hj=>?_) (fun _ _=>rfl) (fun _ _=>rfl)
 show (if j=i then (p,1) else V.S j)=V.S j
 by_cases h:j=i
 ·subst h;rw [if_pos rfl,hp]
 ·rw [if_neg h]
structure Qt (V:VW) (j:Int) (p:ProcS):Prop where
 v:V.S j=(p,1)
 s:p.state=1
 z:p.pending=0
abbrev Ei3 (s slot op a b:Int) (da:Option Addr) (dn dc:Nat) (n e:Int) (xa:Option Addr) (xn xc:Nat) (back:Bool):List Value:=[int s,int slot,int op,int a,int b,.slice da dn dc,int n,int e,.slice xa xn xc,.bool back,.slice none 0 0,int 0]
section
variable {S:KS} (B:Base S)
include B
theorem Io2 (q k N:Nat) {j:Int} (hj:0≤j∧j<4) (y:HoS) (T:SectS) (t:Int) (ok:TOk N T t) {X:CX} {V:VW} (A:See X V) {p:ProcS} (hp:Qt V j p)
  (s slot op a b:Int) (da:Option Addr) (dn dc:Nat) (n e:Int) (xa:Option Addr) (xn xc:Nat) (back:Bool) :
  Ct A6 Ao5 [P0 q,.agg ⟨Ei3 s slot op a b da dn dc n e xa xn xc back⟩] [hoC q k j y,kmC S k T t X.m] fun v own=>∃ X',See X' V∧v=.agg ⟨Ei3 s slot op a b da dn dc n e xa xn xc back⟩∧own [hoC q k j y,kmC S k T t X'.m]:=by
 have fo:=Ax6 B ok (Dm0 hj)
 have e0:=A.s j (by omega)
 rw [hp.v] at e0
 have sm:=A.same hp.v (by omega)
 refine Ct.of D15 rfl fun h r=>Tr.eq (D23 ..) ?_;refine Je ?_
 refine Tr.nw fun b1 h=>?_
 refine Tr.nw fun b2 h=>?_
 refine A9 (hoC q k j y) fun ⟨ha,hc⟩=>?_;refine Je ?_
 (refine Jc ?_;unhygienic intros)
 refine Tr.nw fun b3 h=>?_
 refine Bi5 S y.c k N T t j X.m ?_
 rw [A.eX]
 refine Tr.xCall (Z5 y.c k (frH S T t N j) X fo j) ?_;rintro _ h ⟨rfl,o⟩<;>refine Jh o ?_
 rw [N9 A.c (by omega),e0]
 dsimp only
 (refine Jb ?_;unhygienic intros)
 refine Tr.bnd (Tr.condF rfl ?_)
 (refine Jb ?_;unhygienic intros)
 refine Tr.some fun o=>(?_:Tr _ _ _ _) o;refine Je ?_
 rw [hp.s]
 refine Tr.condF rfl ?_
 (refine Jc ?_;unhygienic intros)
 refine Tr.xCall (Hn4 p hp.s hp.z) ?_;rintro _ h ⟨rfl,o⟩<;>refine Jh o ?_
 (refine Jc ?_;unhygienic intros)
 refine Tr.xCall (Dg6 y.c k (frH S T t N j) X fo j p) ?_;rintro _ h ⟨rfl,o⟩<;>refine Jh o ?_
 (refine Jc ?_;unhygienic intros)
 refine Tr.condF rfl ?_
 (refine Jc ?_;unhygienic intros)
 refine Be4 S y.c k N T t j (A51 X j p).2 sm.2.c.bad ?_
 refine A7 (hoC q k j y) (ha,hc) ?_;refine Je ?_
 refine Tr.some fun o=>?_
 exact ⟨_,sm.2,rfl,o.sub⟩
end
abbrev bytesN (p:PipeS) (i:Nat):List UInt8:=(List.range i).map fun (j:Nat)=>p.data.getD (((p.head+j)%32).toNat) 0
def B53 (q:PipeS) (v:Value):List Value:=R0 q++[v]
theorem Ei6 (q:PipeS) (v:Value):(B53 q v).length=37:=by unfold B53;rw [List.length_append,B14 q.len];rfl
theorem Ik2 (q:PipeS) (x:Fn) (y z:Array Value):(B53 q (.func x y z)).all Value.oneCell=true:=by unfold B53;rw [List.all_append,G06];rfl
instance {q:PipeS} {v:Value}:LenC (B53 q v) 37:=⟨Ei6 q v⟩
instance {q:PipeS} {v:Value}:PartC (B53 q v) 0 37 (B53 q v):=⟨Bl8 (Ei6 q v)⟩
instance {q:PipeS} {v:Value}:PartC (B53 q v) 0 36 (R0 q):=⟨by
 unfold B32
 rw [Nat.ble_eq_true_of_le (by rw [Ei6];omega),List.drop_zero]
 unfold B53
 rw [List.take_left' (B14 q.len)];rfl⟩
instance {q:PipeS} {x:Fn} {y z:Array Value} {cs:List Value} [k:LenC cs 37]:SetsC cs 0 (B53 q (.func x y z)) (B53 q (.func x y z)):=⟨Bm1 k.ok (Ei6 q _) (Ik2 q x y z)⟩
structure RdS where
 bs:List UInt8
 e:Int
 blk:Bool
structure WrS where
 n:Int
 e:Int
 blk:Bool
def DoJ (c k:Nat) (F:Fr) (X:CX) (V':VW) (i op a b:Int) (d:List UInt8) (n e:Int) (bs:List UInt8) (blk:Bool):Prop:=∀ (da:Option Addr) (dc:Nat),
 Ct A6 Dp4 [P0 c,int i,.agg ⟨[int op,int a,int b,.slice da d.length dc]⟩] [cmC c k F X,dC da dc d] fun v own=>∃ x cap X',See X' V'∧v=.agg ⟨[int n,int e,.slice x bs.length cap,.bool blk]⟩∧own [cmC c k F X',dC x cap bs,dC da dc d]
theorem Bp9 {l:List HP} {h:H} {α:Type} {Q:α→H→Prop} {z:Option (α × H)} (t:Tr (dC none 0 []::l) h z Q):Tr l h z Q:=E8 false A4 1 (by omega) t
theorem Dx7 {c:Nat} {i:Int} {op:Int} (ho:op<9∨16<op) (a b:Int) (da:Option Addr) (dn dc:Nat):Ct A6 Bw7 [P0 c,int i,.agg ⟨[int op,int a,int b,.slice da dn dc]⟩] [] fun v own=>v=.tuple ⟨[.agg ⟨Aa0 0 0 false⟩,.bool false]⟩∧own []:=by
 refine Ct.of G40 rfl fun h r=>Tr.eq (G38 ..) ?_;refine Je ?_
 refine Tr.nw fun b1 h=>?_
 refine Tr.nw fun b2 h=>?_
 (refine Jc ?_;unhygienic intros)
 refine Tr.condF (by simp;omega) ?_
 refine Tr.condF (by simp;omega) ?_
 refine Tr.condF (by simp;omega) ?_
 refine Tr.condF (by simp;omega) ?_
 refine Tr.condF (by simp;omega) ?_
 refine Tr.condF (by simp;omega) ?_
 refine Tr.condF (by simp;omega) ?_
 refine Tr.condF (by simp;omega) ?_
 (refine Jc ?_;unhygienic intros)
 refine Tr.some fun o=>?_
 exact ⟨rfl,o.sub⟩
section
variable {c k:Nat} {F:Fr} {X:CX} {V V':VW} (ok:FrOk F) (A:See X V) {i:Int} (hi:0≤i∧i<8) {n e:Int}
include ok A hi
theorem Is2 (a b:Int) (d:List UInt8) (hR:E47 V i=(Aa0 n e false,V')):DoJ c k F X V' i 2 a b d n e [] false:=by
 intro da dc
 have P:=A.fork hi
 rw [hR] at P
 refine Ct.of B24 rfl fun h r=>Tr.eq (B48 ..) ?_;refine Je ?_
 refine Tr.nw fun b1 h=>?_
 refine Tr.nw fun b2 h=>?_
 refine Tr.xCall (Al1 c k F X ok) ?_;rintro _ h ⟨rfl,o⟩<;>refine Jh o ?_
 rw [U7 A.c]
 (refine Jc ?_;unhygienic intros)
 refine Tr.xCall (Dx7 (by omega) a b da d.length dc) ?_;rintro _ h ⟨rfl,o⟩<;>refine Jh o ?_
 (refine Jc ?_;unhygienic intros)
 refine Tr.nw fun b3 h=>?_
 (refine Jd ?_;unhygienic intros)
 refine Tr.xCall (Is9 c k F X ok A.c i hi) ?_;rintro _ h ⟨rfl,o⟩<;>refine Jh o ?_
 rw [P.1]
 (refine Jc ?_;unhygienic intros)
 refine Bp9 ?_
 refine Tr.some fun o=>?_
 exact ⟨none,0,_,P.2,rfl,o.sub⟩
theorem I01 {p:ProcS} (hq:Qt V i p) (a b:Int) (d:List UInt8):DoJ c k F X V i 1 a b d i 0 [] false:=by
 intro da dc
 have es:=A.self hi
 have e2:Ai3 V i=(p,0):=by unfold Ai3;rw [hq.v,if_pos ⟨rfl,hq.s⟩]
 rw [e2] at es
 refine Ct.of B24 rfl fun h r=>Tr.eq (B48 ..) ?_;refine Je ?_
 refine Tr.nw fun b1 h=>?_
 refine Tr.nw fun b2 h=>?_
 refine Tr.xCall (Al1 c k F X ok) ?_;rintro _ h ⟨rfl,o⟩<;>refine Jh o ?_
 rw [U7 A.c]
 (refine Jc ?_;unhygienic intros)
 refine Tr.xCall (Dx7 (by omega) a b da d.length dc) ?_;rintro _ h ⟨rfl,o⟩<;>refine Jh o ?_
 (refine Jc ?_;unhygienic intros)
 refine Tr.nw fun b3 h=>?_
 (refine Jd ?_;unhygienic intros)
 refine Tr.xCall (?_:Ct A6 V9 [P0 c,int i,.agg ⟨[int 1,int a,int b,.slice da d.length dc]⟩] [cmC c k F X] fun v own=>v=.agg ⟨Aa0 i 0 false⟩∧own [cmC c k F X]) ?_
 ·refine Ct.of D74 rfl fun h r=>Tr.eq (D96 ..) ?_;refine Je ?_
  refine Tr.nw fun b1 h=>?_
  refine Tr.nw fun b2 h=>?_
  refine Tr.xCall (Ec2 c k F X ok A.c i hi) ?_;rintro _ h ⟨rfl,o⟩<;>refine Jh o ?_
  rw [es]
  (refine Jc ?_;unhygienic intros)
  refine Tr.nw fun b3 h=>?_
  (refine Jd ?_;unhygienic intros)
  refine Tr.some fun o=>?_
  exact ⟨rfl,o.sub⟩
 rintro _ h ⟨rfl,o⟩
 refine (?_:Tr _ _ _ _) o
 refine Je ?_
 (refine Jc ?_;unhygienic intros)
 refine Bp9 ?_
 refine Tr.some fun o=>?_
 exact ⟨none,0,X,A,rfl,o.sub⟩
end
theorem G05 (k:Nat) (S:KS) (A:KA) (s:Nat) (x:Nat) (hs:s<S.sects.length) (hx:A.ss[s]?=some x):CtP A6 Z8 [P0 k,int s] (Ap0 k S A) (P0 x):=by
 obtain ⟨m,s',q,rg,ea,ec,ma,mc,ms,sa,sc,ss⟩:=A
 simp only at hx
 have hg:(ss.map P0)[s]?=some (.pointer (some ⟨x,0,none⟩)):=by rw [List.getElem?_map,hx];rfl
 refine CtP.of Dz1 rfl fun h r=>Tr.eq (Du2 ..) ?_;refine Je ?_
 refine Tr.orG (c:=false) (fun hb=>?_) ?_
 ·(refine Ja ?_;unhygienic intros)
  refine Tr.some fun o=>?_
  exact ⟨decide_eq_false (by omega),rfl⟩
 refine Tr.condF rfl ?_
 rw [Int.toNat_natCast]
 exact Jz
theorem Hb2 {l r:List HP} {h:H} {α:Type} {Q:α→H→Prop} {kk:Bool→H→Option (α × H)} {S:KS} (B:Base S) (k q:Nat) (j:Int) (y:HoS) (da:Option Addr) (dc:Nat) (T:SectS) (t:Int) (m:List (List UInt8)) [tk:Takes [kmC S k T t m,pt q (.cells Au8 false (hoL k j y da dc))] l r]
  (tt:Tr (kmC S k T t m::pt q (.cells Au8 false (hoL k j y da dc))::r) h (kk (Ao9 T j y.stamp) h) Q) :
  Tr l h (bnd (A6 Z8 [P0 k,int 0] h) fun r hv=>aPtr r fun x4=>NN.gInt .i64 ⟨q,1,none⟩ hv fun x5=>same (int j) (int x5) (NN.gInt .i64 ⟨q,6,none⟩ hv fun x6=>same (int y.stamp) (int x6) (bnd (A6 Ai7 [.pointer x4,int j,int y.stamp] hv) fun r1 hv3=>aBool r1 fun x7=>kk x7 hv3))) Q:=fun ow=>by
 have ow:=ow.perm tk.pm
 revert ow
 show Tr (kmC S k T t m::pt q (.cells Au8 false (hoL k j y da dc))::r) h _ Q
 have hlt:0<(J9 (SH S T t) (U8 S.mem (rgP 0) m)).sects.length:=by
  show 0<(S.sects.set 0 T).length;rw [List.length_set,B.sects];decide
 have hT:(J9 (SH S T t) (U8 S.mem (rgP 0) m)).sects[0]?=some T:=by
  show (S.sects.set 0 T)[0]?=some T;rw [B.sects];rfl
 refine A9 (kmC S k T t m) fun u=>?_;refine Je ?_
 generalize hK:J9 (SH S T t) (U8 S.mem (rgP 0) m)=K at hlt hT ⊢
 refine A9 (D4 k K) fun A=>?_;refine Je ?_
 refine P5 10 rfl fun hA=>?_
 obtain ⟨x,hx⟩:∃ x,A.ss[0]?=some x:=⟨A.ss[0]'(by omega),List.getElem?_eq_getElem _⟩
 refine Tr.pcall (G05 k K A 0 x hlt hx) ?_
 (refine Ja ?_;unhygienic intros)
 refine Ae4 I5 A.ss K.sects hx hT ?_
 refine Tr.pcall (Hi3 x T j y.stamp) ?_
 (refine Ja ?_;unhygienic intros)
 refine Ap8 I5 A.ss K.sects 0 hx hT ?_
 refine A7 (D4 k K) A ?_;refine Je ?_
 subst hK
 refine A7 (kmC S k T t m) () ?_;refine Je ?_
 exact tt
theorem G97 (q k:Nat) (j:Int) (y:HoS) (da:Option Addr) (dc:Nat) (n e:Int) (xa:Option Addr) (xn xc:Nat) (blk:Bool) :
  Ct A6 Bc9 [P0 q,.agg ⟨[int n,int e,.slice xa xn xc,.bool blk]⟩] [pt q (.cells Au8 false (hoL k j y da dc))] fun v own=>v=.agg ⟨Ei3 0 j y.op y.a y.b da y.d.length dc n e xa xn xc true⟩∧own [pt q (.cells Au8 false (hoL k j y da dc))]:=by
 refine Ct.of Gh4 rfl fun h r=>Tr.eq (Gd1 ..) ?_;refine Je ?_
 refine Tr.nw fun b1 h=>?_
 refine Tr.nw fun b2 h=>?_
 (refine Jc ?_;unhygienic intros)
 refine Tr.some fun o=>?_
 exact ⟨rfl,o.sub⟩
abbrev G68:Value:=.tuple ⟨[.agg ⟨Ei3 0 0 0 0 0 none 0 0 0 0 none 0 0 false⟩,.bool false]⟩
section
variable {S:KS} (B:Base S) (q k N:Nat) {j:Int} (hj:0≤j∧j<4) (y:HoS) (T:SectS) (t:Int) (ok:TOk N T t) {X:CX} {V:VW} (A:See X V)
include B hj ok A
theorem Is3 (hh:Ao9 T j y.stamp=true) {V':VW} {n e:Int} {bs:List UInt8} (J:DoJ y.c k (frH S T t N j) X V' j y.op y.a y.b y.d n e bs false) (h3:y.op≠3) (okL:TOk N (J0 T j y.stamp) t) {p:ProcS} (hp:Qt V' j p) :
  Ct A6 A85 [P0 q] [hoC q k j y,kmC S k T t X.m] fun v own=>∃ da dc x cap X',See X' V'∧v=.tuple ⟨[.agg ⟨Ei3 0 j y.op y.a y.b da y.d.length dc n e x bs.length cap true⟩,.bool true]⟩ ∧
   own [hoC q k j { y with phase:=0 },kmC S k (J0 T j y.stamp) t X'.m,dC x cap bs]:=by
 refine Ct.of Ea6 rfl fun h r=>Tr.eq (Ed9 ..) ?_;refine Je ?_
 refine Tr.nw fun b1 h=>?_
 refine A9 (hoC q k j y) fun ⟨ha,hc⟩=>?_;refine Je ?_
 (refine Jc ?_;unhygienic intros)
 refine Hb2 B k q j y ha hc T t X.m ?_
 rw [hh]
 refine Tr.condF rfl ?_
 (refine Jc ?_;unhygienic intros)
 refine Tr.nw fun b2 h=>?_
 refine Bi5 S y.c k N T t j X.m ?_
 rw [A.eX]
 refine Tr.xCall (J ha hc) ?_;rintro _ h ⟨x,cap,X',A',rfl,o⟩<;>refine Jh o ?_
 (refine Jc ?_;unhygienic intros)
 refine Be4 S y.c k N T t j X' A'.c.bad ?_
 refine A7 (hoC q k j y) (ha,hc) ?_;refine Je ?_
 refine Tr.xCall (G17 B q k N hj y T t X'.m ok 0) ?_;rintro _ h ⟨rfl,o⟩<;>refine Jh o ?_
 (refine Jc ?_;unhygienic intros)
 refine A9 (hoC q k j { y with phase:=0 }) fun ⟨ga,gc⟩=>?_;refine Je ?_
 refine Tr.xCall (G97 q k j { y with phase:=0 } ga gc n e x bs.length cap false) ?_;rintro _ h ⟨rfl,o⟩<;>refine Jh o ?_
 (refine Jc ?_;unhygienic intros)
 refine Tr.nw fun b3 h=>?_
 (refine Jc ?_;unhygienic intros)
 refine Tr.condT (by simpa using h3) ?_
 (refine Jc ?_;unhygienic intros)
 refine A7 (hoC q k j { y with phase:=0 }) (ga,gc) ?_;refine Je ?_
 refine Tr.xCall (Io2 B q k N hj { y with phase:=0 } (J0 T j y.stamp) t okL A' hp 0 j y.op y.a y.b ga y.d.length gc n e x bs.length cap true) ?_;rintro _ h ⟨X2,A2,rfl,o⟩<;>refine Jh o ?_
 (refine Jc ?_;unhygienic intros)
 refine Tr.some fun o=>?_
 exact ⟨ga,gc,x,cap,X2,A2,rfl,o.sub⟩
end
section
variable {S:KS} (B:Base S) (q k N:Nat) {j:Int} (hj:0≤j∧j<4) (y:HoS) (T:SectS) (t:Int) (ok:TOk N T t) {X:CX} {V:VW} (A:See X V) {p:ProcS} (hp:Qt V j p)
include B hj ok A hp
theorem Gz8 (h0:y.phase=1):Ct A6 D6 [P0 q] [hoC q k j y,kmC S k T t X.m] fun v own=>v=G68∧own [hoC q k j (Eg7 y (B9 T j t).1.1),kmC S k (B9 T j t).2 t X.m]:=by
 have fo:=Ax6 B ok (Dm0 hj)
 have e0:=A.s j (by omega)
 rw [hp.v] at e0
 refine Ct.of Ae1 rfl fun h r=>Tr.eq (Al6 ..) ?_;refine Je ?_
 refine Tr.nw fun b1 h=>?_
 refine A9 (hoC q k j y) fun ⟨ha,hc⟩=>?_;refine Je ?_
 (refine Jc ?_;unhygienic intros)
 refine Bi5 S y.c k N T t j X.m ?_
 rw [A.eX]
 refine Tr.xCall (Al1 y.c k (frH S T t N j) X fo) ?_;rintro _ h ⟨rfl,o⟩<;>refine Jh o ?_
 rw [U7 A.c]
 (refine Jc ?_;unhygienic intros)
 refine Tr.nw fun b2 h=>?_
 refine Tr.xCall (Z5 y.c k (frH S T t N j) X fo j) ?_;rintro _ h ⟨rfl,o⟩<;>refine Jh o ?_
 rw [N9 A.c (by omega),e0]
 dsimp only
 (refine Jc ?_;unhygienic intros)
 refine Tr.condF rfl ?_
 refine Tr.bnd (Tr.condF rfl ?_)
 (refine Jb ?_;unhygienic intros)
 refine Tr.some fun o=>(?_:Tr _ _ _ _) o;refine Je ?_
 rw [hp.s]
 refine Tr.condF rfl ?_
 (refine Jb ?_;unhygienic intros)
 rw [hp.s]
 refine Tr.condF rfl ?_
 (refine Jb ?_;unhygienic intros)
 rw [h0]
 refine Be4 S y.c k N T t j X A.c.bad ?_
 refine A7 (hoC q k j y) (ha,hc) ?_;refine Je ?_
 refine Tr.condT rfl ?_
 refine Tr.xCall (Hg1 B q k N hj y T t X.m ok) ?_;rintro _ h ⟨rfl,o⟩<;>refine Jh o ?_
 (refine Jc ?_;unhygienic intros)
 refine Tr.some fun o=>?_
 exact ⟨rfl,o.sub⟩
theorem Gn9 (h0:y.phase=2) (hh:Ao9 T j y.stamp=true) {V':VW} {n e:Int} {bs:List UInt8} (J:DoJ y.c k (frH S T t N j) X V' j y.op y.a y.b y.d n e bs false) (h3:y.op≠3) (okL:TOk N (J0 T j y.stamp) t) {p':ProcS} (hp':Qt V' j p') :
  Ct A6 D6 [P0 q] [hoC q k j y,kmC S k T t X.m] fun v own=>∃ da dc x cap X',See X' V'∧v=.tuple ⟨[.agg ⟨Ei3 0 j y.op y.a y.b da y.d.length dc n e x bs.length cap true⟩,.bool true]⟩ ∧
   own [hoC q k j { y with phase:=0 },kmC S k (J0 T j y.stamp) t X'.m,dC x cap bs]:=by
 have fo:=Ax6 B ok (Dm0 hj)
 have e0:=A.s j (by omega)
 rw [hp.v] at e0
 refine Ct.of Ae1 rfl fun h r=>Tr.eq (Al6 ..) ?_;refine Je ?_
 refine Tr.nw fun b1 h=>?_
 refine A9 (hoC q k j y) fun ⟨ha,hc⟩=>?_;refine Je ?_
 (refine Jc ?_;unhygienic intros)
 refine Bi5 S y.c k N T t j X.m ?_
 rw [A.eX]
 refine Tr.xCall (Al1 y.c k (frH S T t N j) X fo) ?_;rintro _ h ⟨rfl,o⟩<;>refine Jh o ?_
 rw [U7 A.c]
 (refine Jc ?_;unhygienic intros)
 refine Tr.nw fun b2 h=>?_
 refine Tr.xCall (Z5 y.c k (frH S T t N j) X fo j) ?_;rintro _ h ⟨rfl,o⟩<;>refine Jh o ?_
 rw [N9 A.c (by omega),e0]
 dsimp only
 (refine Jc ?_;unhygienic intros)
 refine Tr.condF rfl ?_
 refine Tr.bnd (Tr.condF rfl ?_)
 (refine Jb ?_;unhygienic intros)
 refine Tr.some fun o=>(?_:Tr _ _ _ _) o;refine Je ?_
 rw [hp.s]
 refine Tr.condF rfl ?_
 (refine Jb ?_;unhygienic intros)
 rw [hp.s]
 refine Tr.condF rfl ?_
 (refine Jb ?_;unhygienic intros)
 rw [h0]
 refine Be4 S y.c k N T t j X A.c.bad ?_
 refine A7 (hoC q k j y) (ha,hc) ?_;refine Je ?_
 refine Tr.condF rfl ?_
 refine Tr.condT rfl ?_
 refine Tr.xCall (Is3 B q k N hj y T t ok A hh J h3 okL hp') ?_;rintro _ h ⟨da,dc,x,cap,X',A',rfl,o⟩<;>refine Jh o ?_
 (refine Jc ?_;unhygienic intros)
 refine Tr.some fun o=>?_
 exact ⟨da,dc,x,cap,X',A',rfl,o.sub⟩
theorem Gy0 (h0:y.phase=0) (op a b:Int) (pb:HP) (da:Option Addr) (ro:Bool) (dc:Nat) (d:List UInt8) (hd:d.length≤A8) [ks:IsSl pb da ro A4 1 d.length dc (A0 d)] :
  Ct A6 Q9 [P0 q,.agg ⟨[int op,int a,int b,.slice da d.length dc]⟩] [hoC q k j y,kmC S k T t X.m,pb] fun v own=>v=.bool true∧own [hoC q k j { y with phase:=1,op:=op,a:=a,b:=b,d:=d },kmC S k T t X.m,pb]:=by
 have fo:=Ax6 B ok (Dm0 hj)
 have e0:=A.s j (by omega)
 rw [hp.v] at e0
 refine Ct.of Bs2 rfl fun h r=>Tr.eq (Bq8 ..) ?_;refine Je ?_
 refine Tr.nw fun b1 h=>?_
 refine A9 (hoC q k j y) fun ⟨ha,hc⟩=>?_;refine Je ?_
 (refine Jc ?_;unhygienic intros)
 refine Bi5 S y.c k N T t j X.m ?_
 rw [A.eX]
 refine Tr.xCall (Al1 y.c k (frH S T t N j) X fo) ?_;rintro _ h ⟨rfl,o⟩<;>refine Jh o ?_
 rw [U7 A.c]
 (refine Jc ?_;unhygienic intros)
 rw [h0]
 refine Tr.condF rfl ?_
 (refine Jc ?_;unhygienic intros)
 refine Tr.nw fun b2 h=>?_
 refine Tr.xCall (Z5 y.c k (frH S T t N j) X fo j) ?_;rintro _ h ⟨rfl,o⟩<;>refine Jh o ?_
 rw [N9 A.c (by omega),e0]
 dsimp only
 (refine Jc ?_;unhygienic intros)
 refine Tr.condF (by simp [hp.s]) ?_
 (refine Jc ?_;unhygienic intros)
 refine Be4 S y.c k N T t j X A.c.bad ?_
 refine Tr.xCall (Ew8 pb ro da dc d hd) ?_;rintro _ h ⟨xa,xc,rfl,o⟩<;>refine Jh o ?_
 (refine Jc ?_;unhygienic intros)
 simp only [List.set_cons_zero,List.set_cons_succ]
 (refine Jc ?_;unhygienic intros)
 simp only [List.take_succ_cons,List.take_zero,List.drop_zero]
 (refine Jc ?_;unhygienic intros)
 simp only [List.take_succ_cons,List.take_zero,List.drop_zero,List.drop_succ_cons,List.drop_nil,List.nil_append,List.append_nil,List.cons_append,List.length_cons,List.length_nil,Nat.zero_add,Nat.reduceAdd]
 refine A7 (hoC q k j { y with phase:=1,op:=op,a:=a,b:=b,d:=d }) (xa,xc) ?_;refine Je ?_
 refine Tr.some fun o=>?_
 exact ⟨rfl,o.sub⟩
end
theorem spN {S:KS} (B:Base S) {j:Int} (hj:0≤j∧j<4):Av8 S.tabs j=[256,257,258]:=by
 rw [B.like.tabs]
 obtain rfl|rfl|rfl|rfl:j=0∨j=1∨j=2∨j=3:=by omega
 all_goals kernel_rfl
section
variable {S:KS} (B:Base S) (k N:Nat) {j:Int} (hj:0≤j∧j<4) (T:SectS) (t:Int) (ok:TOk N T t) (m:List (List UInt8))
include B hj ok
theorem Ej0:Ct A6 Aq1 [P0 k,int j] [kmC S k T t m] fun v own=>∃ c,v=.tuple ⟨[P0 c,int 0]⟩∧own [kmC S k T t m,c3C c k j []]:=by
 intro h r o
 obtain ⟨u,o1⟩:=Own.unfold (kmC S k T t m) o
 have f:Fit S.mem.length (rgP 0) m:=(o1.picks [1] rfl).pure
 have J:=Hx1 k (J9 (SH S T t) (U8 S.mem (rgP 0) m)) N (kmN B ok f) j
 rw [show Av8 (J9 (SH S T t) (U8 S.mem (rgP 0) m)).tabs j=[256,257,258] from spN B hj] at J
 obtain ⟨v,h',e,hv⟩:=J h _ (o1.picks [0] rfl)
 rcases hv with ⟨_,c,rfl,o2⟩|⟨hn,_⟩
 ·have o3:Own h' (c3C c k j []::D4 k (J9 (SH S T t) (U8 S.mem (rgP 0) m))::pu (Fit S.mem.length (rgP 0) m)::r):=o2
  exact ⟨_,h',e,c,rfl,Own.shut (f:=fun _:Unit=>kmF S k T t m) () (o3.picks [1,1] rfl)⟩
 ·cases hn
theorem Iv5:Ct A6 A25 [P0 k,int j,int j,int 0] [kmC S k T t m] fun v own=>∃ q c,v=.tuple ⟨[P0 q,int 0]⟩∧own [hoC q k j ⟨c,0,0,0,0,0,[]⟩,kmC S k T t m]:=by
 refine Ct.of En3 rfl fun h r=>Tr.eq (Em8 ..) ?_;refine Je ?_
 refine Tr.xCall (Ej0 B k N hj T t ok m) ?_;rintro _ h ⟨c,rfl,o⟩<;>refine Jh o ?_
 (refine Jb ?_;unhygienic intros)
 refine Tr.bnd (Tr.condF (decide_eq_false (by omega)) ?_)
 (refine Jb ?_;unhygienic intros)
 refine Tr.some fun o=>(?_:Tr _ _ _ _) o;refine Je ?_
 refine Tr.condF (decide_eq_false (by omega)) ?_
 have hlt:0<(J9 (SH S T t) (U8 S.mem (rgP 0) m)).sects.length:=by
  show 0<(S.sects.set 0 T).length;rw [List.length_set,B.sects];decide
 refine A9 (kmC S k T t m) fun u=>?_;refine Je ?_
 generalize hK:J9 (SH S T t) (U8 S.mem (rgP 0) m)=K at hlt
 refine A9 (D4 k K) fun A=>?_;refine Je ?_
 refine P5 10 rfl fun hA=>?_
 obtain ⟨x,hx⟩:∃ x,A.ss[0]?=some x:=⟨A.ss[0]'(by omega),List.getElem?_eq_getElem _⟩
 refine Tr.pcall (G05 k K A 0 x hlt hx) ?_
 (refine Jc ?_;unhygienic intros)
 refine A7 (D4 k K) A ?_;refine Je ?_
 subst hK
 refine A7 (kmC S k T t m) () ?_;refine Je ?_
 refine Tr.nw fun q h=>?_
 refine Bp9 ?_
 refine A7 (hoC q k j ⟨c,0,0,0,0,0,[]⟩) (none,0) ?_;refine Je ?_
 refine Tr.some fun o=>?_
 exact ⟨q,c,rfl,o.sub⟩
theorem Ic8 (q:Nat) (y:HoS) (h0:y.phase=0):Ct A6 A74 [P0 q] [hoC q k j y,kmC S k T t m] fun v own=>∃ c,v=.tuple ⟨[]⟩∧own [hoC q k j { y with c:=c },kmC S k T t m]:=by
 refine Ct.of E59 rfl fun h r=>Tr.eq (E58 ..) ?_;refine Je ?_
 refine Tr.xCall (?_:Ct A6 Ay5 [P0 q] [hoC q k j y] fun v own=>v=.tuple ⟨[]⟩∧own [hoC q k j y]) ?_
 ·refine Ct.of Gi2 rfl fun h r=>Tr.eq (Gd0 ..) ?_;refine Je ?_
  refine A9 (hoC q k j y) fun ⟨ha,hc⟩=>?_;refine Je ?_
  (refine Jb ?_;unhygienic intros)
  rw [h0]
  refine Tr.bnd (Tr.condF rfl ?_)
  (refine Jb ?_;unhygienic intros)
  refine Tr.some fun o=>(?_:Tr _ _ _ _) o;refine Je ?_
  rw [h0]
  refine Tr.condF rfl ?_
  (refine Jc ?_;unhygienic intros)
  simp only [List.set_cons_zero,List.set_cons_succ]
  refine (?_:Tr (pt q (.cells Au8 false (hoL k j { y with phase:=0 } ha hc))::_) _ _ _)
  rw [← h0]
  refine A7 (hoC q k j y) (ha,hc) ?_;refine Je ?_
  refine Tr.some fun o=>?_
  exact ⟨rfl,o.sub⟩
 rintro _ h ⟨rfl,o⟩
 refine (?_:Tr _ _ _ _) o
 refine Je ?_
 refine A9 (hoC q k j y) fun ⟨ha,hc⟩=>?_;refine Je ?_
 (refine Jc ?_;unhygienic intros)
 refine Tr.xCall (Ej0 B k N hj T t ok m) ?_;rintro _ h ⟨c,rfl,o⟩<;>refine Jh o ?_
 (refine Jc ?_;unhygienic intros)
 simp only [List.set_cons_zero,List.set_cons_succ]
 refine A7 (hoC q k j { y with c:=c }) (ha,hc) ?_;refine Je ?_
 refine Tr.some fun o=>?_
 exact ⟨c,rfl,o.sub⟩
end
theorem Hq1 (w:Nat) (K:RKS) (kK:RKOk K) (e:Nat) (he:e<K.B.envs.length):Ct A6 Bj4 [P0 w,int (e:Nat),int (e:Nat),int 0] [rkC w K] fun v own=>∃ b,v=P0 b∧own [rkC w K]:=by
 refine Ct.of Gk1 rfl fun h r=>Tr.eq (Gm5 ..) ?_;refine Je ?_
 refine Tr.xCall (Ea4 w K kK e he) ?_
 rintro _ h (⟨_,m,rfl,o⟩|⟨_,rfl,o⟩)
 ·refine (?_:Tr _ _ _ _) o
  refine Je ?_
  (refine Jc ?_;unhygienic intros)
  refine Tr.nw fun b1 h=>?_
  refine Tr.some fun o=>?_
  exact ⟨b1,rfl,o.sub⟩
 ·refine (?_:Tr _ _ _ _) o
  refine Je ?_
  (refine Jc ?_;unhygienic intros)
  refine Tr.nw fun b1 h=>?_
  refine Tr.some fun o=>?_
  exact ⟨b1,rfl,o.sub⟩
theorem Dg0 {S:KS} (B:Base S) {r:List HP} {h:H} {Q:Value→H→Prop} (k w N:Nat) (K:RKS) (kK:RKOk K) (hB:K.B.envs.length=18) (T:SectS) (t:Int) (ok:TOk N T t) (m:List (List UInt8)) (i:Nat) (hi:i<4) (qs ms:List Nat) (hq:qs.length=i) (hm:ms.length=i) (a1 a2:Option Addr) (c1 c2:Nat)
  (next:∀ q c b a1 c1 a2 c2 h,Tr (kmC S k T t m::rkC w K::slC false P2 1 a1 (qs++[q]).length c1 ((qs++[q]).map P0)::slC false Am0 1 a2 (ms++[b]).length c2 ((ms++[b]).map P0)::hoC q k (i:Nat) ⟨c,0,0,0,0,0,[]⟩::r) h
   (I4 Ad4 A16 [(4,P0 k),(6,P0 w),(8,.slice a1 (qs++[q]).length c1),(9,.slice a2 (ms++[b]).length c2),(10,int ((i+1:Nat):Int))] h) Q) :
  Tr (kmC S k T t m::rkC w K::slC false P2 1 a1 qs.length c1 (qs.map P0)::slC false Am0 1 a2 ms.length c2 (ms.map P0)::r) h (I4 Ad4 A16 [(4,P0 k),(6,P0 w),(8,.slice a1 qs.length c1),(9,.slice a2 ms.length c2),(10,int (i:Nat))] h) Q:=by
 have e1:=wN i
 refine Tr.jmp Dw2 (Tr.eq (D48 ..) ?_);(try simp only[Nr,Nl,wl,Nat.reduceAdd,Nat.reduceMul,Int.reduceToNat])
 refine Tr.condT (by simp;omega) ?_
 refine Tr.xCall (Iv5 B k N (j:=(i:Nat)) (by omega) T t ok m) ?_;rintro _ h ⟨q,c,rfl,o⟩<;>refine Jh o ?_
 (refine Jb ?_;unhygienic intros)
 refine Tr.bnd (Tr.condF rfl ?_)
 (refine Jb ?_;unhygienic intros)
 refine Tr.some fun o=>(?_:Tr _ _ _ _) o;refine Je ?_
 refine Tr.condF rfl ?_
 refine Tr.nw fun b1 h=>?_
 (refine Jc ?_;unhygienic intros)
 refine Tr.xApd ?_ (fun x1 y1 h=>?_);exact ⟨by first|rfl|simp,by first|rfl|simp,by simp only [A8];omega⟩;refine Je ?_
 refine Tr.xCall (Hq1 w K kK i (by omega)) ?_;rintro _ h ⟨b,rfl,o⟩<;>refine Jh o ?_
 (refine Jc ?_;unhygienic intros)
 refine Tr.nw fun b2 h=>?_
 (refine Jc ?_;unhygienic intros)
 refine Tr.xApd ?_ (fun x2 y2 h=>?_);exact ⟨by first|rfl|simp,by first|rfl|simp,by simp only [A8];omega⟩;refine Je ?_
 have nx:=next q c b x1 y1 x2 y2 h
 simp only [List.length_append,List.length_cons,List.length_nil,Nat.zero_add,List.map_append,List.map_cons,List.map_nil] at nx
 rw [e1]
 exact V4 [4,1,3,3,2] 2 rfl rfl nx
theorem El2:TOk 0 (I1 5) 0:=⟨Gj1 (by omega),by omega,by omega⟩
theorem G19:Ct A6 Ad4 [] [] fun v own=>∃ k w a ac a2 ac2 q0 q1 q2 q3 c0 c1,v=.tuple ⟨[P0 k,.slice a 4 ac,P0 w,.slice a2 4 ac2]⟩ ∧
  own [kmC S3 k (I1 5) 0 X1.m,slC false P2 1 a 4 ac [P0 q0,P0 q1,P0 q2,P0 q3],hoC q0 k 0 ⟨c0,0,0,0,0,0,[]⟩,hoC q1 k 1 ⟨c1,0,0,0,0,0,[]⟩]:=by
 refine Ct.of Dw2 rfl fun h r=>Tr.eq (Hf3 ..) ?_;refine Je ?_
 refine Tr.xCall (Ip2) ?_;rintro _ h ⟨a,rfl,o⟩<;>refine Jh o ?_
 (refine Jc ?_;unhygienic intros)
 refine Tr.xCall (Il7 a) ?_
 rintro _ h ⟨k,c,w,m,K,⟨kK,hB⟩,rfl,o⟩
 refine (?_:Tr _ _ _ _) o
 refine Je ?_
 (refine Jb ?_;unhygienic intros)
 have eF:F1=frH S3 (I1 5) 0 0 0:=by
  show (⟨S3,0,0,[256,257,258],rgP 0⟩:Fr)=⟨SH S3 (I1 5) 0,0,0,[256,257,258],rgP 0⟩
  rw [I43 Ai2]
 rw [eF]
 refine Be4 S3 c k 0 (I1 5) 0 0 X1 rfl ?_
 refine E8 false P2 1 (by omega) ?_
 refine E8 false Am0 1 (by omega) ?_
 have hl:K.B.envs.length=18:=by rw [hB,Bm2];rfl
 refine V4 [2,3,1,0] 2 rfl rfl ?_
 refine Dg0 Ai2 k w 0 K kK hl (I1 5) 0 El2 X1.m 0 (by omega) [] [] rfl rfl none none 0 0 fun q0 c0 d0 a1 n1 a2 n2 h=>?_
 refine Dg0 Ai2 k w 0 K kK hl (I1 5) 0 El2 X1.m 1 (by omega) [q0] [d0] rfl rfl a1 a2 n1 n2 fun q1 c1 d1 a1 n1 a2 n2 h=>?_
 refine Dg0 Ai2 k w 0 K kK hl (I1 5) 0 El2 X1.m 2 (by omega) [q0,q1] [d0,d1] rfl rfl a1 a2 n1 n2 fun q2 c2 d2 a1 n1 a2 n2 h=>?_
 refine Dg0 Ai2 k w 0 K kK hl (I1 5) 0 El2 X1.m 3 (by omega) [q0,q1,q2] [d0,d1,d2] rfl rfl a1 a2 n1 n2 fun q3 c3 d3 a1 n1 a2 n2 h=>?_
 refine Tr.jmp Dw2 (Tr.eq (D48 ..) ?_);(try simp only[Nr,Nl,wl,Nat.reduceAdd,Nat.reduceMul,Int.reduceToNat])
 refine Tr.condF rfl ?_
 refine Tr.some fun o=>?_
 have o2:Own h (kmC S3 k (I1 5) 0 X1.m::rkC w K::slC false P2 1 a1 4 n1 [P0 q0,P0 q1,P0 q2,P0 q3]::slC false Am0 1 a2 4 n2 [P0 d0,P0 d1,P0 d2,P0 d3]::hoC q3 k 3 ⟨c3,0,0,0,0,0,[]⟩::hoC q2 k 2 ⟨c2,0,0,0,0,0,[]⟩::hoC q1 k 1 ⟨c1,0,0,0,0,0,[]⟩::hoC q0 k 0 ⟨c0,0,0,0,0,0,[]⟩::r):=o
 exact ⟨k,w,a1,n1,a2,n2,q0,q1,q2,q3,c0,c1,rfl,o2.fin [0,1,5,4] 4 rfl rfl⟩
theorem TOk.enter {N:Nat} {T:SectS} {t:Int} (k:TOk N T t) (hN:N+4<1000000000) (j:Int):TOk (N+2) (B9 T j t).2 t:=⟨Ih7 k.ok k.hN j t k.now,by omega,k.now⟩
theorem TOk.leave {N:Nat} {T:SectS} {t:Int} (k:TOk N T t) (j st:Int):TOk N (J0 T j st) t:=⟨Ia1 k.ok j st,k.hN,k.now⟩
section
variable {S:KS} (B:Base S) (hb k N:Nat) (a:Option Addr) (ac:Nat) (Q:List Nat) (i q:Nat) (hi:i<4) (hq:Q[i]?=some q) (y:HoS) (T:SectS) (t:Int) (ok:TOk N T t) (hN:N+4<1000000000) {X:CX} {V V':VW} (A:See X V) {p p':ProcS} (hp:Qt V i p)
include B hi hq ok hN A hp
end
theorem H23 (k:Nat) (S:KS) (A:KA) (s:Int) (hs:S.sects.length≤s):CtP A6 Z8 [P0 k,int s] (Ap0 k S A) (.pointer none):=by
 obtain ⟨m,s',q,rg,ea,ec,ma,mc,ms,sa,sc,ss⟩:=A
 refine CtP.of Dz1 rfl fun h r=>Tr.eq (Du2 ..) ?_;refine Je ?_
 refine Tr.orG (c:=true) (fun hb=>?_) ?_
 ·(refine Ja ?_;unhygienic intros)
  refine Tr.some fun o=>?_
  exact ⟨decide_eq_true (by omega),rfl⟩
 rw [Bool.or_true]
 refine Tr.condT rfl ?_
 exact Jz
section
variable {S:KS} (B:Base S) (k N:Nat) (T:SectS) (t:Int) (ok:TOk N T t)
include B ok
theorem Ib3 (m:List (List UInt8)):Ct A6 A25 [P0 k,int 0,int 9,int 0] [kmC S k T t m] fun v own=>v=.tuple ⟨[.pointer none,int 1]⟩∧own [kmC S k T t m]:=by
 refine Ct.of En3 rfl fun h r=>Tr.eq (Em8 ..) ?_;refine Je ?_
 refine Tr.xCall (Ej0 B k N (j:=0) (by omega) T t ok m) ?_;rintro _ h ⟨c,rfl,o⟩<;>refine Jh o ?_
 (refine Jb ?_;unhygienic intros)
 refine Tr.condF rfl ?_
 refine Tr.bnd (Tr.condF rfl ?_)
 refine Tr.some fun o=>(?_:Tr _ _ _ _) o;refine Je ?_
 refine Tr.condT rfl ?_
 refine Tr.some fun o=>?_
 exact ⟨rfl,o.sub⟩
theorem Ic0 (m:List (List UInt8)):Ct A6 A25 [P0 k,int 0,int 0,int 9] [kmC S k T t m] fun v own=>v=.tuple ⟨[.pointer none,int 8]⟩∧own [kmC S k T t m]:=by
 refine Ct.of En3 rfl fun h r=>Tr.eq (Em8 ..) ?_;refine Je ?_
 refine Tr.xCall (Ej0 B k N (j:=0) (by omega) T t ok m) ?_;rintro _ h ⟨c,rfl,o⟩<;>refine Jh o ?_
 (refine Jb ?_;unhygienic intros)
 refine Tr.condF rfl ?_
 refine Tr.bnd (Tr.condF rfl ?_)
 refine Tr.some fun o=>(?_:Tr _ _ _ _) o;refine Je ?_
 refine Tr.condF rfl ?_
 have hlt:(((J9 (SH S T t) (U8 S.mem (rgP 0) m)).sects.length:Nat):Int)≤9:=by
  show (((S.sects.set 0 T).length:Nat):Int)≤9;rw [List.length_set,B.sects];decide
 refine A9 (kmC S k T t m) fun u=>?_;refine Je ?_
 generalize hK:J9 (SH S T t) (U8 S.mem (rgP 0) m)=K at hlt
 refine A9 (D4 k K) fun A=>?_;refine Je ?_
 refine Tr.pcall (H23 k K A 9 hlt) ?_
 (refine Jc ?_;unhygienic intros)
 refine A7 (D4 k K) A ?_;refine Je ?_
 subst hK
 refine A7 (kmC S k T t m) () ?_;refine Je ?_
 refine Tr.some fun o=>?_
 exact ⟨rfl,o.sub⟩
theorem Hy2 (q:Nat) {j:Int} (hj:0≤j∧j<4) (y:HoS) (h0:y.phase=0) {X:CX} {V:VW} (A:See X V) (hv:V.S j=(.zero,0)) (op a b:Int) (da:Option Addr) (dn dc:Nat) :
  Ct A6 Q9 [P0 q,.agg ⟨[int op,int a,int b,.slice da dn dc]⟩] [hoC q k j y,kmC S k T t X.m] fun v own=>v=.bool false∧own [hoC q k j y,kmC S k T t X.m]:=by
 have fo:=Ax6 B ok (Dm0 hj)
 have e0:=A.s j (by omega)
 rw [hv] at e0
 refine Ct.of Bs2 rfl fun h r=>Tr.eq (Bq8 ..) ?_;refine Je ?_
 refine Tr.nw fun b1 h=>?_
 refine A9 (hoC q k j y) fun ⟨ha,hc⟩=>?_;refine Je ?_
 (refine Jc ?_;unhygienic intros)
 refine Bi5 S y.c k N T t j X.m ?_
 rw [A.eX]
 refine Tr.xCall (Al1 y.c k (frH S T t N j) X fo) ?_;rintro _ h ⟨rfl,o⟩<;>refine Jh o ?_
 rw [U7 A.c]
 (refine Jc ?_;unhygienic intros)
 rw [h0]
 refine Tr.condF rfl ?_
 (refine Jc ?_;unhygienic intros)
 refine Tr.nw fun b2 h=>?_
 refine Tr.xCall (Z5 y.c k (frH S T t N j) X fo j) ?_;rintro _ h ⟨rfl,o⟩<;>refine Jh o ?_
 rw [N9 A.c (by omega),e0]
 dsimp only
 (refine Jc ?_;unhygienic intros)
 refine Tr.condT (by rfl) ?_
 refine Be4 S y.c k N T t j X A.c.bad ?_
 refine A7 (hoC q k j y) (ha,hc) ?_;refine Je ?_
 refine Tr.some fun o=>?_
 exact ⟨rfl,o.sub⟩
end
theorem qt1:Qt V1 0 p0:=⟨rfl,by rfl,by rfl⟩
theorem Hz1:Ct A6 Bx2 [] [] fun v own=>v=.bool true∧own []:=by
 have st:(B9 (I1 5) 0 0).1.1=1:=by kernel_rfl
 have hh:Ao9 (B9 (I1 5) 0 0).2 0 1=true:=by kernel_rfl
 have ok2:=El2.enter (by omega) 0
 refine Ct.of G58 rfl fun h r=>Tr.eq (G30 ..) ?_;refine Je ?_
 refine Tr.xCall G19 ?_
 rintro _ h ⟨k,w,a,ac,a2,ac2,q0,q1,q2,q3,c0,c1,rfl,o⟩
 refine (?_:Tr _ _ _ _) o
 refine Je ?_
 (refine Ja ?_;unhygienic intros;repeat(refine Gw ?_;rintro px rfl;refine Ja ?_;unhygienic intros))
 refine Bp9 ?_
 refine Tr.xCall (Gy0 Ai2 q0 k 0 (j:=0) (by omega) ⟨c0,0,0,0,0,0,[]⟩ (I1 5) 0 El2 Hd9 qt1 rfl 1 0 0 (dC none 0 []) none false 0 [] (by simp [A8])) ?_;rintro _ h ⟨rfl,o⟩<;>refine Jh o ?_
 (refine Jc ?_;unhygienic intros)
 refine Tr.xCall (Gz8 Ai2 q0 k 0 (j:=0) (by omega) ⟨c0,1,0,1,0,0,[]⟩ (I1 5) 0 El2 Hd9 qt1 rfl) ?_;rintro _ h ⟨rfl,o⟩<;>refine Jh o ?_
 rw [st,show Eg7 ⟨c0,1,0,1,0,0,[]⟩ 1=⟨c0,2,1,1,0,0,[]⟩ from rfl]
 (refine Jc ?_;unhygienic intros)
 refine Tr.nw fun b1 h=>?_
 (refine Jc ?_;unhygienic intros)
 refine Tr.xCall (Gn9 Ai2 q0 k 2 (j:=0) (by omega) ⟨c0,2,1,1,0,0,[]⟩ (B9 (I1 5) 0 0).2 0 ok2 Hd9 qt1 rfl hh (I01 (Ax6 Ai2 ok2 Gf4) Hd9 (by omega) qt1 0 0 []) (show (1:Int)≠3 by decide) (ok2.leave 0 1) qt1) ?_;rintro _ h ⟨da,dc,x,cap,X',A',rfl,o⟩<;>refine Jh o ?_
 (refine Jc ?_;unhygienic intros)
 refine Tr.nw fun b2 h=>?_
 (refine Jc ?_;unhygienic intros)
 refine Tr.xCall (Ib3 Ai2 k 2 (J0 (B9 (I1 5) 0 0).2 0 1) 0 (ok2.leave 0 1) X'.m) ?_;rintro _ h ⟨rfl,o⟩<;>refine Jh o ?_
 (refine Jc ?_;unhygienic intros)
 refine Tr.xCall (Ic0 Ai2 k 2 (J0 (B9 (I1 5) 0 0).2 0 1) 0 (ok2.leave 0 1) X'.m) ?_;rintro _ h ⟨rfl,o⟩<;>refine Jh o ?_
 (refine Jb ?_;unhygienic intros)
 refine Tr.bnd (Tr.condT rfl ?_)
 refine Tr.some fun o=>(?_:Tr _ _ _ _) o;refine Je ?_
 refine Tr.bnd (Tr.condT rfl ?_)
 (refine Jb ?_;unhygienic intros)
 refine Tr.some fun o=>(?_:Tr _ _ _ _) o;refine Je ?_
 refine Tr.bnd (Tr.condT rfl ?_)
 (refine Jb ?_;unhygienic intros)
 refine Tr.some fun o=>(?_:Tr _ _ _ _) o;refine Je ?_
 refine Tr.bnd (Tr.condT rfl ?_)
 (refine Jb ?_;unhygienic intros)
 refine Tr.some fun o=>(?_:Tr _ _ _ _) o;refine Je ?_
 refine Tr.bnd (Tr.condT rfl ?_)
 (refine Jb ?_;unhygienic intros)
 refine Tr.xCall (Ew3 q0 k 0 ⟨c0,0,1,1,0,0,[]⟩) ?_;rintro _ h ⟨rfl,o⟩<;>refine Jh o ?_
 (refine Jb ?_;unhygienic intros)
 refine Tr.some fun o=>(?_:Tr _ _ _ _) o;refine Je ?_
 refine Tr.bnd (Tr.condT rfl ?_)
 refine Tr.some fun o=>(?_:Tr _ _ _ _) o;refine Je ?_
 refine Tr.bnd (Tr.condT rfl ?_)
 refine Tr.some fun o=>(?_:Tr _ _ _ _) o;refine Je ?_
 refine Tr.bnd (Tr.condT rfl ?_)
 (refine Jb ?_;unhygienic intros)
 refine Tr.xCall (Hy2 Ai2 k 2 (J0 (B9 (I1 5) 0 0).2 0 1) 0 (ok2.leave 0 1) q1 (j:=1) (by omega) ⟨c1,0,0,0,0,0,[]⟩ rfl A' rfl 1 0 0 none 0 0) ?_;rintro _ h ⟨rfl,o⟩<;>refine Jh o ?_
 (refine Jb ?_;unhygienic intros)
 refine Tr.some fun o=>(?_:Tr _ _ _ _) o;refine Je ?_
 refine Tr.some fun o=>?_
 exact ⟨rfl,o.sub⟩
end Go.EQ
