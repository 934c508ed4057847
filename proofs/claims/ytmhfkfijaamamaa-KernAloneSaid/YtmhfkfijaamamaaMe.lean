/- What the environments of sessions that share nothing are answered hangs on their own calls and on the clock alone: another session's calls, left out, change no answer. -/
import Derived.Test.YtmhfkfijaamamaaMd
set_option linter.all false
set_option maxRecDepth 10000
namespace Go.EQ
open Go Go.NN
abbrev int (n:Int):Value:=.int .i64 n
abbrev P0 (b:Nat):Value:=.pointer (some ⟨b,0,none⟩)
theorem B47 (ro:Bool) (a:Option Addr) (n c:Nat) (pq:List Value × List Value) (cs:List Value) (hn:n≤E6) (h1:cs.all Value.oneCell=true) :
  Ct D5 O4 [.slice a n c] [slX ro A5 1 a n c pq cs] fun v own=>∃ a' c',v=.slice a' n c'∧own [slC false A5 1 a' n c' cs,slX ro A5 1 a n c pq cs]:=by
 refine Ct.of A14 rfl fun h r=>Tr.eq (A13 ..) ?_;refine Je ?_
 refine Az6 0 rfl fun hl hc _=>?_
 refine Tr.cond (fun hb=>?_) fun hb=>?_
 ·obtain rfl:a=none:=by simpa using hb
  refine Q6 false A5 1 (by omega) ?_
  refine Y3 1 rfl fun ⟨e1,e2,e3,_⟩=>?_
  subst e1 e2 e3
  exact Ys fun o=>⟨none,0,rfl,o⟩
 ·(refine Ja ?_;intros)
  refine R5 0 rfl 1 0 rfl (by omega) ?_;refine Je ?_
  refine Tr.xApd ⟨by omega,h1,by omega⟩ fun a' c' h'=>?_
  refine Ys fun o=>⟨a',c',by simp,by simpa using o⟩
abbrev Ec0 (m:Nat) (bs:List UInt8) (q:Nat):List HP:=[pt m (.cells Bm1 false [.slice (some ⟨q,0,none⟩) bs.length bs.length]),pt q (.cells A5 false (A0 bs))]
def S0 (m:Nat) (bs:List UInt8):HP:=hex fun q:Nat=>sl (Ec0 m bs q)
instance {m:Nat} {bs:List UInt8}:Chk (S0 m bs) (Ec0 m bs):=⟨rfl⟩
theorem D74 (m:Nat) (bs:List UInt8) (a n:Int) (hl:bs.length≤65536):Ct D5 Al6 [P0 m,int a,int n] [S0 m bs] fun v own=>v=.bool (decide (0≤a∧0≤n∧a≤bs.length∧n≤bs.length-a))∧own [S0 m bs]:=by
 refine Ct.of Dc7 rfl fun h r=>Tr.eq (Dh8 ..) ?_;refine Je ?_
 refine B9 (S0 m bs) fun q=>?_;refine Je ?_
 (refine Ja ?_;intros)
 refine D3 (S0 m bs) q ?_;refine Je ?_
 refine Ys fun o=>?_
 refine ⟨?_,o⟩
 refine congrArg Value.bool ?_;rw [Bool.eq_iff_iff];simp only [Bool.and_eq_true,Bool.or_eq_true,Bool.not_eq_true',Bool.not_eq_false',decide_eq_true_eq,decide_eq_false_iff_not,bne_iff_ne,beq_iff_eq,ne_eq,G9,W4,S5,ge_iff_le,gt_iff_lt];first|done|omega
def Ba3 (bs:List UInt8) (a n:Int):Option (List UInt8):=if 0≤a∧0≤n∧a≤bs.length∧n≤bs.length-a then some ((bs.drop a.toNat).take n.toNat) else none
theorem D82 (m:Nat) (bs:List UInt8) (a n:Int) (hl:bs.length≤65536):Ct D5 Am8 [P0 m,int a,int n] [S0 m bs] fun v own =>
  (∃ l x c,Ba3 bs a n=some l∧v=.tuple ⟨[.slice x l.length c,int 0]⟩∧own [slC false A5 1 x l.length c (A0 l),S0 m bs]) ∨
  (Ba3 bs a n=none∧v=.tuple ⟨[.slice none 0 0,int 1]⟩∧own [S0 m bs]):=by
 refine Ct.of B63 rfl fun h r=>Tr.eq (B58 ..) ?_;refine Je ?_
 refine Yc (D74 m bs a n hl) ?_;rintro _ h ⟨rfl,o⟩<;>(refine Jf o ?_;intros)
 by_cases hc:0≤a∧0≤n∧a≤bs.length∧n≤bs.length-a
 ·have e0:Ba3 bs a n=some ((bs.drop a.toNat).take n.toNat):=if_pos hc
  have el:((bs.drop a.toNat).take n.toNat).length=n.toNat:=by simp;omega
  obtain ⟨c1,c2,c3,c4⟩:=hc
  have e1:IntKind.wrap .i64 (a+n)=a+n:=by rw [G9];omega
  rw [e1]
  refine Yf (by simp [c1,c2,c3,c4]) ?_
  refine B9 (S0 m bs) fun q=>?_;refine Je ?_
  (refine Ja ?_;intros)
  refine Je ?_
  have e2:(a+n).toNat-a.toNat=n.toNat:=by omega
  rw [e2]
  refine B62 1 rfl (A0 (bs.take a.toNat)) (A0 ((bs.drop a.toNat).take n.toNat)) (A0 (bs.drop (a+n).toNat)) ?_ 1 (bif decide (a.toNat<bs.length) then 0+a.toNat else 0) n.toNat (bs.length-a.toNat) ?_ ?_
  ·rw [← S9,← S9];congr 1
   rw [List.append_assoc,show (a+n).toNat=a.toNat+n.toNat by omega,← List.drop_drop,List.take_append_drop,List.take_append_drop]
  ·simp only [Ar9,el,List.length_drop,List.length_take]
   refine ⟨by omega,by omega,by omega,fun hc=>?_,by omega,fun hc=>?_⟩
   ·rw [decide_eq_true (by omega)];simp;omega
   ·rw [decide_eq_false (by omega)];simp
  ·refine Je ?_
   refine Yc (B47 false _ _ _ (A0 (bs.take a.toNat),A0 (bs.drop (a+n).toNat)) (A0 ((bs.drop a.toNat).take n.toNat)) (by simp only [E6];omega) (Bj0 _)) ?_;rintro _ h ⟨a',c',rfl,o⟩<;>(refine Jf o ?_;intros)
   refine Da2 1 rfl (A0 bs) ?_ ?_
   ·rw [← S9,← S9];congr 1
    rw [List.append_assoc,show (a+n).toNat=a.toNat+n.toNat by omega,← List.drop_drop,List.take_append_drop,List.take_append_drop]
   refine Je ?_
   refine D3 (S0 m bs) q ?_;refine Je ?_
   refine Ys fun o=>?_
   refine .inl ⟨_,a',c',e0,by rw [el],?_⟩
   rw [el];exact o.sub
 ·refine Yt (by simp only [hc,decide_false,Bool.not_false]) ?_
  refine Ys fun o=>?_
  exact .inr ⟨if_neg hc,rfl,o⟩
def Aw3 (bs:List UInt8) (a:Int) (b:List UInt8):Option (List UInt8):=if 0≤a∧a≤bs.length∧(b.length:Int)≤bs.length-a then some (bs.take a.toNat++b++bs.drop (a.toNat+b.length)) else none
theorem B34 {bs b:List UInt8} {a:Int} {l:List UInt8} (h:Aw3 bs a b=some l):l.length=bs.length:=by
 unfold Aw3 at h
 split at h
 ·cases h;simp;omega
 ·cases h
theorem D64 (m:Nat) (bs b:List UInt8) (a:Int) (x:Option Addr) (c:Nat) (ro:Bool) (pq:List Value × List Value) (hl:bs.length≤65536):Ct D5 Ak3 [P0 m,int a,.slice x b.length c] [slX ro A5 1 x b.length c pq (A0 b),S0 m bs] fun v own =>
  (∃ l,Aw3 bs a b=some l∧v=int 0∧own [slX ro A5 1 x b.length c pq (A0 b),S0 m l]) ∨
  (Aw3 bs a b=none∧v=int 1∧own [slX ro A5 1 x b.length c pq (A0 b),S0 m bs]):=by
 refine Ct.of B01 rfl fun h r=>Tr.eq (B11 ..) ?_;refine Je ?_
 refine Yc (D74 m bs a b.length hl) ?_;rintro _ h ⟨rfl,o⟩<;>(refine Jf o ?_;intros)
 by_cases hc:0≤a∧0≤(b.length:Int)∧a≤bs.length∧(b.length:Int)≤bs.length-a
 ·refine Yf (by simp only [hc,and_self,decide_true,Bool.not_true]) ?_
  obtain ⟨c1,c2,c3,c4⟩:=hc
  refine B9 (S0 m bs) fun q=>?_;refine Je ?_
  (refine Ja ?_;intros)
  refine Je ?_
  (refine Ja ?_;intros)
  refine Je ?_
  have e0:Aw3 bs a b=some (bs.take a.toNat++b++bs.drop (a.toNat+b.length)):=if_pos (by omega)
  have el:=B34 e0
  have hoff:(bif decide (a.toNat<bs.length) then a.toNat else 0)=a.toNat∨(b=[]∧(bif decide (a.toNat<bs.length) then a.toNat else 0)=0∧a.toNat=bs.length):=by
   by_cases hlt:a.toNat<bs.length
   ·left;simp [hlt]
   ·right;refine ⟨List.eq_nil_of_length_eq_zero (by omega),by simp [hlt],by omega⟩
  refine Tr.xPAgg (cs':=A0 (bs.take a.toNat++b++bs.drop (a.toNat+b.length))) ⟨?_,Bj0 _,?_⟩ fun h=>?_
  ·simp only [Ar9];rcases hoff with e|⟨rfl,e,_⟩<;>rw [e]<;>(try simp)<;>omega
  ·rw [Ar9]
   rcases hoff with e|⟨rfl,e,e4⟩<;>rw [e]
   ·rw [B53,B57,S9,S9]
   ·simp [e4,A0]
  ·rw [← el]
   refine D3 (S0 m (bs.take a.toNat++b++bs.drop (a.toNat+b.length))) q ?_
   refine Ys fun o=>?_
   exact .inl ⟨_,e0,rfl,o.sub⟩
 ·refine Yt (by simp only [hc,decide_false,Bool.not_false]) ?_
  refine Ys fun o=>?_
  exact .inr ⟨if_neg (by omega),rfl,o.sub⟩
structure CapS where
 obj:Int
 rights:Int
 lo:Int
 n:Int
 rEnv:Int
 rName:Int
def CapS.zero:CapS:=⟨0,0,0,0,0,0⟩
abbrev A52 (c:CapS):List Value:=[int c.obj,int c.rights,int c.lo,int c.n,int c.rEnv,int c.rName]
structure PlaceS where
 cap:CapS
 gen:Int
 used:Bool
def W9 (p:PlaceS):List Value:=[int p.cap.obj,int p.cap.rights,int p.cap.lo,int p.cap.n,int p.cap.rEnv,int p.cap.rName,int p.gen,.bool p.used]
theorem I4 (p:PlaceS):(W9 p).length=8:=rfl
abbrev Aq9 (t:Nat) (l:List PlaceS) (q:Nat):List HP:=[pt t (.cells As9 false [.slice (some ⟨q,0,none⟩) l.length l.length]),pt q (.cells W3 false (l.flatMap W9))]
def I6 (t:Nat) (l:List PlaceS):HP:=hex fun q:Nat=>sl (Aq9 t l q)
instance {t:Nat} {l:List PlaceS}:Chk (I6 t l) (Aq9 t l):=⟨rfl⟩
def U4 (l:List PlaceS):Prop:=l.length≤256∧∀ p ∈ l,0≤p.gen∧p.gen≤1000001∧(p.used=true→p.gen≤1000000)
theorem U4.at {l:List PlaceS} (k:U4 l) {i:Nat} {p:PlaceS} (h:l[i]?=some p):0≤p.gen∧p.gen≤1000001∧(p.used=true→p.gen≤1000000):=k.2 p (List.mem_of_getElem? h)
theorem U4.lt {l:List PlaceS} (k:U4 l) {i:Nat} {p:PlaceS} (h:l[i]?=some p):i<l.length∧i<256:=by
 have:=(List.getElem?_eq_some_iff.1 h).1;have:=k.1;omega
def Ac6 (i:Nat) (p:PlaceS):Int:=i+256*p.gen
theorem B51 (t q:Nat) (l:List PlaceS) (i:Nat) (p:PlaceS) (k:U4 l) (hi:l[i]?=some p):CtP D5 I2 [P0 t,int i] (Aq9 t l q) (int (Ac6 i p)):=by
 have h1:=k.at hi;have h2:=k.lt hi
 refine CtP.of A10 rfl fun h r=>Tr.eq (A11 ..) ?_;refine Je ?_
 (refine Ja ?_;unhygienic intros)
 refine Je ?_
 refine Tr.xInt (n:=p.gen) (by rw [Int.toNat_natCast];exact Bx0 I4 hi (j:=6) (by omega)) ?_
 refine Ys fun o=>?_
 refine ⟨?_,rfl⟩
 have e1:IntKind.wrap .i64 (256*p.gen)=256*p.gen:=by rw [G9];omega
 have e2:IntKind.wrap .i64 (i+256*p.gen)=i+256*p.gen:=by rw [G9];omega
 rw [e1,e2];rfl
def Ae9 (l:List PlaceS) (name:Int):Option Nat :=
 if 0≤name then match l[(name%256).toNat]? with
  | some p=>if p.used=true∧Ac6 (name%256).toNat p=name then some (name%256).toNat else none
  | none=>none
 else none
theorem Am7 {l:List PlaceS} {name:Int} {i:Nat} (h:Ae9 l name=some i):∃ p,l[i]?=some p∧p.used=true∧Ac6 i p=name:=by
 unfold Ae9 at h
 split at h
 ·split at h
  ·rename_i p hp
   split at h
   ·rename_i hc;cases h;exact ⟨p,hp,hc⟩
   ·cases h
  ·cases h
 ·cases h
def atV (q:Nat):Option Nat→Value
 | some i=>.pointer (some ⟨q,i*8,none⟩)
 | none=>.pointer none
theorem D73 (t q:Nat) (l:List PlaceS) (name:Int) (k:U4 l):CtP D5 M5 [P0 t,int name] (Aq9 t l q) (atV q (Ae9 l name)):=by
 refine CtP.of A47 rfl fun h r=>Tr.eq (A73 ..) ?_;refine Je ?_
 rw [D59]
 refine Tr.orG (c:=decide (name%256≥l.length)) (fun hb=>?_) ?_
 ·exact Jz
 by_cases hn:name<0
 ·have e:Ae9 l name=none:=if_neg (by omega)
  simp only [hn,decide_true,Bool.true_or,e]
  exact Jz
 by_cases hi:name%256≥l.length
 ·have e:Ae9 l name=none:=by
   unfold Ae9;rw [if_pos (by omega),List.getElem?_eq_none (by omega)]
  simp only [hn,hi,decide_true,decide_false,Bool.or_true,e]
  exact Jz
 have hlt:(name%256).toNat<l.length:=by omega
 have hp:l[(name%256).toNat]?=some l[(name%256).toNat]:=List.getElem?_eq_getElem hlt
 generalize l[(name%256).toNat]=p at hp
 have e0:Ae9 l name=if p.used=true∧Ac6 (name%256).toNat p=name then some (name%256).toNat else none:=by
  unfold Ae9;rw [if_pos (by omega),hp]
 have e1:name%256=((name%256).toNat:Int):=by omega
 simp only [hn,hi,decide_false,Bool.or_false]
 refine Tr.orG (c:=!p.used) (fun hb=>?_) ?_
 ·(refine Ja ?_;unhygienic intros)
  refine Je ?_
  refine Tr.xBool (n:=p.used) (Bx0 I4 hp (j:=7) (by omega)) ?_
  exact Jz
 cases hu:p.used with
 | false =>
  have e:Ae9 l name=none:=by rw [e0,hu];simp
  simp only [Bool.not_false,Bool.or_true,e]
  exact Jz
 | true =>
  rw [hu] at e0
  simp only [Bool.not_true,Bool.or_false]
  refine Tr.orG (c:=Ac6 (name%256).toNat p != name) (fun hb=>?_) ?_
  ·rw [e1]
   refine Tr.pcall (B51 t q l (name%256).toNat p k hp) ?_
   exact Jz
  by_cases hq:Ac6 (name%256).toNat p=name
  ·have e:Ae9 l name=some (name%256).toNat:=by rw [e0];simp [hq]
   simp only [hq,bne_self_eq_false,Bool.or_false,e,atV]
   (refine Ja ?_;unhygienic intros)
   refine Je ?_
   refine Ys fun o=>?_
   exact ⟨rfl,rfl⟩
  ·have e:Ae9 l name=none:=by rw [e0];simp [hq]
   refine Yt (by simpa using hq) ?_
   refine Ys fun o=>?_
   exact ⟨by rw [e];rfl,rfl⟩
def Am0 (l:List PlaceS) (name:Int):Option CapS :=
 match Ae9 l name with
 | some i=>(l[i]?).map (·.cap)
 | none=>none
def D62 (c:Option CapS):Value:=.tuple ⟨[.agg ⟨A52 (c.getD .zero)⟩,.bool c.isSome]⟩
theorem Dz0 (t:Nat) (l:List PlaceS) (name:Int) (k:U4 l):Ct D5 M0 [P0 t,int name] [I6 t l] fun v own=>v=D62 (Am0 l name)∧own [I6 t l]:=by
 refine Ct.of A35 rfl fun h r=>Tr.eq (A32 ..) ?_;refine Je ?_
 refine B9 (I6 t l) fun q=>?_;refine Je ?_
 (refine Ja ?_;unhygienic intros)
 refine Tr.pcall (D73 t q l name k) ?_;refine Je ?_;(refine Ja ?_;unhygienic intros)
 cases ha:Ae9 l name with
 | none =>
  have e:Am0 l name=none:=by unfold Am0;rw [ha]
  simp only [atV,Option.isNone_none]
  (refine Ja ?_;unhygienic intros)
  refine D3 (I6 t l) q ?_;refine Je ?_
  refine Ys fun o=>?_
  exact ⟨by rw [e];rfl,o.sub⟩
 | some i =>
  obtain ⟨p,hp,hu,hq⟩:=Am7 ha
  have e:Am0 l name=some p.cap:=by unfold Am0;rw [ha];simp [hp]
  have hl:=k.lt hp
  simp only [atV,Option.isNone_some]
  (refine Ja ?_;unhygienic intros)
  refine Je ?_
  refine Tr.xAgg (xs:=A52 p.cap) ⟨by rw [R3 I4];omega,Dy5 I4 hp (j:=0) (m:=6) (by omega)⟩ ?_
  (refine Ja ?_;unhygienic intros)
  refine D3 (I6 t l) q ?_;refine Je ?_
  refine Ys fun o=>?_
  exact ⟨by rw [e];rfl,o.sub⟩
def O9 (l:List PlaceS) (name:Int):Option (List PlaceS) :=
 match Ae9 l name with
 | some i=>match l[i]? with
  | some p=>some (l.set i ⟨.zero,p.gen+1,false⟩)
  | none=>none
 | none=>none
theorem Du3 {l l':List PlaceS} {name:Int} (k:U4 l) (h:O9 l name=some l'):U4 l'∧l'.length=l.length:=by
 unfold O9 at h
 split at h
 ·rename_i i hi
  obtain ⟨p,hp,hu,_⟩:=Am7 hi
  rw [hp] at h
  cases h
  refine ⟨⟨by simpa using k.1,fun x hx=>?_⟩,by simp⟩
  rcases List.mem_or_eq_of_mem_set hx with h1|rfl
  ·exact k.2 x h1
  ·have:=k.at hp;have:=this.2.2 hu;simp;omega
 ·cases h
theorem Ea6 (t:Nat) (l:List PlaceS) (name:Int) (k:U4 l):Ct D5 K0 [P0 t,int name] [I6 t l] fun v own =>
  v=.bool (O9 l name).isSome∧own [I6 t ((O9 l name).getD l)]:=by
 refine Ct.of A08 rfl fun h r=>Tr.eq (A12 ..) ?_;refine Je ?_
 refine B9 (I6 t l) fun q=>?_;refine Je ?_
 refine Tr.pcall (D73 t q l name k) ?_;refine Je ?_;(refine Ja ?_;unhygienic intros)
 cases ha:Ae9 l name with
 | none =>
  have e:O9 l name=none:=by unfold O9;rw [ha]
  simp only [atV,Option.isNone_none]
  (refine Ja ?_;unhygienic intros)
  refine D3 (I6 t l) q ?_;refine Je ?_
  refine Ys fun o=>?_
  refine ⟨by rw [e];rfl,?_⟩
  rw [e];simp only [Option.getD_some,Option.getD_none];exact o.sub
 | some i =>
  obtain ⟨p,hp,hu,hq⟩:=Am7 ha
  have e:O9 l name=some (l.set i ⟨.zero,p.gen+1,false⟩):=by unfold O9;rw [ha];simp [hp]
  have hl:=k.lt hp
  have hg:=k.at hp
  simp only [atV,Option.isNone_some]
  (refine Ja ?_;unhygienic intros)
  refine Je ?_
  refine Tr.xInt (n:=p.gen) (Bx0 I4 hp (j:=6) (by omega)) ?_
  rw [show IntKind.wrap .i64 (p.gen+1)=p.gen+1 by rw [G9];omega]
  refine Tr.xPAgg (cs':=(l.set i ⟨.zero,p.gen+1,false⟩).flatMap W9) ⟨by rw [R3 I4];simp;omega,rfl,?_⟩ fun h=>?_
  ·exact Dl1 (f:=W9) (y:=⟨.zero,p.gen+1,false⟩) I4 hl.1
  have el:l.length=(l.set i ⟨.zero,p.gen+1,false⟩).length:=by simp
  rw [el]
  refine D3 (I6 t (l.set i ⟨.zero,p.gen+1,false⟩)) q ?_;refine Je ?_
  refine Ys fun o=>?_
  refine ⟨by rw [e];rfl,?_⟩
  rw [e];simp only [Option.getD_some,Option.getD_none];exact o.sub
def H6:Nat→List PlaceS→List Int
 | _,[]=>[]
 | i,p::l=>if p.used=true then Ac6 i p::H6 (i+1) l else H6 (i+1) l
def E8 (l:List PlaceS):List Int:=H6 0 l
theorem A15:∀ (i:Nat) (l:List PlaceS),(H6 i l).length≤l.length
 | _,[]=>by simp [H6]
 | i,p::l=>by have:=A15 (i+1) l;unfold H6;split<;>simp<;>omega
theorem Dm9 (t q:Nat) (l:List PlaceS) (k:U4 l):∀ (m i:Nat) (acc:List Int) (a:Option Addr) (c:Nat),l.length-i=m→i≤l.length→acc.length≤i →
  CtJ Q1 D1 I3 [(0,P0 t),(3,.slice a acc.length c),(9,.slice (some ⟨q,0,none⟩) l.length l.length),(10,int l.length),(11,int i)]
   (slC false D0 1 a acc.length c (acc.map int)::Aq9 t l q) fun v own=>∃ a' c',v=.slice a' (acc++H6 i (l.drop i)).length c'∧own (slC false D0 1 a' (acc++H6 i (l.drop i)).length c' ((acc++H6 i (l.drop i)).map int)::Aq9 t l q):=by
 intro m
 induction m with
 | zero =>
  intro i acc a c hm hi hacc
  refine CtJ.of V6 fun h r=>Tr.eq (Ad3 ..) ?_;refine Je ?_
  refine Yf (by simp;omega) ?_
  refine Ys fun o=>?_
  rw [List.drop_eq_nil_of_le (by omega)]
  exact ⟨a,c,by simp [H6],by simpa [H6] using o⟩
 | succ m ih =>
  intro i acc a c hm hi hacc
  have hlt:i<l.length:=by omega
  have hp:l[i]?=some l[i]:=List.getElem?_eq_getElem hlt
  have hd:l.drop i=l[i]::l.drop (i+1):=List.drop_eq_getElem_cons hlt
  generalize l[i]=p at hp hd
  have hk:=k.1
  have e1:=wN i
  refine CtJ.of V6 fun h r=>Tr.eq (Ad3 ..) ?_;refine Je ?_
  refine Yt (by simp;omega) ?_
  (refine Ja ?_;unhygienic intros)
  refine Je ?_
  refine Tr.xAgg (xs:=W9 p) ⟨by rw [R3 I4];omega,by rw [Int.toNat_natCast];exact Ax3 I4 hp⟩ ?_
  (refine Ja ?_;unhygienic intros)
  refine Tr.cond (fun hu=>?_) fun hu=>?_
  ·refine Tr.pcall (B51 t q l i p k hp) ?_;refine Je ?_;(refine Ja ?_;unhygienic intros)
   refine Tr.xApd ?_ (fun a' c' h=>?_);exact ⟨by first|rfl|simp,by first|rfl|simp,by simp only [E6];omega⟩;refine Je ?_
   rw [e1]
   have ih1:=ih (i+1) (acc++[Ac6 i p]) a' c' (by omega) (by omega) (by simp;omega)
   have e2:acc++H6 i (l.drop i)=acc++[Ac6 i p]++H6 (i+1) (l.drop (i+1)):=by rw [hd,H6,if_pos hu];simp
   rw [e2]
   simp only [List.length_append,List.length_cons,List.length_nil,Nat.zero_add,List.map_append,List.map_cons,List.map_nil] at ih1 ⊢
   refine Yr ih1 ?_
   rintro _ h ⟨a2,c2,rfl,o⟩
   exact ⟨a2,c2,rfl,o.sub⟩
  ·rw [e1]
   have e2:H6 i (l.drop i)=H6 (i+1) (l.drop (i+1)):=by rw [hd,H6,if_neg (by simp [hu])]
   rw [e2]
   refine Yr (ih (i+1) acc a c (by omega) (by omega) (by omega)) ?_
   rintro _ h ⟨a2,c2,rfl,o⟩
   exact ⟨a2,c2,rfl,o.sub⟩
theorem Dj1 (t:Nat) (l:List PlaceS) (k:U4 l):Ct D5 D1 [P0 t] [I6 t l] fun v own =>
  ∃ a c,v=.slice a (E8 l).length c∧own [slC false D0 1 a (E8 l).length c ((E8 l).map int),I6 t l]:=by
 refine Ct.of V6 rfl fun h r=>Tr.eq (A05 ..) ?_;refine Je ?_
 refine B9 (I6 t l) fun q=>?_;refine Je ?_
 (refine Ja ?_;unhygienic intros)
 refine Q6 false D0 1 (by omega) ?_
 refine Yr (show CtJ Q1 _ _ [(0,P0 t),(3,.slice none 0 0),(9,.slice (some ⟨q,0,none⟩) l.length l.length),(10,int l.length),(11,int 0)] (slC false D0 1 none 0 0 []::Aq9 t l q) _ from Dm9 t q l k _ 0 [] none 0 rfl (by omega) (by simp)) ?_
 rintro _ h ⟨a,c,rfl,o⟩
 exact ⟨a,c,rfl,(show Own h (I6 t l::slC false D0 1 a (E8 l).length c ((E8 l).map int)::r) from Own.fold (I6 t l) q o).sub⟩
def Ad9:Nat→List PlaceS→Option Nat
 | _,[]=>none
 | i,p::l=>if p.used=false∧p.gen≤1000000 then some i else Ad9 (i+1) l
theorem Bk1:∀ {i:Nat} {l:List PlaceS} {j:Nat},Ad9 i l=some j→i≤j∧∃ p,l[j-i]?=some p∧p.used=false∧p.gen≤1000000
 | i,[],j,h=>by simp [Ad9] at h
 | i,p::l,j,h=>by
  unfold Ad9 at h
  split at h
  ·rename_i hc;cases h;exact ⟨Nat.le_refl _,p,by simp,hc⟩
  ·obtain ⟨h1,q,h2,h3⟩:=Bk1 h
   refine ⟨by omega,q,?_,h3⟩
   rw [show j-i=(j-(i+1))+1 by omega];simpa using h2
def Al0 (l:List PlaceS) (c:CapS):Option (Int × List PlaceS) :=
 match Ad9 0 l with
 | some i=>match l[i]? with
  | some p=>some (Ac6 i p,l.set i ⟨c,p.gen,true⟩)
  | none=>none
 | none=>none
theorem B99 {l l':List PlaceS} {c:CapS} {n:Int} (k:U4 l) (h:Al0 l c=some (n,l')):U4 l'∧l'.length=l.length:=by
 unfold Al0 at h
 split at h
 ·rename_i i hi
  obtain ⟨_,p,hp,hu,hg⟩:=Bk1 hi
  rw [Nat.sub_zero] at hp
  rw [hp] at h
  cases h
  refine ⟨⟨by simpa using k.1,fun x hx=>?_⟩,by simp⟩
  rcases List.mem_or_eq_of_mem_set hx with h1|rfl
  ·exact k.2 x h1
  ·have:=k.at hp;simp;omega
 ·cases h
def Dq5 (x:Option (Int × List PlaceS)):Value:=match x with
 | some (n,_)=>.tuple ⟨[int n,.bool true]⟩
 | none=>.tuple ⟨[int 0,.bool false]⟩
def Af6 (l:List PlaceS) (c:CapS):List PlaceS:=match Al0 l c with
 | some (_,l')=>l'
 | none=>l
theorem Dv3 (t q b0:Nat) (e0:TypeId) (l:List PlaceS) (c:CapS) (k:U4 l):∀ (m i:Nat),l.length-i=m→i≤l.length→Ad9 0 l=Ad9 i (l.drop i) →
  CtJ Q1 G1 N0 [(0,P0 t),(3,P0 b0),(11,.slice (some ⟨q,0,none⟩) l.length l.length),(12,int l.length),(13,int i)]
   (pt b0 (.cells e0 false (A52 c))::Aq9 t l q) fun v own=>v=Dq5 (Al0 l c)∧own (Aq9 t (Af6 l c) q):=by
 intro m
 induction m with
 | zero =>
  intro i hm hi hf
  refine CtJ.of X2 fun h r=>Tr.eq (Af5 ..) ?_;refine Je ?_
  refine Yf (by simp;omega) ?_
  refine Ys fun o=>?_
  have e:Al0 l c=none:=by unfold Al0;rw [hf,List.drop_eq_nil_of_le (by omega)];rfl
  unfold Af6
  rw [e];exact ⟨rfl,o.sub⟩
 | succ m ih =>
  intro i hm hi hf
  have hlt:i<l.length:=by omega
  have hp:l[i]?=some l[i]:=List.getElem?_eq_getElem hlt
  have hd:l.drop i=l[i]::l.drop (i+1):=List.drop_eq_getElem_cons hlt
  generalize l[i]=p at hp hd
  have hk:=k.1
  have e1:=wN i
  refine CtJ.of X2 fun h r=>Tr.eq (Af5 ..) ?_;refine Je ?_
  refine Yt (by simp;omega) ?_
  (refine Ja ?_;unhygienic intros)
  refine Je ?_
  refine Tr.xAgg (xs:=W9 p) ⟨by rw [R3 I4];omega,by rw [Int.toNat_natCast];exact Ax3 I4 hp⟩ ?_
  (refine Ja ?_;unhygienic intros)
  refine Tr.cond (fun hu=>?_) fun hu=>?_
  ·have hc:p.used=false∧p.gen≤1000000:=by simpa using hu
   have e2:Ad9 0 l=some i:=by rw [hf,hd,Ad9,if_pos hc]
   have e:Al0 l c=some (Ac6 i p,l.set i ⟨c,p.gen,true⟩):=by unfold Al0;rw [e2];simp [hp]
   (refine Ja ?_;unhygienic intros)
   refine Je ?_
   have hy1:W9 ⟨c,p.gen,p.used⟩=(W9 p).take 0++A52 c++(W9 p).drop (0+(A52 c).length):=rfl
   refine Tr.xPAgg (cs':=(l.set i ⟨c,p.gen,p.used⟩).flatMap W9) ⟨by rw [R3 I4,Int.toNat_natCast];simp;omega,rfl,?_⟩ fun h=>?_
   ·rw [Int.toNat_natCast];exact A51 (j:=0) (m:=0) I4 hp (by simp) hy1
   (refine Ja ?_;unhygienic intros)
   refine Je ?_
   have hp2:(l.set i ⟨c,p.gen,p.used⟩)[i]?=some ⟨c,p.gen,p.used⟩:=by simp [hlt]
   refine Tr.xV (cs':=((l.set i ⟨c,p.gen,p.used⟩).set i ⟨c,p.gen,true⟩).flatMap W9) ⟨by rw [R3 I4,Int.toNat_natCast];simp;omega,rfl,?_⟩ fun h=>?_
   ·rw [Int.toNat_natCast];exact B70 (j:=7) I4 hp2 (by omega) rfl
   rw [List.set_set]
   have hk2:=(B99 k e).1
   have hp3:(l.set i ⟨c,p.gen,true⟩)[i]?=some ⟨c,p.gen,true⟩:=by simp [hlt]
   have el:l.length=(l.set i ⟨c,p.gen,true⟩).length:=by simp
   rw [el]
   refine Tr.pcall (B51 t q _ i _ hk2 hp3) ?_;refine Je ?_;(refine Ja ?_;unhygienic intros)
   refine Ys fun o=>?_
   unfold Af6
   rw [e];exact ⟨rfl,o.sub⟩
  ·have hc:¬ (p.used=false∧p.gen≤1000000):=by simpa using hu
   rw [e1]
   refine Yr (ih (i+1) (by omega) (by omega) (by rw [hf,hd,Ad9,if_neg hc])) ?_
   rintro _ h ⟨rfl,o⟩
   exact ⟨rfl,o.sub⟩
theorem Ea7 (t:Nat) (l:List PlaceS) (c:CapS) (k:U4 l):Ct D5 G1 [P0 t,.agg ⟨A52 c⟩] [I6 t l] fun v own=>v=Dq5 (Al0 l c)∧own [I6 t (Af6 l c)]:=by
 refine Ct.of X2 rfl fun h r=>Tr.eq (A25 ..) ?_;refine Je ?_
 refine B9 (I6 t l) fun q=>?_;refine Je ?_
 (refine Ja ?_;unhygienic intros)
 refine Yr (Dv3 t q b R7 l c k _ 0 rfl (by omega) (by simp)) ?_
 rintro _ h ⟨rfl,o⟩
 exact ⟨rfl,(Own.fold (I6 t (Af6 l c)) q o).sub⟩
def Af8:PlaceS:=⟨.zero,0,false⟩
def Ap3:PlaceS:=⟨.zero,1,false⟩
theorem Do5 (n:Nat) (p:PlaceS):L0 n (W9 p)=(List.replicate n p).flatMap W9:=by
 show (List.replicate n (W9 p)).flatten=_
 rw [List.flatMap_def,List.map_replicate]
def Z9 (n:Nat):List PlaceS:=List.replicate n Ap3
theorem Df2 (t q n:Nat) (hn:n≤256):∀ (m i:Nat),n-i=m→i≤n →
  CtJ Q1 J0 U5 [(3,P0 t),(15,int n),(16,int i)] (Aq9 t (List.replicate i Ap3++List.replicate (n-i) Af8) q) fun v own=>v=P0 t∧own (Aq9 t (Z9 n) q):=by
 intro m
 induction m with
 | zero =>
  intro i hm hi
  obtain rfl:i=n:=by omega
  refine CtJ.of Aj4 fun h r=>Tr.eq (Ap6 ..) ?_;refine Je ?_
  refine Yf (by simp) ?_
  refine Ys fun o=>?_
  simp only [Nat.sub_self,List.replicate_zero,List.append_nil] at o
  exact ⟨rfl,o⟩
 | succ m ih =>
  intro i hm hi
  have e1:=wN i
  have e2:List.replicate (n-i) Af8=Af8::List.replicate (n-(i+1)) Af8:=by
   rw [show n-i=(n-(i+1))+1 by omega,List.replicate_succ]
  have hp:(List.replicate i Ap3++List.replicate (n-i) Af8)[i]?=some Af8:=by rw [e2];simp
  have e3:(List.replicate i Ap3++List.replicate (n-i) Af8).set i Ap3=List.replicate (i+1) Ap3++List.replicate (n-(i+1)) Af8:=by
   rw [e2,List.set_append_right _ _ (by simp),List.replicate_succ' (n:=i)];simp
  have el:(List.replicate i Ap3++List.replicate (n-i) Af8).length=n:=by simp;omega
  have el2:(List.replicate (i+1) Ap3++List.replicate (n-(i+1)) Af8).length=n:=by simp;omega
  have ih1:=ih (i+1) (by omega) (by omega)
  simp only [Aq9,el2] at ih1
  simp only [Aq9,el]
  refine CtJ.of Aj4 fun h r=>Tr.eq (Ap6 ..) ?_;refine Je ?_
  refine Yt (by simp;omega) ?_
  (refine Ja ?_;unhygienic intros)
  refine Je ?_
  refine Tr.xV (cs':=(List.replicate (i+1) Ap3++List.replicate (n-(i+1)) Af8).flatMap W9) ⟨by rw [R3 I4,Int.toNat_natCast,el];omega,rfl,?_⟩ fun h=>?_
  ·rw [Int.toNat_natCast,← e3];exact B70 (j:=6) I4 hp (by omega) rfl
  rw [e1]
  refine Yr ih1 ?_
  rintro _ h ⟨rfl,o⟩
  exact ⟨rfl,o.sub⟩
theorem D04 (n:Nat) (hn:n≤256):Ct D5 J0 [int n] [] fun v own=>∃ t,v=P0 t∧own [I6 t (Z9 n)]:=by
 have e:mm2 false (mm2 true (n:Int) 0) 256=n:=by rw [W4,S5];omega
 refine Ct.of Aj4 rfl fun h r=>Tr.eq (Bk3 ..) ?_;refine Je ?_
 rw [e]
 refine Tr.ck (by simp only [E6];omega) ?_
 rw [Int.toNat_natCast]
 refine Yn fun b1 h1=>?_
 refine Yn fun b2 h2=>?_
 (refine Ja ?_;unhygienic intros)
 have ep:L0 n [Value.int IntKind.i64 0,Value.int IntKind.i64 0,Value.int IntKind.i64 0,Value.int IntKind.i64 0,Value.int IntKind.i64 0,Value.int IntKind.i64 0,Value.int IntKind.i64 0,Value.bool false]=(List.replicate n Af8).flatMap W9:=Do5 n Af8
 rw [ep]
 have j:=Df2 b2 b1 n hn n 0 (by omega) (by omega)
 simp only [Aq9,List.replicate_zero,List.nil_append,Nat.sub_zero,List.length_replicate] at j
 refine Yr j ?_
 rintro _ h ⟨rfl,o⟩
 have o2:Own h (Aq9 b2 (Z9 n) b1++r):=by simpa [Z9] using o
 exact ⟨_,rfl,(Own.fold (I6 b2 (Z9 n)) b1 o2).sub⟩
theorem Dx5 (n:Nat) (hn:n≤256):U4 (Z9 n)∧(Z9 n).length=n:=by
 refine ⟨⟨by simpa [Z9] using hn,fun p hp=>?_⟩,by simp [Z9]⟩
 rw [Z9,List.mem_replicate] at hp
 rw [hp.2];simp [Ap3]
abbrev D05 (s:Nat) (tabs:List (List PlaceS)) (x:Option Addr × Nat × List Nat):List HP :=
 [pt s (.cells U8 false [.slice x.1 tabs.length x.2.1]),slC false D8 1 x.1 tabs.length x.2.1 (x.2.2.map P0),E7 I6 x.2.2 tabs,pu (x.2.2.length=tabs.length)]
def G0 (s:Nat) (tabs:List (List PlaceS)):HP:=hex fun x=>sl (D05 s tabs x)
instance {s:Nat} {tabs:List (List PlaceS)}:Chk (G0 s tabs) (D05 s tabs):=⟨rfl⟩
def G5 (tabs:List (List PlaceS)):Prop:=tabs.length≤40∧∀ t ∈ tabs,U4 t
theorem G5.at {tabs:List (List PlaceS)} (k:G5 tabs) {i:Nat} {t:List PlaceS} (h:tabs[i]?=some t):U4 t:=k.2 t (List.mem_of_getElem? h)
theorem G5.set {tabs:List (List PlaceS)} (k:G5 tabs) {i:Nat} {t:List PlaceS} (h:U4 t):G5 (tabs.set i t) :=
 ⟨by simpa using k.1,fun x hx=>by
  rcases List.mem_or_eq_of_mem_set hx with h1|rfl
  ·exact k.2 x h1
  ·exact h⟩
theorem Dq7 (s:Nat) (tabs:List (List PlaceS)) (env:Int):CtP D5 V7 [P0 s,int env] [G0 s tabs] (.bool (decide (0≤env∧env<tabs.length))):=by
 refine CtP.of B02 rfl fun h r=>Tr.eq (B40 ..) ?_;refine Je ?_
 refine B9 (G0 s tabs) fun ⟨a,c,ts⟩=>?_;refine Je ?_
 (refine Ja ?_;unhygienic intros)
 refine Ys fun o=>?_
 refine ⟨?_,rfl⟩
 refine congrArg Value.bool ?_;rw [Bool.eq_iff_iff];simp only [Bool.and_eq_true,Bool.or_eq_true,Bool.not_eq_true',Bool.not_eq_false',decide_eq_true_eq,decide_eq_false_iff_not,bne_iff_ne,beq_iff_eq,ne_eq,G9,W4,S5,ge_iff_le,gt_iff_lt];first|done|omega
theorem Au4 {ts:List Nat} {i:Nat} {α:Type} {xs:List α} {x:α} (hl:ts.length=xs.length) (hx:xs[i]?=some x):∃ t,ts[i]?=some t:=by
 have:=(List.getElem?_eq_some_iff.1 hx).1
 exact ⟨ts[i],List.getElem?_eq_getElem (by omega)⟩
def M7 (tabs:List (List PlaceS)) (env name:Int):Option CapS:=match idx tabs env with
 | some t=>Am0 t name
 | none=>none
def B05 (c:Option CapS):Value:=.tuple ⟨[.agg ⟨A52 (c.getD .zero)⟩,int (if c.isSome then 0 else 2)]⟩
theorem Bx1 (s:Nat) (tabs:List (List PlaceS)) (env name:Int) (k:G5 tabs):Ct D5 U2 [P0 s,int env,int name] [G0 s tabs] fun v own=>v=B05 (M7 tabs env name)∧own [G0 s tabs]:=by
 refine Ct.of By7 rfl fun h r=>Tr.eq (By2 ..) ?_;refine Je ?_
 (refine Ja ?_;unhygienic intros)
 refine Tr.pcall (Dq7 s tabs env) ?_;refine Je ?_;(refine Ja ?_;unhygienic intros)
 cases hx:idx tabs env with
 | none =>
  have hn:=A53 hx
  refine Yt (by simp only [hn,decide_false,Bool.not_false]) ?_
  (refine Ja ?_;unhygienic intros)
  refine Ys fun o=>?_
  simp only [M7,hx]
  exact ⟨by first|rfl|trivial,o.sub⟩
 | some t =>
  obtain ⟨h1,h2,h3⟩:=N4 hx
  refine Yf (by simp only [h1,h2,and_self,decide_true,Bool.not_true]) ?_
  refine B9 (G0 s tabs) fun ⟨a,c,ts⟩=>?_;refine Je ?_
  refine Y3 3 rfl fun hts=>?_
  obtain ⟨p,hp⟩:=Au4 hts h3
  (refine Ja ?_;unhygienic intros;repeat(refine Gw ?_;rintro px rfl;refine Ja ?_;unhygienic intros))
  refine Tr.xPtrS (v:=some ⟨p,0,none⟩) (by simp [hp]) ?_
  refine S2 I6 ts tabs hp h3 ?_
  refine Yc (Dz0 p t name (k.at h3)) ?_;rintro _ h ⟨rfl,o⟩<;>(refine Jf o ?_;unhygienic intros)
  refine Ad5 I6 ts tabs env.toNat hp h3 ?_
  refine D3 (G0 s tabs) (some px,c,ts) ?_;refine Je ?_
  simp only [D62]
  (refine Ja ?_;unhygienic intros)
  cases hg:Am0 t name with
  | none =>
   simp only [Option.isSome_none,Bool.not_false]
   (refine Ja ?_;unhygienic intros)
   refine Ys fun o=>?_
   simp only [M7,hx,hg]
   exact ⟨by first|rfl|trivial,o.sub⟩
  | some c =>
   simp only [Option.isSome_some,Bool.not_true,Option.getD_some]
   (refine Ja ?_;unhygienic intros)
   refine Ys fun o=>?_
   simp only [M7,hx,hg]
   exact ⟨by first|rfl|trivial,o.sub⟩
def A29 (tabs:List (List PlaceS)) (env:Int) (c:CapS):List (List PlaceS):=match idx tabs env with
 | some t=>tabs.set env.toNat (Af6 t c)
 | none=>tabs
def Bn9 (tabs:List (List PlaceS)) (env:Int) (c:CapS):Int × Int:=match idx tabs env with
 | some t=>match Al0 t c with
  | some (n,_)=>(n,0)
  | none=>(0,4)
 | none=>(0,4)
def v2 (x:Int × Int):Value:=.tuple ⟨[int x.1,int x.2]⟩
theorem Df7 {tabs:List (List PlaceS)} (k:G5 tabs) (env:Int) (c:CapS):G5 (A29 tabs env c):=by
 unfold A29
 split
 ·rename_i t hx
  obtain ⟨h1,h2,h3⟩:=N4 hx
  refine k.set ?_
  unfold Af6
  split
  ·rename_i n l' e;exact (B99 (k.at h3) e).1
  ·exact k.at h3
 ·exact k
theorem B83 (tabs:List (List PlaceS)) (env:Int) (c:CapS):(A29 tabs env c).length=tabs.length:=by
 unfold A29;split<;>simp
theorem Di8 (s:Nat) (tabs:List (List PlaceS)) (env:Int) (c:CapS) (k:G5 tabs) (h1:0≤env) (h2:env<tabs.length):Ct D5 Z4 [P0 s,int env,.agg ⟨A52 c⟩] [G0 s tabs] fun v own=>v=v2 (Bn9 tabs env c)∧own [G0 s (A29 tabs env c)]:=by
 obtain ⟨t,hx⟩:∃ t,idx tabs env=some t:=by
  cases hx:idx tabs env with
  | none=>exact absurd ⟨h1,h2⟩ (A53 hx)
  | some t=>exact ⟨t,rfl⟩
 obtain ⟨_,_,h3⟩:=N4 hx
 refine Ct.of Bw8 rfl fun h r=>Tr.eq (By8 ..) ?_;refine Je ?_
 refine B9 (G0 s tabs) fun ⟨a,c0,ts⟩=>?_;refine Je ?_
 refine Y3 3 rfl fun hts=>?_
 obtain ⟨p,hp⟩:=Au4 hts h3
 (refine Ja ?_;unhygienic intros;repeat(refine Gw ?_;rintro px rfl;refine Ja ?_;unhygienic intros))
 refine Tr.xPtrS (v:=some ⟨p,0,none⟩) (by simp [hp]) ?_
 refine Tr.xAgg (xs:=A52 c) ⟨Nat.le_refl _,rfl⟩ ?_
 refine S2 I6 ts tabs hp h3 ?_
 refine Yc (Ea7 p t c (k.at h3)) ?_;rintro _ h ⟨rfl,o⟩<;>(refine Jf o ?_;unhygienic intros)
 refine A46 I6 ts tabs env.toNat (Af6 t c) hp h3 ?_
 have el:tabs.length=(tabs.set env.toNat (Af6 t c)).length:=by simp
 rw [el]
 refine D3 (G0 s (tabs.set env.toNat (Af6 t c))) (some px,c0,ts) ?_;refine Je ?_
 have e1:A29 tabs env c=tabs.set env.toNat (Af6 t c):=by simp only [A29,hx]
 rw [e1]
 cases ha:Al0 t c with
 | none =>
  simp only [Dq5]
  (refine Ja ?_;unhygienic intros)
  refine Ys fun o=>?_
  simp only [Bn9,hx,ha]
  exact ⟨by first|rfl|trivial,o.sub⟩
 | some y =>
  obtain ⟨n,l'⟩:=y
  simp only [Dq5]
  (refine Ja ?_;unhygienic intros)
  refine Ys fun o=>?_
  simp only [Bn9,hx,ha]
  exact ⟨by first|rfl|trivial,o.sub⟩
theorem Dp2 (n:Int):CtP D5 V4 [int n] [] (.bool (decide (0≤n∧n≤65536))):=by
 refine CtP.of Bn4 rfl fun h r=>Tr.eq (Bo3 ..) ?_;refine Je ?_
 (refine Ja ?_;unhygienic intros)
 refine Ys fun o=>?_
 refine ⟨?_,rfl⟩
 refine congrArg Value.bool ?_;rw [Bool.eq_iff_iff];simp only [Bool.and_eq_true,Bool.or_eq_true,Bool.not_eq_true',Bool.not_eq_false',decide_eq_true_eq,decide_eq_false_iff_not,bne_iff_ne,beq_iff_eq,ne_eq,G9,W4,S5,ge_iff_le,gt_iff_lt];first|done|omega
def Bs3 (tabs:List (List PlaceS)) (env:Int) (c:CapS):Bool:=decide (0≤env∧env<tabs.length) && (B50 .i64 c.rights 7==0) && decide (0≤c.lo∧c.lo≤65536) && decide (0≤c.n∧c.n≤65536)
def Dh9 (c:CapS):CapS:={ c with rEnv:=0,rName:=0 }
def Aq1 (tabs:List (List PlaceS)) (env:Int) (c:CapS):List (List PlaceS):=if Bs3 tabs env c then A29 tabs env (Dh9 c) else tabs
def Dg6 (tabs:List (List PlaceS)) (env:Int) (c:CapS):Int × Int:=if Bs3 tabs env c then Bn9 tabs env (Dh9 c) else (0,1)
theorem D19 (s:Nat) (tabs:List (List PlaceS)) (env:Int) (c:CapS) (k:G5 tabs):Ct D5 Ah3 [P0 s,int env,.agg ⟨A52 c⟩] [G0 s tabs] fun v own=>v=v2 (Dg6 tabs env c)∧own [G0 s (Aq1 tabs env c)]:=by
 refine Ct.of Bx6 rfl fun h r=>Tr.eq (Bw6 ..) ?_;refine Je ?_
 (refine Ja ?_;unhygienic intros)
 refine Tr.pcall (Dq7 s tabs env) ?_;refine Je ?_;(repeat' first|refine Gu ?_|(with_reducible first|refine Gn fun b h=>?_|apply Gx|apply Gy|rintro px rfl|apply Gw|refine fun(h:H)=>?_|intro hb)|refine Gs ?_|refine Gt ?_|exact Gz rfl|fail)
 ·refine Tr.pcall (Dp2 c.lo) ?_;refine Je ?_;exact Jz
 ·refine Tr.pcall (Dp2 c.n) ?_;refine Je ?_;exact Jz
 have e:(!decide (0≤env∧env<↑tabs.length) || B50 IntKind.i64 c.rights 7 != 0 || !decide (0≤c.lo∧c.lo≤65536) || !decide (0≤c.n∧c.n≤65536))=!Bs3 tabs env c:=by
  unfold Bs3;simp only [bne,Bool.not_and]
 rw [e]
 cases hp:Bs3 tabs env c with
 | false =>
  simp only [Bool.not_false]
  (refine Ja ?_;unhygienic intros)
  refine Ys fun o=>?_
  simp only [Aq1,Dg6,hp,if_true,Bool.false_eq_true,if_false]
  exact ⟨by first|rfl|trivial,o.sub⟩
 | true =>
  have hp2:=hp
  simp only [Bs3,Bool.and_eq_true,decide_eq_true_eq] at hp2
  simp only [Bool.not_true]
  (refine Ja ?_;unhygienic intros)
  refine Yc (Di8 s tabs env (Dh9 c) k hp2.1.1.1.1 hp2.1.1.1.2) ?_;rintro _ h ⟨rfl,o⟩<;>(refine Jf o ?_;unhygienic intros)
  simp only [v2]
  (refine Ja ?_;unhygienic intros)
  refine Ys fun o=>?_
  simp only [Aq1,Dg6,hp,if_true,Bool.false_eq_true,if_false]
  exact ⟨by first|rfl|trivial,o.sub⟩
theorem Dd1 {tabs:List (List PlaceS)} (k:G5 tabs) (env:Int) (c:CapS):G5 (Aq1 tabs env c):=by
 unfold Aq1;split
 ·exact Df7 k _ _
 ·exact k
theorem B81 (tabs:List (List PlaceS)) (env:Int) (c:CapS):(Aq1 tabs env c).length=tabs.length:=by
 unfold Aq1;split
 ·exact B83 _ _ _
 ·rfl
def Dj7 (c:CapS) (env name give lo n:Int):CapS:=⟨c.obj,give,IntKind.wrap .i64 (c.lo+lo),n,env,name⟩
def Ak9 (tabs:List (List PlaceS)) (env name to give lo n:Int):Int × CapS :=
 match M7 tabs env name with
 | none=>(2,.zero)
 | some c =>
  if (U7 .i64 c.rights 4==0) || (B50 .i64 give c.rights != 0) then (3,.zero)
  else if !decide (0≤to∧to<tabs.length) || decide (lo<0) || decide (n<0) || decide (lo>c.n) || decide (n>IntKind.wrap .i64 (c.n-lo)) then (1,.zero)
  else (0,Dj7 c env name give lo n)
def Ab2 (tabs:List (List PlaceS)) (env name to give lo n:Int):List (List PlaceS) :=
 if (Ak9 tabs env name to give lo n).1=0 then A29 tabs to (Ak9 tabs env name to give lo n).2 else tabs
def Ag3 (tabs:List (List PlaceS)) (env name to give lo n:Int):Int × Int :=
 if (Ak9 tabs env name to give lo n).1=0 then Bn9 tabs to (Ak9 tabs env name to give lo n).2 else (0,(Ak9 tabs env name to give lo n).1)
theorem D39 (s:Nat) (tabs:List (List PlaceS)) (env name to give lo n:Int) (k:G5 tabs):Ct D5 Ac8 [P0 s,int env,int name,int to,int give,int lo,int n] [G0 s tabs] fun v own =>
  v=v2 (Ag3 tabs env name to give lo n)∧own [G0 s (Ab2 tabs env name to give lo n)]:=by
 refine Ct.of Bl3 rfl fun h r=>Tr.eq (Bm6 ..) ?_;refine Je ?_
 refine Yc (Bx1 s tabs env name k) ?_;rintro _ h ⟨rfl,o⟩<;>(refine Jf o ?_;unhygienic intros)
 simp only [B05]
 (refine Ja ?_;unhygienic intros)
 cases hg:M7 tabs env name with
 | none =>
  simp only [Option.isSome_none]
  refine Yt (by rfl) ?_
  refine Ys fun o=>?_
  simp only [Ab2,Ag3,Ak9,hg,show ¬ (2:Int)=0 by omega,if_false]
  exact ⟨by first|rfl|trivial,o.sub⟩
 | some c =>
  simp only [Option.isSome_some,Option.getD_some]
  refine Yf (by rfl) ?_
  (refine Ja ?_;unhygienic intros)
  refine Tr.cond (fun h1=>?_) fun h1=>?_
  ·refine Ys fun o=>?_
   simp only [Ab2,Ag3,Ak9,hg,h1,if_true,show ¬ (3:Int)=0 by omega,if_false]
   exact ⟨by first|rfl|trivial,o.sub⟩
  ·(refine Ja ?_;unhygienic intros)
   refine Tr.pcall (Dq7 s tabs to) ?_;refine Je ?_;(refine Ja ?_;unhygienic intros)
   refine Tr.cond (fun h2=>?_) fun h2=>?_
   ·refine Ys fun o=>?_
    simp only [Ab2,Ag3,Ak9,hg,h1,h2,if_true,show ¬ (1:Int)=0 by omega,if_false,Bool.false_eq_true]
    exact ⟨by first|rfl|trivial,o.sub⟩
   ·(refine Ja ?_;unhygienic intros)
    have h3:=h2
    simp only [Bool.or_eq_false_iff,Bool.not_eq_false',decide_eq_true_eq] at h3
    refine Yc (Di8 s tabs to (Dj7 c env name give lo n) k h3.1.1.1.1.1 h3.1.1.1.1.2) ?_;rintro _ h ⟨rfl,o⟩<;>(refine Jf o ?_;unhygienic intros)
    simp only [v2]
    (refine Ja ?_;unhygienic intros)
    refine Ys fun o=>?_
    simp only [Ab2,Ag3,Ak9,hg,h1,h2,if_true,if_false,Bool.false_eq_true]
    exact ⟨by first|rfl|trivial,o.sub⟩
theorem Du6 {tabs:List (List PlaceS)} (k:G5 tabs) (env name to give lo n:Int):G5 (Ab2 tabs env name to give lo n):=by
 unfold Ab2;split
 ·exact Df7 k _ _
 ·exact k
def H0 (n:Nat):List (List PlaceS):=List.replicate n (Z9 32)
theorem Dn5 (n:Nat) (hn:n≤40):G5 (H0 n):=by
 refine ⟨by simpa [H0] using hn,fun t ht=>?_⟩
 rw [H0,List.mem_replicate] at ht
 rw [ht.2];exact (Dx5 32 (by omega)).1
theorem Dn1 (s n:Nat) (hn:n≤40):∀ (m i:Nat) (a:Option Addr) (c:Nat) (ts:List Nat),n-i=m→i≤n→ts.length=i →
  CtJ Q1 Ac9 Aq0 [(3,P0 s),(8,int n),(9,int i)]
   [pt s (.cells U8 false [.slice a i c]),slC false D8 1 a i c (ts.map P0),E7 I6 ts (H0 i)] fun v own=>v=P0 s∧own [G0 s (H0 n)]:=by
 intro m
 induction m with
 | zero =>
  intro i a c ts hm hi hts
  obtain rfl:i=n:=by omega
  refine CtJ.of Bg3 fun h r=>Tr.eq (Bk0 ..) ?_;refine Je ?_
  refine Yf (by simp) ?_
  refine Ys fun o=>?_
  have el:(H0 i).length=i:=by simp [H0]
  have o2:=Own.inpure (show ts.length=(H0 i).length by omega) o
  have o3:Own h (pu (ts.length=(H0 i).length)::pt s (.cells U8 false [.slice a (H0 i).length c])::slC false D8 1 a (H0 i).length c (ts.map P0)::E7 I6 ts (H0 i)::r):=by
   rw [el];rw [el] at o2;exact o2
  exact ⟨rfl,(Own.fold (G0 s (H0 i)) (a,c,ts) o3).sub⟩
 | succ m ih =>
  intro i a c ts hm hi hts
  have e1:=wN i
  refine CtJ.of Bg3 fun h r=>Tr.eq (Bk0 ..) ?_;refine Je ?_
  refine Yt (by simp;omega) ?_
  (refine Ja ?_;unhygienic intros;rename H=>h)
  refine Yc (D04 32 (by omega)) ?_;rintro _ h ⟨t,rfl,o⟩<;>(refine Jf o ?_;unhygienic intros;rename H=>h)
  refine Tr.xApd ?_ (fun a' c' h=>?_);exact ⟨by first|rfl|simp,by first|rfl|simp,by simp only [E6];omega⟩;refine Je ?_
  (refine Ja ?_;unhygienic intros;rename H=>h)
  refine Je ?_
  rw [e1]
  intro o
  have el:(H0 i).length=i:=by simp [H0]
  have o2:Own h (E7 I6 ts (H0 i)::I6 t (Z9 32)::pt s (.cells U8 false [.slice a' (i+1) c'])::slC false D8 1 a' (i+1) c' ((ts++[t]).map P0)::r):=by
   simp only [List.map_append,List.map_cons,List.map_nil];exact (show Own h (pt b (.cells D8 false [P0 t])::I6 t (Z9 32)::pt s (.cells U8 false [.slice a' (i+1) c'])::slC false D8 1 a' (i+1) c' (ts.map P0++[P0 t])::E7 I6 ts (H0 i)::r) from o).sub
  have o3:=Own.all2_app (ts':=[t]) (xs':=[Z9 32]) (by omega) ((Own.all2_one (F:=I6) (o2.perm (.swap _ _ _))).perm (.swap _ _ _))
  have e2:H0 i++[Z9 32]=H0 (i+1):=by simp [H0,List.replicate_succ']
  rw [e2] at o3
  refine (?_:Tr _ _ _ _) o3
  refine Yr (ih (i+1) a' c' (ts++[t]) (by omega) (by omega) (by simp [hts])) ?_
  rintro _ h ⟨rfl,o⟩
  exact ⟨by first|rfl|trivial,o.sub⟩
theorem D29 (n:Nat) (hn:n≤40):Ct D5 Ac9 [int n] [] fun v own=>∃ s,v=P0 s∧own [G0 s (H0 n)]:=by
 have e:mm2 false (mm2 true (n:Int) 0) 40=n:=by rw [W4,S5];omega
 refine Ct.of Bg3 rfl fun h r=>Tr.eq (Dq8 ..) ?_;refine Je ?_
 rw [e]
 (refine Ja ?_;unhygienic intros;rename H=>h)
 intro o
 have o2:Own h (slC false D8 1 none 0 0 (([]:List Nat).map P0)::E7 I6 [] (H0 0)::pt b (.cells U8 false [.slice none 0 0])::r):=Own.slNil _ _ (by omega) (Own.all2_nil o)
 refine (?_:Tr _ _ _ _) o2
 refine Yr (Dn1 b n hn n 0 none 0 [] (by omega) (by omega) rfl) ?_
 rintro _ h ⟨rfl,o⟩
 exact ⟨b,rfl,o.sub⟩
def P5 (v:Int):Nat→List Int→Int
 | _,[]=>-1
 | i,x::l=>if v=x then i else P5 v (i+1) l
theorem Bc3 (v:Int):∀ (l:List Int) (i:Nat),(P5 v i l=-1∧v ∉ l)∨(∃ j:Nat,P5 v i l=((i+j:Nat):Int)∧l[j]?=some v)
 | [],i=>.inl (by simp [P5])
 | x::l,i=>by
  unfold P5
  by_cases h:v=x
  ·subst h;right;exact ⟨0,by simp,by simp⟩
  ·rw [if_neg h]
   rcases Bc3 v l (i+1) with ⟨h1,h2⟩|⟨j,h1,h2⟩
   ·left;exact ⟨h1,by simp only [List.mem_cons,h,h2,or_self,not_false_eq_true]⟩
   ·right;exact ⟨j+1,by rw [h1];omega,by simpa using h2⟩
theorem Dr3 (v:Int) (l:List Int):decide (P5 v 0 l≥0)=decide (v ∈ l):=by
 rcases Bc3 v l 0 with ⟨h1,h2⟩|⟨j,h1,h2⟩
 ·rw [h1];simp [h2]
 ·rw [h1];have:=List.mem_of_getElem? h2;simp only [this,decide_true,decide_eq_true_eq];omega
theorem Dl3 (p:HP) (a:Option Addr) (ro:Bool) (c:Nat) (l:List Int) (v:Int) [ks:IsSl p a ro D0 1 l.length c (l.map int)] (hl:l.length≤E6):∀ (m i:Nat),l.length-i=m→i≤l.length →
  Ar7 Q1 E5 N5 [(0,.slice a l.length c),(1,int v),(7,int l.length),(8,int i)] [p] (int (P5 v i (l.drop i))):=by
 intro m
 induction m with
 | zero =>
  intro i hm hi
  refine Ar7.of Y8 fun h r=>Tr.eq (Ag1 ..) ?_;refine Je ?_
  refine Yf (by simp;omega) ?_
  refine Ys fun o=>?_
  rw [List.drop_eq_nil_of_le (by omega)];exact ⟨rfl,rfl⟩
 | succ m ih =>
  intro i hm hi
  have hlt:i<l.length:=by omega
  have hp:l[i]?=some l[i]:=List.getElem?_eq_getElem hlt
  have hd:l.drop i=l[i]::l.drop (i+1):=List.drop_eq_getElem_cons hlt
  generalize l[i]=x at hp hd
  have e1:IntKind.wrap .i64 ((i:Int)+1)=((i+1:Nat):Int):=by rw [G9];simp only [E6] at hl;omega
  refine Ar7.of Y8 fun h r=>Tr.eq (Ag1 ..) ?_;refine Je ?_
  refine Yt (by simp;omega) ?_
  (refine Ja ?_;intros;repeat(refine Gw ?_;rintro px rfl;refine Ja ?_;intros))
  refine Tr.xIntS (v:=x) (by simp [hp]) ?_
  refine Tr.cond (fun h1=>?_) fun h1=>?_
  ·refine Ys fun o=>?_
   have h2:v=x:=by simpa using h1
   rw [hd,P5,if_pos h2];exact ⟨rfl,rfl⟩
  ·have h2:¬ v=x:=by simpa using h1
   rw [e1]
   refine Tr.prun (ih (i+1) (by omega) (by omega)) fun o=>?_
   rw [hd,P5,if_neg h2];exact ⟨rfl,rfl⟩
theorem De7 (p:HP) (a:Option Addr) (ro:Bool) (c:Nat) (l:List Int) (v:Int) [ks:IsSl p a ro D0 1 l.length c (l.map int)] (hl:l.length≤E6) :
  CtP D5 E5 [.slice a l.length c,int v] [p] (int (P5 v 0 l)):=by
 refine CtP.of Y8 rfl fun h r=>Tr.eq (A76 ..) ?_;refine Je ?_
 exact Tr.prun (Dl3 p a ro c l v hl _ 0 rfl (by omega)) fun o=>⟨rfl,rfl⟩
theorem Bb9 (p:HP) (a:Option Addr) (ro:Bool) (c:Nat) (l:List Int) (v:Int) [ks:IsSl p a ro D0 1 l.length c (l.map int)] (hl:l.length≤E6) :
  CtP D5 H5 [.slice a l.length c,int v] [p] (.bool (decide (v ∈ l))):=by
 refine CtP.of A00 rfl fun h r=>Tr.eq (Az5 ..) ?_;refine Je ?_
 refine Tr.pcall (De7 p a ro c l v hl) ?_;refine Je ?_;(refine Ja ?_;intros)
 refine Ys fun o=>?_
 rw [Dr3];exact ⟨rfl,rfl⟩
abbrev A07 (b:Nat) (l:List Int):HP:=pt b (.cells D0 false (l.map int))
def A70 (bs:List Nat) (used:List (List Int)):List Value:=List.zipWith (fun b l=>Value.slice (some ⟨b,0,none⟩) l.length l.length) bs used
abbrev Bm9 (q:Nat) (used:List (List Int)) (x:Option Addr × Nat × List Nat):List HP :=
 [pt q (.cells Ab4 false [.slice x.1 used.length x.2.1]),slC false M8 1 x.1 used.length x.2.1 (A70 x.2.2 used),E7 A07 x.2.2 used,pu (x.2.2.length=used.length)]
def R2 (q:Nat) (used:List (List Int)):HP:=hex fun x=>sl (Bm9 q used x)
instance {q:Nat} {used:List (List Int)}:Chk (R2 q used) (Bm9 q used):=⟨rfl⟩
def S7 (used:List (List Int)):Prop:=used.length≤4∧∀ l ∈ used,l.length≤64
theorem S7.at {used:List (List Int)} (k:S7 used) {i:Nat} {l:List Int} (h:used[i]?=some l):l.length≤64:=k.2 l (List.mem_of_getElem? h)
theorem Bg0 {bs:List Nat} {used:List (List Int)} {i b:Nat} {l:List Int} (hb:bs[i]?=some b) (hu:used[i]?=some l):(A70 bs used)[i]?=some (.slice (some ⟨b,0,none⟩) l.length l.length):=by
 rw [A70,List.getElem?_zipWith,hb,hu]
theorem Dk7 {bs:List Nat} {used:List (List Int)} {i:Nat} {l l':List Int} (hu:used[i]?=some l) (hl:l'.length=l.length):A70 bs (used.set i l')=A70 bs used:=by
 unfold A70
 apply List.ext_getElem?
 intro j
 simp only [List.getElem?_zipWith]
 cases hb:bs[j]? with
 | none=>rfl
 | some b =>
  by_cases hj:i=j
  ·subst hj
   rw [hu,List.getElem?_set_self (List.getElem?_eq_some_iff.1 hu).1];simp [hl]
  ·rw [List.getElem?_set_ne hj]
theorem Dd3 (q:Nat) (a:Option Addr) (n c:Nat) (s:Int):CtP D5 S8 [P0 q,int s] [pt q (.cells Ab4 false [.slice a n c])] (.bool (decide (0≤s∧s<n))):=by
 refine CtP.of Bx5 rfl fun h r=>Tr.eq (By4 ..) ?_;refine Je ?_
 (refine Ja ?_;intros)
 refine Ys fun o=>?_
 refine ⟨?_,rfl⟩
 refine congrArg Value.bool ?_;rw [Bool.eq_iff_iff];simp only [Bool.and_eq_true,Bool.or_eq_true,Bool.not_eq_true',Bool.not_eq_false',decide_eq_true_eq,decide_eq_false_iff_not,bne_iff_ne,beq_iff_eq,ne_eq,G9,W4,S5,ge_iff_le,gt_iff_lt];first|done|omega
def An2 (used:List (List Int)) (s k:Int):Bool:=match idx used s with
 | some l=>match idx l k with
  | some x=>decide (x>0)
  | none=>false
 | none=>false
theorem D47 (q:Nat) (used:List (List Int)) (s k:Int) (ok:S7 used) (x:Option Addr × Nat × List Nat) (hbs:x.2.2.length=used.length) :
  CtP D5 Ad2 [P0 q,int s,int k] (Bm9 q used x) (.bool (An2 used s k)):=by
 obtain ⟨a,c,bs⟩:=x
 refine CtP.of Bo0 rfl fun h r=>Tr.eq (Bp4 ..) ?_;refine Je ?_
 refine Tr.pcall (Dd3 q a used.length c s) ?_
 cases hx:idx used s with
 | none =>
  have hn:=A53 hx
  have e0:decide (0≤s∧s<(used.length:Int))=false:=decide_eq_false hn
  simp only [e0]
  (refine Ja ?_;intros)
  refine Ys fun o=>?_
  simp only [An2,hx]
  exact ⟨by first|rfl|trivial,by first|rfl|trivial⟩
 | some l =>
  obtain ⟨h1,h2,h3⟩:=N4 hx
  have h4:=ok.at h3
  obtain ⟨b,hb0⟩:=Au4 hbs h3
  have hrow:=Bg0 hb0 h3
  have e0:decide (0≤s∧s<(used.length:Int))=true:=decide_eq_true ⟨h1,h2⟩
  simp only [e0]
  by_cases hk:0≤k
  ·have e1:decide (k≥0)=true:=by simpa using hk
   simp only [e1]
   refine Tr.dx (Tr.andG (c:=true) (fun _=>?_) ?_)
   ·exact Jz
   refine Tr.andG (c:=decide (k<l.length)) (fun hb=>?_) ?_
   ·exact Jz
   cases hx2:idx l k with
   | none =>
    have h5:=A53 hx2
    have e2:decide (k<(l.length:Int))=false:=by simp;omega
    simp only [e2,Bool.and_false]
    (refine Ja ?_;intros)
    refine Ys fun o=>?_
    simp only [An2,hx,hx2];exact ⟨by first|rfl|trivial,by first|rfl|trivial⟩
   | some y =>
    obtain ⟨_,h6,h7⟩:=N4 hx2
    have e2:decide (k<(l.length:Int))=true:=by simpa using h6
    simp only [e2,Bool.and_true]
    have hy:(l.map int)[k.toNat]?=some (.int .i64 y):=by simp [h7]
    refine Tr.andG (c:=decide (y>0)) (fun hb=>?_) ?_
    ·(refine Ja ?_;intros;repeat(refine Gw ?_;rintro px rfl;refine Ja ?_;intros))
     refine Je ?_
     refine S2 A07 bs used hb0 h3 ?_
     refine Tr.xInt hy ?_
     exact Jz
    refine Ys fun o=>?_
    simp only [An2,hx,hx2];exact ⟨by first|rfl|trivial,by first|rfl|trivial⟩
  ·have e1:decide (k≥0)=false:=by simpa using hk
   simp only [e1]
   (refine Ja ?_;intros)
   refine Ys fun o=>?_
   have:idx l k=none:=if_neg hk
   simp only [An2,hx,this];exact ⟨by first|rfl|trivial,by first|rfl|trivial⟩
def N9 (used:List (List Int)) (s:Int):(Int × Int) × List (List Int):=match idx used s with
 | some l=>if P5 0 0 l<0 then ((0,4),used) else ((P5 0 0 l,0),used.set s.toNat (l.set (P5 0 0 l).toNat 1))
 | none=>((0,1),used)
theorem Dy2 (q:Nat) (used:List (List Int)) (s:Int) (ok:S7 used):Ct D5 Aa3 [P0 q,int s] [R2 q used] fun v own=>v=v2 (N9 used s).1∧own [R2 q (N9 used s).2]:=by
 refine Ct.of Bk6 rfl fun h r=>Tr.eq (Bk4 ..) ?_;refine Je ?_
 refine B9 (R2 q used) fun ⟨a,c,bs⟩=>?_;refine Je ?_
 refine Y3 3 rfl fun hbs=>?_
 refine Tr.pcall (Dd3 q a used.length c s) ?_
 cases hx:idx used s with
 | none =>
  have hn:=A53 hx
  simp only [hn,decide_false]
  (refine Ja ?_;intros)
  refine D3 (R2 q used) (a,c,bs) ?_;refine Je ?_
  refine Ys fun o=>?_
  simp only [N9,hx]
  exact ⟨by first|rfl|trivial,o.sub⟩
 | some l =>
  obtain ⟨h1,h2,h3⟩:=N4 hx
  have h4:=ok.at h3
  obtain ⟨b,hb0⟩:=Au4 hbs h3
  have hrow:=Bg0 hb0 h3
  have e0:decide (0≤s∧s<(used.length:Int))=true:=decide_eq_true ⟨h1,h2⟩
  simp only [e0]
  (refine Ja ?_;intros;repeat(refine Gw ?_;rintro px rfl;refine Ja ?_;intros))
  refine S2 A07 bs used hb0 h3 ?_
  refine B62 0 rfl [] (l.map int) [] (by simp) 1 0 l.length l.length (by simp) ?_;refine Je ?_
  refine Tr.pcall (De7 (slX false D0 1 (some ⟨b,0,none⟩) l.length l.length ([],[]) (l.map int)) (some ⟨b,0,none⟩) false l.length l 0 (by simp only [E6];omega)) ?_;refine Je ?_;(refine Ja ?_;intros)
  refine Da2 0 rfl (l.map int) (by simp) ?_;refine Je ?_
  refine Tr.cond (fun hi=>?_) fun hi=>?_
  ·have hi2:P5 0 0 l<0:=by simpa using hi
   refine Ad5 A07 bs used s.toNat hb0 h3 ?_
   refine D3 (R2 q used) (some px,c,bs) ?_;refine Je ?_
   refine Ys fun o=>?_
   simp only [N9,hx,if_pos hi2]
   exact ⟨by first|rfl|trivial,o.sub⟩
  ·have hi2:¬ P5 0 0 l<0:=by simpa using hi
   rcases Bc3 0 l 0 with ⟨h5,_⟩|⟨j,h5,h6⟩
   ·omega
   ·have hj:=(List.getElem?_eq_some_iff.1 h6).1
    (refine Ja ?_;intros)
    refine Je ?_
    refine Tr.xV (cs':=(l.set (P5 0 0 l).toNat 1).map int) ⟨by rw [h5];simp;omega,rfl,by rw [List.map_set]⟩ fun h=>?_
    refine A46 A07 bs used s.toNat (l.set (P5 0 0 l).toNat 1) hb0 h3 ?_
    have el:used.length=(used.set s.toNat (l.set (P5 0 0 l).toNat 1)).length:=by simp
    rw [← Dk7 (bs:=bs) (l':=l.set (P5 0 0 l).toNat 1) h3 (by simp)]
    rw [el]
    refine D3 (R2 q (used.set s.toNat (l.set (P5 0 0 l).toNat 1))) (some px,c,bs) ?_;refine Je ?_
    refine Ys fun o=>?_
    simp only [N9,hx,if_neg hi2]
    exact ⟨by first|rfl|trivial,o.sub⟩
theorem D11 {used:List (List Int)} (k:S7 used) (s:Int):S7 (N9 used s).2∧(N9 used s).2.map List.length=used.map List.length:=by
 unfold N9
 split
 ·rename_i l hx
  obtain ⟨h1,h2,h3⟩:=N4 hx
  split
  ·exact ⟨k,rfl⟩
  ·refine ⟨⟨by simpa using k.1,fun x hx=>?_⟩,?_⟩
   ·rcases List.mem_or_eq_of_mem_set hx with h|rfl
    ·exact k.2 x h
    ·simpa using k.at h3
   ·rw [List.map_set,List.length_set,A83];simp [h3]
 ·exact ⟨k,rfl⟩
def W2 (used:List (List Int)) (s k:Int):Int × List (List Int) :=
 if ¬ (0≤s∧s<used.length) then (1,used) else if An2 used s k=false then (5,used) else (0,used.set s.toNat ((used.getD s.toNat []).set k.toNat 0))
theorem B42 {used:List (List Int)} {s k:Int} (h:An2 used s k=true):∃ l,used[s.toNat]?=some l∧0≤s∧s<used.length∧0≤k∧k<l.length:=by
 unfold An2 at h
 split at h
 ·rename_i l hl
  split at h
  ·rename_i x hx
   obtain ⟨h1,h2,h3⟩:=N4 hl
   obtain ⟨h4,h5,h6⟩:=N4 hx
   exact ⟨l,h3,h1,h2,h4,h5⟩
  ·cases h
 ·cases h
theorem D27 (q:Nat) (used:List (List Int)) (s k:Int) (ok:S7 used):Ct D5 Ac3 [P0 q,int s,int k] [R2 q used] fun v own=>v=int (W2 used s k).1∧own [R2 q (W2 used s k).2]:=by
 refine Ct.of Bo5 rfl fun h r=>Tr.eq (Bp2 ..) ?_;refine Je ?_
 refine B9 (R2 q used) fun ⟨a,c,bs⟩=>?_;refine Je ?_
 refine Y3 3 rfl fun hbs=>?_
 refine Tr.pcall (Dd3 q a used.length c s) ?_
 by_cases hn:0≤s∧s<(used.length:Int)
 ·have e0:=decide_eq_true hn
  simp only [e0]
  (refine Ja ?_;intros)
  refine Tr.pcall (D47 q used s k ok (a,c,bs) hbs) ?_
  cases ho:An2 used s k with
  | false =>
   (refine Ja ?_;intros)
   refine D3 (R2 q used) (a,c,bs) ?_;refine Je ?_
   refine Ys fun o=>?_
   simp only [W2,hn,ho,not_true,not_true_eq_false,if_false,if_true,and_self]
   exact ⟨by first|rfl|trivial,o.sub⟩
  | true =>
   obtain ⟨l,h3,h1,h2,h5,h6⟩:=B42 ho
   obtain ⟨b,hb0⟩:=Au4 hbs h3
   have hrow:=Bg0 hb0 h3
   (refine Ja ?_;intros;repeat(refine Gw ?_;rintro px rfl;refine Ja ?_;intros))
   refine Je ?_
   refine S2 A07 bs used hb0 h3 ?_
   refine Tr.xV (cs':=(l.set k.toNat 0).map int) ⟨by simp;omega,rfl,by rw [List.map_set]⟩ fun h=>?_
   refine A46 A07 bs used s.toNat (l.set k.toNat 0) hb0 h3 ?_
   have el:used.length=(used.set s.toNat (l.set k.toNat 0)).length:=by simp
   rw [← Dk7 (bs:=bs) (l':=l.set k.toNat 0) h3 (by simp)]
   rw [el]
   refine D3 (R2 q (used.set s.toNat (l.set k.toNat 0))) (some px,c,bs) ?_;refine Je ?_
   refine Ys fun o=>?_
   simp only [W2,hn,ho,not_true,if_false,and_self,Bool.true_eq_false,List.getD_eq_getElem?_getD,h3,Option.getD_some]
   exact ⟨by first|rfl|trivial,o.sub⟩
 ·have e0:=decide_eq_false hn
  simp only [e0]
  (refine Ja ?_;intros)
  refine D3 (R2 q used) (a,c,bs) ?_;refine Je ?_
  refine Ys fun o=>?_
  simp only [W2,hn,not_false_eq_true,if_true]
  exact ⟨by first|rfl|trivial,o.sub⟩
theorem D61 {used:List (List Int)} (k:S7 used) (s f:Int):S7 (W2 used s f).2∧(W2 used s f).2.map List.length=used.map List.length:=by
 unfold W2
 split
 ·exact ⟨k,rfl⟩
 ·split
  ·exact ⟨k,rfl⟩
  ·rename_i ho
   have ho2:An2 used s f=true:=by simpa using ho
   obtain ⟨l,h3,h1,h2,h5,h6⟩:=B42 ho2
   refine ⟨⟨by simpa using k.1,fun x hx=>?_⟩,?_⟩
   ·rcases List.mem_or_eq_of_mem_set hx with h|rfl
    ·exact k.2 x h
    ·simpa [h3] using k.at h3
   ·rw [List.map_set,List.length_set,A83];simp [h3]
theorem Bj5 (p:HP) (ro:Bool) (a:Option Addr) (c:Nat) (l:List Int) [ks:IsSl p a ro D0 1 l.length c (l.map int)] (hn:l.length≤E6) :
  Ct D5 M3 [.slice a l.length c] [p] fun v own=>∃ a' c',v=.slice a' l.length c'∧own [slC false D0 1 a' l.length c' (l.map int),p]:=by
 refine Ct.of A68 rfl fun h r=>Tr.eq (A50 ..) ?_;refine Je ?_
 refine Az6 0 rfl fun hl hc _=>?_
 refine Tr.cond (fun hb=>?_) fun hb=>?_
 ·obtain rfl:a=none:=by simpa using hb
  refine Q6 false D0 1 (by omega) ?_
  intro o
  have o1:=(o.tail.head ks.en).slNone
  obtain rfl:l=[]:=by simpa using o1.2.2.1
  obtain rfl:c=0:=o1.2.1
  exact ⟨_,_,rfl,none,0,rfl,o⟩
 ·(refine Ja ?_;unhygienic intros)
  refine R5 0 rfl 1 0 rfl (by omega) ?_;refine Je ?_
  (refine Ja ?_;unhygienic intros)
  refine Tr.xApd ⟨by simp,by simp [Value.oneCell],by omega⟩ fun a' c' h'=>?_
  refine Je ?_
  refine Ys fun o=>⟨a',c',by simp,by simpa using o⟩
def Ad0 (l:List (List Int)):Nat:=(l.map List.length).sum
theorem Di9 (q:Nat) (used:List (List Int)) (x:Option Addr × Nat × List Nat) (ok:S7 used) (hbs:x.2.2.length=used.length) (n' c':Nat) (hn:n'≤used.length):∀ (m i:Nat),n'-i=m→i≤n' →
  Ar7 Q1 J3 U6 [(5,int (Ad0 (used.take i))),(20,.slice x.1 n' c'),(21,int n'),(22,int i)] (Bm9 q used x) (int (Ad0 (used.take n'))):=by
 obtain ⟨a,c,bs⟩:=x
 have h4:=ok.1
 have hs:∀ j,Ad0 (used.take j)≤64*j:=by
  intro j
  induction j with
  | zero=>simp [Ad0]
  | succ j ih =>
   by_cases hj:j<used.length
   ·have:=ok.at (List.getElem?_eq_getElem hj)
    rw [List.take_succ_eq_append_getElem hj]
    simp only [Ad0,List.map_append,List.sum_append,List.map_cons,List.map_nil,List.sum_cons,List.sum_nil] at ih ⊢
    omega
   ·rw [List.take_of_length_le (by omega)] at ih ⊢;omega
 intro m
 induction m with
 | zero =>
  intro i hm hi
  obtain rfl:i=n':=by omega
  refine Ar7.of Aj1 fun h r=>Tr.eq (Ap8 ..) ?_;refine Je ?_
  refine Yf (by simp) ?_
  refine Ys fun o=>?_
  exact ⟨by first|rfl|trivial,by first|rfl|trivial⟩
 | succ m ih =>
  intro i hm hi
  have hlt:i<used.length:=by omega
  have h3:used[i]?=some used[i]:=List.getElem?_eq_getElem hlt
  obtain ⟨b,hb0⟩:=Au4 hbs h3
  have hrow:=Bg0 hb0 h3
  have e1:=wN i
  have h5:=hs i
  have h6:=ok.at h3
  have e2:Ad0 (used.take (i+1))=Ad0 (used.take i)+used[i].length:=by
   rw [List.take_succ_eq_append_getElem hlt];simp only [Ad0,List.map_append,List.sum_append,List.map_cons,List.map_nil,List.sum_cons,List.sum_nil,Nat.add_zero]
  have e3:IntKind.wrap .i64 ((Ad0 (used.take i):Int)+(used[i].length:Int))=((Ad0 (used.take (i+1)):Nat):Int):=by rw [e2,G9];omega
  refine Ar7.of Aj1 fun h r=>Tr.eq (Ap8 ..) ?_;refine Je ?_
  refine Yt (by simp;omega) ?_
  (refine Ja ?_;unhygienic intros;repeat(refine Gw ?_;rintro px rfl;refine Ja ?_;unhygienic intros))
  rw [e1,e3]
  refine Tr.prun (ih (i+1) (by omega) (by omega)) fun o=>?_
  exact ⟨by first|rfl|trivial,by first|rfl|trivial⟩
def Bm3 (used:List (List Int)) (s:Int):Nat:=Ad0 (used.take (min (max s 0) used.length).toNat)
theorem D17 (q:Nat) (used:List (List Int)) (x:Option Addr × Nat × List Nat) (ok:S7 used) (hbs:x.2.2.length=used.length) (s:Int) :
  CtP D5 J3 [P0 q,int s] (Bm9 q used x) (int (Bm3 used s)):=by
 obtain ⟨a,c,bs⟩:=x
 have h4:=ok.1
 have e:mm2 false (mm2 true s 0) (used.length:Int)=((min (max s 0) used.length).toNat:Int):=by rw [W4,S5];omega
 refine CtP.of Aj1 rfl fun h r=>Tr.eq (Bk5 ..) ?_;refine Je ?_
 refine Az6 1 rfl fun hl hc _=>?_
 (refine Ja ?_;unhygienic intros)
 rw [e]
 refine Tr.ck (by omega) ?_
 rw [Int.toNat_natCast]
 refine Tr.prun (Di9 q used (a,c,bs) ok hbs _ _ (by omega) _ 0 rfl (by omega)) fun o=>?_
 exact ⟨by first|rfl|trivial,by first|rfl|trivial⟩
abbrev newRow (n:Int):List Int:=List.replicate (min (max n 0) 64).toNat 0
def S3 (fs:List Int):List (List Int):=(fs.take 4).map newRow
theorem Dt3 (fs:List Int):S7 (S3 fs):=by
 refine ⟨by simp [S3];omega,fun l hl=>?_⟩
 simp only [S3,List.mem_map] at hl
 obtain ⟨n,_,rfl⟩:=hl
 simp [newRow];omega
theorem D10 (n:Nat):L0 n [Value.int IntKind.i64 0]=(List.replicate n (0:Int)).map int:=by
 simp [L0]
theorem D33 {bs:List Nat} {used:List (List Int)} (b:Nat) (l:List Int) (h:bs.length=used.length):A70 (bs++[b]) (used++[l])=A70 bs used++[.slice (some ⟨b,0,none⟩) l.length l.length]:=by
 unfold A70;rw [List.zipWith_append h];rfl
theorem Ds4 (q:Nat) (p:HP) (ro:Bool) (a0:Option Addr) (c0:Nat) (fs:List Int) [ks:IsSl p a0 ro D0 1 fs.length c0 (fs.map int)] (n':Nat) (hn:n'=min fs.length 4) (c':Nat):∀ (m i:Nat) (a:Option Addr) (c:Nat) (bs:List Nat),n'-i=m→i≤n'→bs.length=i →
  CtJ Q1 Y6 An1 [(3,P0 q),(12,.slice a0 n' c'),(13,int n'),(14,int i)]
   [pt q (.cells Ab4 false [.slice a i c]),slC false M8 1 a i c (A70 bs ((fs.take i).map newRow)),E7 A07 bs ((fs.take i).map newRow),p] fun v own=>v=P0 q∧own [R2 q (S3 fs),p]:=by
 intro m
 induction m with
 | zero =>
  intro i a c bs hm hi hbs
  obtain rfl:i=n':=by omega
  refine CtJ.of Bc2 fun h r=>Tr.eq (Bd2 ..) ?_;refine Je ?_
  refine Yf (by simp) ?_
  refine Ys fun o=>?_
  have e:(fs.take i).map newRow=S3 fs:=by
   rw [S3];congr 1;rw [hn];rw [List.take_eq_take_iff];omega
  have el:(S3 fs).length=i:=by rw [← e];simp;omega
  rw [e] at o
  have o3:Own h (pu (bs.length=(S3 fs).length)::pt q (.cells Ab4 false [.slice a (S3 fs).length c])::slC false M8 1 a (S3 fs).length c (A70 bs (S3 fs))::E7 A07 bs (S3 fs)::p::r):=by
   rw [el];exact Own.inpure hbs o
  exact ⟨rfl,(Own.fold (R2 q (S3 fs)) (a,c,bs) o3).sub⟩
 | succ m ih =>
  intro i a c bs hm hi hbs
  have hlt:i<fs.length:=by omega
  have h3:fs[i]?=some fs[i]:=List.getElem?_eq_getElem hlt
  have ht:fs.take (i+1)=fs.take i++[fs[i]]:=List.take_succ_eq_append_getElem hlt
  generalize fs[i]=x at h3 ht
  have hg:(fs.map int)[i]?=some (.int .i64 x):=by simp [h3]
  have e1:=wN i
  have e4:mm2 false (mm2 true x 0) 64=((min (max x 0) 64).toNat:Int):=by rw [W4,S5];omega
  refine CtJ.of Bc2 fun h r=>Tr.eq (Bd2 ..) ?_;refine Je ?_
  refine Yt (by simp;omega) ?_
  rw [Int.toNat_natCast]
  (refine Ja ?_;unhygienic intros;repeat(refine Gw ?_;rintro px rfl;refine Ja ?_;unhygienic intros))
  rw [e4,Int.toNat_natCast,D10]
  refine Tr.ck (by simp only [E6];omega) ?_
  refine Yn fun bx h1=>?_
  (refine Ja ?_;unhygienic intros)
  refine Tr.xApd ?_ (fun a' c2 h=>?_);exact ⟨by first|rfl|simp,by first|rfl|simp,by simp only [E6];omega⟩;refine Je ?_
  (refine Ja ?_;unhygienic intros)
  refine Je ?_
  rw [e1]
  have el:(newRow x).length=(min (max x 0) 64).toNat:=by simp [newRow]
  have hl2:((fs.take i).map newRow).length=i:=by simp;omega
  refine By0 A07 bs ((fs.take i).map newRow) bx (newRow x) (by omega) ?_
  have ih1:=ih (i+1) a' c2 (bs++[bx]) (by omega) (by omega) (by simp [hbs])
  rw [ht,List.map_append,List.map_cons,List.map_nil,D33 bx (newRow x) (by omega),el] at ih1
  refine Yr ih1 ?_
  rintro _ h ⟨rfl,o⟩
  exact ⟨rfl,o.sub⟩
theorem D90 (p:HP) (ro:Bool) (a0:Option Addr) (c0:Nat) (fs:List Int) [ks:IsSl p a0 ro D0 1 fs.length c0 (fs.map int)]:Ct D5 Y6 [.slice a0 fs.length c0] [p] fun v own=>∃ q,v=P0 q∧own [R2 q (S3 fs),p]:=by
 have e:mm2 false (fs.length:Int) 4=((min fs.length 4:Nat):Int):=by rw [S5];omega
 refine Ct.of Bc2 rfl fun h r=>Tr.eq (Do2 ..) ?_;refine Je ?_
 refine Az6 0 rfl fun hl hc _=>?_
 (refine Ja ?_;unhygienic intros)
 rw [e]
 refine Tr.ck (by omega) ?_
 rw [Int.toNat_natCast]
 refine Q6 false M8 1 (by omega) ?_
 refine D76 A07 ?_
 have j:=Ds4 b p ro a0 c0 fs (min fs.length 4) rfl c0 _ 0 none 0 [] rfl (by omega) rfl
 simp only [List.take_zero,List.map_nil] at j
 refine Yr (show CtJ Q1 _ _ [(3,P0 b),(12,.slice a0 (min fs.length 4) c0),(13,int (min fs.length 4:Nat)),(14,int 0)] [pt b (.cells Ab4 false [.slice none 0 0]),slC false M8 1 none 0 0 [],E7 A07 [] [],p] _ from j) ?_
 rintro _ h ⟨rfl,o⟩
 exact ⟨_,rfl,o.sub⟩
structure SectS where
 lease:Int
 held:Bool
 who:Int
 stamp:Int
 since:Int
 queue:List Int
 first:Int
 last:Int
 stamps:Int
abbrev sectL (S:SectS) (a:Option Addr) (c:Nat):List Value:=[int S.lease,.bool S.held,int S.who,int S.stamp,int S.since,.slice a S.queue.length c,int S.first,int S.last,int S.stamps]
abbrev D69 (s:Nat) (S:SectS) (x:Option Addr × Nat):List HP:=[pt s (.cells Bv0 false (sectL S x.1 x.2)),slC false D0 1 x.1 S.queue.length x.2 (S.queue.map int)]
def E3 (s:Nat) (S:SectS):HP:=hex fun x=>sl (D69 s S x)
instance {s:Nat} {S:SectS}:Chk (E3 s S) (D69 s S):=⟨rfl⟩
structure SectOk (N:Nat) (S:SectS):Prop where
 lease:1≤S.lease∧S.lease≤1000
 since:0≤S.since∧S.since≤1073741824
 first:0≤S.first∧S.first≤1073741824
 last:0≤S.last∧S.last≤1073741824
 stamps:0≤S.stamps∧S.stamps≤N
 queue:S.queue.length≤N
 small:N<1000000000
def Bs4 (S:SectS) (who stamp:Int):Bool:=S.held && (S.who==who) && (S.stamp==stamp)
theorem D49 (s:Nat) (S:SectS) (who stamp:Int):CtP D5 Ae4 [P0 s,int who,int stamp] [E3 s S] (.bool (Bs4 S who stamp)):=by
 refine CtP.of Bt8 rfl fun h r=>Tr.eq (Bt6 ..) ?_;refine Je ?_
 refine B9 (E3 s S) fun ⟨a,c⟩=>?_;refine Je ?_
 exact Jz
def Ap9 (S:SectS) (who stamp:Int):SectS:=if Bs4 S who stamp then { S with held:=false,first:=S.last } else S
theorem D66 (s:Nat) (S:SectS) (who stamp:Int):Ct D5 Ae1 [P0 s,int who,int stamp] [E3 s S] fun v own=>v=.bool (Bs4 S who stamp)∧own [E3 s (Ap9 S who stamp)]:=by
 refine Ct.of Bt5 rfl fun h r=>Tr.eq (Bt7 ..) ?_;refine Je ?_
 refine Tr.pcall (D49 s S who stamp) ?_;refine Je ?_;(refine Ja ?_;unhygienic intros)
 cases hh:Bs4 S who stamp with
 | false =>
  (refine Ja ?_;unhygienic intros)
  refine Ys fun o=>?_
  simp only [Ap9,hh,Bool.false_eq_true,if_false]
  exact ⟨by first|rfl|trivial,o.sub⟩
 | true =>
  refine B9 (E3 s S) fun ⟨a,c⟩=>?_;refine Je ?_
  (refine Ja ?_;unhygienic intros)
  refine H3 (E3 s { S with held:=false,first:=S.last }) (a,c) [0,0] rfl ?_;refine Je ?_
  refine Ys fun o=>?_
  simp only [Ap9,hh,if_true]
  exact ⟨by first|rfl|trivial,o.sub⟩
theorem Dx6 {N:Nat} {S:SectS} (k:SectOk N S) (who stamp:Int):SectOk N (Ap9 S who stamp):=by
 unfold Ap9;split
 ·exact ⟨k.lease,k.since,k.last,k.last,k.stamps,k.queue,k.small⟩
 ·exact k
theorem Dr9 (n:Int) (hn:1≤n∧n≤1000):Ct D5 A24 [int n] [] fun v own=>∃ s,v=P0 s∧own [E3 s ⟨n,false,0,0,0,[],0,0,0⟩]:=by
 refine Ct.of Du9 rfl fun h r=>Tr.eq (Ds9 ..) ?_;refine Je ?_
 rw [show mm2 false (mm2 true n 1) 1000=n by rw [W4,S5];omega]
 (refine Ja ?_;unhygienic intros)
 refine Q6 false D0 1 (by omega) ?_
 refine H3 (E3 b ⟨n,false,0,0,0,[],0,0,0⟩) (none,0) [1,0] rfl ?_;refine Je ?_
 refine Ys fun o=>?_
 exact ⟨b,rfl,o.sub⟩
def Bf1 (S:SectS) (who now:Int):(Int × Bool) × SectS:=match S.queue with
 | x::q=>if x=who then ((S.stamps+1,true),{ S with held:=true,who:=who,stamp:=S.stamps+1,since:=now,queue:=q,first:=now,stamps:=S.stamps+1 }) else ((0,false),S)
 | []=>((0,false),S)
def A36 (S:SectS) (who now:Int):SectS:=match S.queue with
 | x::q=>if x≠who∧now-S.first≥S.lease then { S with queue:=q,first:=now } else S
 | []=>S
def ib (x:Int × Bool):Value:=.tuple ⟨[int x.1,.bool x.2]⟩
theorem Bn8 (s:Nat) (S:SectS) (who now:Int) (N:Nat) (k:SectOk N S) (hnow:0≤now∧now≤1073741824) (hq:S.queue≠[]) (hp:∀ x q,S.queue=x::q→¬ (x≠who∧now-S.first≥S.lease)) :
  CtJ Q1 A3 Q9 [(0,P0 s),(1,int who),(2,int now)] [E3 s S] fun v own=>v=ib (Bf1 S who now).1∧own [E3 s (Bf1 S who now).2]:=by
 obtain ⟨x,q,hxq⟩:∃ x q,S.queue=x::q:=by
  cases hh:S.queue with
  | nil=>exact absurd hh hq
  | cons x q=>exact ⟨x,q,rfl⟩
 have hp1:=hp x q hxq
 have hf:=k.first;have hl:=k.lease;have hs:=k.stamps;have hN:=k.small
 have hlen:0<S.queue.length:=by rw [hxq];simp
 have hg:(S.queue.map int)[0]?=some (.int .i64 x):=by rw [hxq];rfl
 have e1:IntKind.wrap .i64 (now-S.first)=now-S.first:=by rw [G9];omega
 have e2:IntKind.wrap .i64 (S.stamps+1)=S.stamps+1:=by rw [G9];omega
 refine CtJ.of N3 fun h r=>Tr.eq (Au6 ..) ?_;refine Je ?_
 refine B9 (E3 s S) fun ⟨a,c⟩=>?_;refine Je ?_
 (refine Ja ?_;unhygienic intros;repeat(refine Gw ?_;rintro px rfl;refine Ja ?_;unhygienic intros))
 refine Yf (by rw [e1];simp only [Bool.and_eq_false_iff,bne_eq_false_iff_eq,decide_eq_false_iff_not];omega) ?_
 (refine Ja ?_;unhygienic intros)
 refine Tr.cond (fun hw=>?_) fun hw=>?_
 ·have hw2:¬ x=who:=by simpa using hw
  refine D3 (E3 s S) (some px,c) ?_;refine Je ?_
  refine Ys fun o=>?_
  simp only [Bf1,hxq,if_neg hw2]
  exact ⟨by first|rfl|trivial,o.sub⟩
 ·have hw2:x=who:=by simpa using hw
  (refine Ja ?_;unhygienic intros)
  rw [e2]
  (refine Ja ?_;unhygienic intros)
  refine B35 1 rfl 1 (q.map int) (by omega) (by rw [hxq];rfl) ?_;refine Je ?_
  have el:S.queue.length-1=q.length:=by rw [hxq];simp
  rw [el]
  refine H3 (E3 s { S with held:=true,who:=who,stamp:=S.stamps+1,since:=now,queue:=q,first:=now,stamps:=S.stamps+1 }) (M2 (some px) (decide (1<c)) 1,c-1) [0,0] rfl ?_;refine Je ?_
  refine Ys fun o=>?_
  simp only [Bf1,hxq,if_pos hw2]
  exact ⟨by first|rfl|trivial,o.sub⟩
theorem Dk6 {N:Nat} {S:SectS} (k:SectOk N S) (who now:Int) (hnow:0≤now∧now≤1073741824):SectOk N (A36 S who now):=by
 unfold A36
 split
 ·rename_i x q hq
  split
  ·have:=k.queue
   rw [hq] at this
   exact ⟨k.lease,k.since,hnow,k.last,k.stamps,by simp at this ⊢;omega,k.small⟩
  ·exact k
 ·exact k
theorem Dn2 (s:Nat) (S:SectS) (who now:Int) (N:Nat) (k:SectOk N S) (hnow:0≤now∧now≤1073741824) (hq:who ∈ S.queue) :
  CtJ Q1 A3 Q9 [(0,P0 s),(1,int who),(2,int now)] [E3 s S] fun v own=>v=ib (Bf1 (A36 S who now) who now).1∧own [E3 s (Bf1 (A36 S who now) who now).2]:=by
 obtain ⟨x,q,hxq⟩:∃ x q,S.queue=x::q:=by
  cases hh:S.queue with
  | nil=>rw [hh] at hq;simp at hq
  | cons x q=>exact ⟨x,q,rfl⟩
 by_cases hp:x≠who∧now-S.first≥S.lease
 ·have hf:=k.first;have hl:=k.lease
  have e0:A36 S who now={ S with queue:=q,first:=now }:=by simp only [A36,hxq,if_pos hp]
  have k2:=Dk6 k who now hnow
  rw [e0] at k2 ⊢
  have hlen:0<S.queue.length:=by rw [hxq];simp
  have hg:(S.queue.map int)[0]?=some (.int .i64 x):=by rw [hxq];rfl
  have e1:IntKind.wrap .i64 (now-S.first)=now-S.first:=by rw [G9];omega
  have hq2:q≠[]:=by
   rintro rfl
   rw [hxq] at hq;simp at hq;exact hp.1 hq.symm
  refine CtJ.of N3 fun h r=>Tr.eq (Au6 ..) ?_;refine Je ?_
  refine B9 (E3 s S) fun ⟨a,c⟩=>?_;refine Je ?_
  (refine Ja ?_;unhygienic intros;repeat(refine Gw ?_;rintro px rfl;refine Ja ?_;unhygienic intros))
  refine Yt (by rw [e1];simp only [Bool.and_eq_true,bne_iff_ne,decide_eq_true_eq];exact hp) ?_
  (refine Ja ?_;unhygienic intros)
  refine B35 1 rfl 1 (q.map int) (by omega) (by rw [hxq];rfl) ?_;refine Je ?_
  have el:S.queue.length-1=q.length:=by rw [hxq];simp
  rw [el]
  refine H3 (E3 s { S with queue:=q,first:=now }) (M2 (some px) (decide (1<c)) 1,c-1) [0,0] rfl ?_;refine Je ?_
  refine Yr (Bn8 s _ who now N k2 hnow hq2 ?_) ?_
  ·intro y q' _;simp only;omega
  ·rintro _ h ⟨rfl,o⟩
   exact ⟨rfl,o.sub⟩
 ·have e0:A36 S who now=S:=by simp only [A36,hxq,if_neg hp]
  rw [e0]
  refine Bn8 s S who now N k hnow (by rw [hxq];simp) ?_
  intro y q' hy
  rw [hxq] at hy;cases hy;exact hp
theorem Bt9:Ar7 Q1 A3 X6 [] [] (ib (0,false)):=by
 refine Ar7.of N3 fun h r=>Tr.eq (Bi2 ..) ?_;refine Je ?_
 refine Ys fun o=>?_
 exact ⟨by first|rfl|trivial,by first|rfl|trivial⟩
def Bs6 (S:SectS) (who now:Int):SectS:=if S.queue.head?=some who then { S with first:=now } else S
def Am3 (S:SectS) (who now:Int):(Int × Bool) × SectS:=if S.held then ((0,false),Bs6 S who now) else Bf1 (A36 S who now) who now
theorem Dl2 (s:Nat) (S:SectS) (who now:Int) (N:Nat) (k:SectOk N S) (hnow:0≤now∧now≤1073741824) (hq:who ∈ S.queue) :
  CtJ Q1 A3 X4 [(0,P0 s),(1,int who),(2,int now)] [E3 s S] fun v own=>v=ib (Am3 S who now).1∧own [E3 s (Am3 S who now).2]:=by
 obtain ⟨x,q,hxq⟩:∃ x q,S.queue=x::q:=by
  cases hh:S.queue with
  | nil=>rw [hh] at hq;simp at hq
  | cons x q=>exact ⟨x,q,rfl⟩
 have hlen:0<S.queue.length:=by rw [hxq];simp
 have hg:(S.queue.map int)[0]?=some (.int .i64 x):=by rw [hxq];rfl
 refine CtJ.of N3 fun h r=>Tr.eq (Bi6 ..) ?_;refine Je ?_
 refine B9 (E3 s S) fun ⟨a,c⟩=>?_;refine Je ?_
 (refine Ja ?_;unhygienic intros)
 cases hh:S.held with
 | true =>
  simp only [Am3,hh,if_true]
  (refine Ja ?_;unhygienic intros;repeat(refine Gw ?_;rintro px rfl;refine Ja ?_;unhygienic intros))
  refine Tr.cond (fun hw=>?_) fun hw=>?_
  ·have hw2:x=who:=by simpa using hw
   have e0:Bs6 S who now={ S with first:=now }:=by simp only [Bs6,hxq,List.head?_cons,hw2,if_true]
   (refine Ja ?_;unhygienic intros)
   refine H3 (E3 s { S with first:=now }) (some px,c) [0,0] rfl ?_;refine Je ?_
   rw [e0]
   refine Tr.prun Bt9 fun o=>?_
   exact ⟨by first|rfl|trivial,o.sub⟩
  ·have hw2:¬ x=who:=by simpa using hw
   have e0:Bs6 S who now=S:=by simp only [Bs6,hxq,List.head?_cons,Option.some.injEq,hw2,if_false]
   refine D3 (E3 s S) (some px,c) ?_;refine Je ?_
   rw [e0]
   refine Tr.prun Bt9 fun o=>?_
   exact ⟨by first|rfl|trivial,o.sub⟩
 | false =>
  simp only [Am3,hh,Bool.false_eq_true,if_false]
  (refine Ja ?_;unhygienic intros)
  refine D3 (E3 s S) (a,c) ?_;refine Je ?_
  refine Yr (Dn2 s S who now N k hnow hq) ?_
  rintro _ h ⟨rfl,o⟩
  exact ⟨rfl,o.sub⟩
def Ae7 (S:SectS) (now:Int):SectS:=if S.held && decide (now-S.since≥S.lease) then { S with held:=false,first:=now } else S
theorem De1 {N:Nat} {S:SectS} (k:SectOk N S) (now:Int) (hnow:0≤now∧now≤1073741824):SectOk N (Ae7 S now):=by
 unfold Ae7;split
 ·exact ⟨k.lease,k.since,hnow,k.last,k.stamps,k.queue,k.small⟩
 ·exact k
theorem Do0 (S:SectS) (now:Int):(Ae7 S now).queue=S.queue:=by unfold Ae7;split<;>rfl
theorem Bv1 (s:Nat) (S:SectS) (who now:Int) (N:Nat) (k:SectOk N S) (hnow:0≤now∧now≤1073741824) (hq:who ∈ S.queue) :
  CtJ Q1 A3 Y2 [(0,P0 s),(1,int who),(2,int now)] [E3 s S] fun v own=>v=ib (Am3 (Ae7 S now) who now).1∧own [E3 s (Am3 (Ae7 S now) who now).2]:=by
 have hs:=k.since;have hl:=k.lease
 have e1:IntKind.wrap .i64 (now-S.since)=now-S.since:=by rw [G9];omega
 have j:=Dl2 s (Ae7 S now) who now N (De1 k now hnow) hnow (by rw [Do0];exact hq)
 refine CtJ.of N3 fun h r=>Tr.eq (Bh4 ..) ?_;refine Je ?_
 refine B9 (E3 s S) fun ⟨a,c⟩=>?_;refine Je ?_
 (refine Ja ?_;unhygienic intros)
 rw [e1]
 cases hh:(S.held && decide (now-S.since≥S.lease)) with
 | true =>
  have e0:Ae7 S now={ S with held:=false,first:=now }:=by simp only [Ae7,hh,if_true]
  rw [e0] at j ⊢
  (refine Ja ?_;unhygienic intros)
  refine H3 (E3 s { S with held:=false,first:=now }) (a,c) [0,0] rfl ?_;refine Je ?_
  refine Yr j ?_
  rintro _ h ⟨rfl,o⟩
  exact ⟨rfl,o.sub⟩
 | false =>
  have e0:Ae7 S now=S:=by simp only [Ae7,hh,Bool.false_eq_true,if_false]
  rw [e0] at j ⊢
  (refine Ja ?_;unhygienic intros)
  refine D3 (E3 s S) (a,c) ?_;refine Je ?_
  refine Yr j ?_
  rintro _ h ⟨rfl,o⟩
  exact ⟨rfl,o.sub⟩
def Ah4 (S:SectS) (who:Int):SectS:={ S with queue:=S.queue++[who] }
theorem Bw7 {N:Nat} {S:SectS} (k:SectOk N S) (hN:N+1<1000000000) (who:Int):SectOk (N+1) (Ah4 S who):=by
 have:=k.queue;have h2:=k.stamps
 exact ⟨k.lease,k.since,k.first,k.last,by simp [Ah4];omega,by simp [Ah4];omega,hN⟩
theorem Bu0 (s:Nat) (S:SectS) (who now:Int) (N:Nat) (k:SectOk N S) (hN:N+1<1000000000) (hnow:0≤now∧now≤1073741824) :
  CtJ Q1 A3 Y1 [(0,P0 s),(1,int who),(2,int now)] [E3 s S] fun v own=>v=ib (Am3 (Ae7 (Ah4 S who) now) who now).1∧own [E3 s (Am3 (Ae7 (Ah4 S who) now) who now).2]:=by
 have hq:=k.queue
 refine CtJ.of N3 fun h r=>Tr.eq (Bg5 ..) ?_;refine Je ?_
 refine B9 (E3 s S) fun ⟨a,c⟩=>?_;refine Je ?_
 (refine Ja ?_;unhygienic intros)
 refine Tr.xApd ?_ (fun a' c' h=>?_);exact ⟨by first|rfl|simp,by first|rfl|simp,by simp only [E6];omega⟩;refine Je ?_
 (refine Ja ?_;unhygienic intros)
 have ea:S.queue.length+1=(Ah4 S who).queue.length:=by simp [Ah4]
 have eb:S.queue.map int++[Value.int IntKind.i64 who]=(Ah4 S who).queue.map int:=by simp [Ah4]
 rw [ea,eb]
 refine H3 (E3 s (Ah4 S who)) (a',c') [1,1] rfl ?_;refine Je ?_
 refine Yr (Bv1 s (Ah4 S who) who now (N+1) (Bw7 k hN who) hnow (by simp [Ah4])) ?_
 rintro _ h ⟨rfl,o⟩
 exact ⟨rfl,o.sub⟩
def Ay1 (S:SectS) (who now:Int):SectS:=if who ∈ S.queue then S else Ah4 (if S.queue=[] then { S with first:=now } else S) who
theorem D52 {N:Nat} {S:SectS} (k:SectOk N S) (hN:N+1<1000000000) (who now:Int) (hnow:0≤now∧now≤1073741824):SectOk (N+1) (Ay1 S who now):=by
 unfold Ay1
 split
 ·have:=k.queue;have h2:=k.stamps
  exact ⟨k.lease,k.since,k.first,k.last,by omega,by omega,hN⟩
 ·by_cases hq:S.queue=[]
  ·rw [if_pos hq];exact Bw7 (S:={ S with first:=now }) ⟨k.lease,k.since,hnow,k.last,k.stamps,k.queue,k.small⟩ hN who
  ·rw [if_neg hq];exact Bw7 k hN who
def Q0 (S:SectS) (now:Int):SectS:={ S with last:=now }
def Ac7 (S:SectS) (who now:Int):(Int × Bool) × SectS :=
 if who<0∨who>99 then ((0,false),S)
 else if S.held && S.who==who then ((S.stamp,true),Q0 S (max now S.last))
 else Am3 (Ae7 (Ay1 (Q0 S (max now S.last)) who (max now S.last)) (max now S.last)) who (max now S.last)
theorem D94 {N:Nat} {S:SectS} (k:SectOk N S) (hN:N+1<1000000000) (who now:Int) (hnow:0≤now∧now≤1073741824):SectOk (N+1) (Bf1 S who now).2:=by
 have h2:=k.stamps;have h3:=k.queue
 have hS:SectOk (N+1) S:=⟨k.lease,k.since,k.first,k.last,by omega,by omega,hN⟩
 unfold Bf1
 split
 ·rename_i x q hq
  rw [hq] at h3
  split
  ·refine ⟨k.lease,hnow,hnow,k.last,?_,?_,hN⟩<;>simp at h3 ⊢<;>omega
  ·exact hS
 ·exact hS
theorem Dx7 {N:Nat} {S:SectS} (k:SectOk N S) (hN:N+2<1000000000) (who now:Int) (hnow:0≤now∧now≤1073741824):SectOk (N+2) (Ac7 S who now).2:=by
 have h2:=k.stamps;have h3:=k.queue;have hl:=k.last
 have hm:0≤max now S.last∧max now S.last≤1073741824:=by omega
 have hS:SectOk N (Q0 S (max now S.last)):=⟨k.lease,k.since,k.first,hm,k.stamps,k.queue,k.small⟩
 unfold Ac7
 split
 ·show SectOk (N+2) S
  exact ⟨k.lease,k.since,k.first,k.last,by omega,by omega,hN⟩
 ·split
  ·show SectOk (N+2) (Q0 S (max now S.last))
   exact ⟨hS.lease,hS.since,hS.first,hS.last,by have:=hS.stamps;omega,by have:=hS.queue;omega,hN⟩
  ·have k2:=De1 (D52 hS (by omega) who (max now S.last) hm) (max now S.last) hm
   generalize Ae7 (Ay1 (Q0 S (max now S.last)) who (max now S.last)) (max now S.last)=T at k2
   unfold Am3
   split
   ·unfold Bs6
    have h4:=k2.stamps;have h5:=k2.queue
    show SectOk (N+2) (if T.queue.head?=some who then { T with first:=max now S.last } else T)
    split
    ·exact ⟨k2.lease,k2.since,hm,k2.last,by simp only;omega,by simp only;omega,hN⟩
    ·exact ⟨k2.lease,k2.since,k2.first,k2.last,by omega,by omega,hN⟩
   ·exact D94 (Dk6 k2 who _ hm) (by omega) who _ hm
theorem D53 (s:Nat) (S:SectS) (who now:Int) (N:Nat) (k:SectOk N S) (hN:N+1<1000000000) (hnow:0≤now∧now≤1073741824) :
  Ct D5 A3 [P0 s,int who,int now] [E3 s S] fun v own=>v=ib (Ac7 S who now).1∧own [E3 s (Ac7 S who now).2]:=by
 have hl:=k.last;have hq:=k.queue;have hsm:=k.small
 have hm:0≤max now S.last∧max now S.last≤1073741824:=by omega
 have hS:SectOk N (Q0 S (max now S.last)):=⟨k.lease,k.since,k.first,hm,k.stamps,k.queue,k.small⟩
 refine Ct.of N3 rfl fun h r=>Tr.eq (Bs7 ..) ?_;refine Je ?_
 refine B9 (E3 s S) fun ⟨a,c⟩=>?_;refine Je ?_
 (refine Ja ?_;unhygienic intros)
 rw [W4]
 refine Tr.cond (fun hw=>?_) fun hw=>?_
 ·have hw2:who<0∨who>99:=by simpa using hw
  refine D3 (E3 s S) (a,c) ?_;refine Je ?_
  refine Ys fun o=>?_
  simp only [Ac7,if_pos hw2]
  exact ⟨by first|rfl|trivial,o.sub⟩
 ·have hw2:¬ (who<0∨who>99):=by simpa using hw
  (refine Ja ?_;unhygienic intros)
  cases hh:(S.held && S.who==who) with
  | true =>
   (refine Ja ?_;unhygienic intros)
   refine H3 (E3 s (Q0 S (max now S.last))) (a,c) [0,0] rfl ?_;refine Je ?_
   refine Ys fun o=>?_
   simp only [Ac7,if_neg hw2,hh,if_true]
   exact ⟨by first|rfl|trivial,o.sub⟩
  | false =>
   (refine Ja ?_;unhygienic intros)
   refine Tr.pcall (Bb9 (slC false D0 1 a S.queue.length c (S.queue.map int)) a false c S.queue who (by simp only [E6];omega)) ?_
   have e0:Ac7 S who now=Am3 (Ae7 (Ay1 (Q0 S (max now S.last)) who (max now S.last)) (max now S.last)) who (max now S.last):=by
    simp only [Ac7,if_neg hw2,hh,Bool.false_eq_true,if_false]
   rw [e0]
   by_cases hin:who ∈ S.queue
   ·have e1:Ay1 (Q0 S (max now S.last)) who (max now S.last)=Q0 S (max now S.last):=if_pos hin
    simp only [hin,decide_true]
    (refine Ja ?_;unhygienic intros)
    refine H3 (E3 s (Q0 S (max now S.last))) (a,c) [0,0] rfl ?_;refine Je ?_
    rw [e1]
    refine Yr (Bv1 s (Q0 S (max now S.last)) who (max now S.last) N hS hm hin) ?_
    rintro _ h ⟨rfl,o⟩
    exact ⟨rfl,o.sub⟩
   ·simp only [hin,decide_false]
    (refine Ja ?_;unhygienic intros)
    by_cases hqe:S.queue=[]
    ·have e1:Ay1 (Q0 S (max now S.last)) who (max now S.last)=Ah4 { Q0 S (max now S.last) with first:=max now S.last } who:=by
      unfold Ay1;rw [if_neg (show ¬ who ∈ (Q0 S (max now S.last)).queue from hin),if_pos (show (Q0 S (max now S.last)).queue=[] from hqe)]
     rw [e1]
     refine Yt (by rw [hqe];rfl) ?_
     (refine Ja ?_;unhygienic intros)
     refine H3 (E3 s { Q0 S (max now S.last) with first:=max now S.last }) (a,c) [0,0] rfl ?_;refine Je ?_
     refine Yr (Bu0 s { Q0 S (max now S.last) with first:=max now S.last } who (max now S.last) N ⟨hS.lease,hS.since,hm,hS.last,hS.stamps,hS.queue,hS.small⟩ hN hm) ?_
     rintro _ h ⟨rfl,o⟩
     exact ⟨rfl,o.sub⟩
    ·have e1:Ay1 (Q0 S (max now S.last)) who (max now S.last)=Ah4 (Q0 S (max now S.last)) who:=by
      unfold Ay1;rw [if_neg (show ¬ who ∈ (Q0 S (max now S.last)).queue from hin),if_neg (show ¬ (Q0 S (max now S.last)).queue=[] from hqe)]
     have hpos:0<S.queue.length:=List.length_pos_iff.2 hqe
     rw [e1]
     refine Yf (by simp only [beq_eq_false_iff_ne];omega) ?_
     refine H3 (E3 s (Q0 S (max now S.last))) (a,c) [0,0] rfl ?_;refine Je ?_
     refine Yr (Bu0 s (Q0 S (max now S.last)) who (max now S.last) N hS hN hm) ?_
     rintro _ h ⟨rfl,o⟩
     exact ⟨rfl,o.sub⟩
end Go.EQ
