/- A read that found nothing is woken by bytes, and by the end, and by nothing else: till then its picks do nothing. -/
import Derived.Test.YtonlefldpebcpaaGreatDoorMk
import Derived.MakeChecks
import Derived.Test.YtonlefldpebcpaaGreatDoorCards
import Derived.Test.YtonlefldpebcpaaGreatDoorTie
import Derived.LaidMore
import Derived.OpenShut
import Derived.Stop.Joined
import Derived.ProofKit
import Derived.SevenTiedAt
set_option linter.all false
set_option maxRecDepth 10000
namespace Go.EQ
open Go Go.NN
abbrev Am7:=Int × Int × Int
abbrev Hd0 (i:Am7):List Value:=[int i.1,int i.2.1,int i.2.2]
abbrev Hb7 (l:List Am7):List Value:=l.flatMap Hd0
theorem H14 (i:Am7):(Hd0 i).length=3:=rfl
def okI (i:Am7) (behind:Int):Bool :=
 !(decide (i.1<1) || decide (i.1>7) || decide (i.2.1<0) || decide (i.2.1>65535) || !(i.1==1 || i.1==3 || i.1==4 || i.1==5) && i.2.1 != 0 || i.2.2 != 0) && (i.1 != 5 || decide (i.2.1≤behind))
theorem Iy9 (i:Am7) (behind:Int):Ct A7 Ee6 [.agg ⟨Hd0 i⟩,int behind] [] fun v own=>v=.bool (okI i behind)∧own []:=by
 obtain ⟨op,a,b⟩:=i
 unfold okI
 dsimp only
 refine Ct.of Ix9 rfl fun h r=>Tr.eq (Iv2 ..) ?_;refine Je ?_
 refine Tr.nw fun b1 h=>?_
 (refine Ja ?_;unhygienic intros)
 generalize (decide (op<1) || decide (op>7) || decide (a<0) || decide (a>65535) || !(op==1 || op==3 || op==4 || op==5) && a != 0 || b != 0)=z
 cases z with
 | true =>
  refine Tr.condT rfl ?_
  refine Tr.some fun o=>?_
  exact ⟨rfl,o.sub⟩
 | false =>
  refine Tr.condF rfl ?_
  (refine Jb ?_;unhygienic intros)
  by_cases h5:op=5
  ·refine Tr.bnd (Tr.condF (by simpa using h5) ?_)
   (refine Jb ?_;unhygienic intros)
   refine Tr.some fun o=>(?_:Tr _ _ _ _) o;refine Je ?_
   refine Tr.some fun o=>?_
   exact ⟨by subst h5;rfl,o.sub⟩
  ·refine Tr.bnd (Tr.condT (by simpa using h5) ?_)
   refine Tr.some fun o=>(?_:Tr _ _ _ _) o;refine Je ?_
   refine Tr.some fun o=>?_
   exact ⟨by rw [show (op != 5)=true by simpa using h5];rfl,o.sub⟩
abbrev isC (ro:Bool) (a:Option Addr) (c:Nat) (l:List Am7):HP:=slC ro P6 3 a l.length c (Hb7 l)
theorem Ih7 {l:List Am7} {i:Nat} {x:Am7} (h:l[i]?=some x):0<3∧i*3+3≤(Hb7 l).length∧((Hb7 l).drop (i*3)).take 3=Hd0 x:=by
 have h1:=Bi8 H14 h
 have h2:(Hb7 l).length=l.length*3:=Y6 H14 l
 have hlt:=(List.getElem?_eq_some_iff.1 h).1
 exact ⟨by omega,by omega,h1⟩
abbrev Ei2 (l:List Am7):Prop:=∀ (i:Nat) (x:Am7),l[i]?=some x→okI x ((l.length:Int)-1-i)=true
theorem Eb6 (ro:Bool) (a:Option Addr) (c:Nat) (l:List Am7) (hl:l.length≤32) (hk:Ei2 l):∀ (m i:Nat),i+m=l.length →
  CtJ I1 Ab2 Bn5 [(0,.slice a l.length c),(8,.slice a l.length c),(9,int (l.length:Int)),(10,int (i:Int))] [isC ro a c l] fun v own=>v=int 0∧own [isC ro a c l]
 | 0,i,hi=>by
  refine CtJ.of D55 fun h r=>Tr.eq (Eb3 ..) ?_;refine Je ?_
  refine Tr.condF (by simp;omega) ?_
  refine Tr.some fun o=>?_
  exact ⟨rfl,o.sub⟩
 | m+1,i,hi=>by
  have ih:=Eb6 ro a c l hl hk m (i+1) (by omega)
  have hlt:i<l.length:=by omega
  have hx:l[i]?=some l[i]:=List.getElem?_eq_getElem hlt
  have hp:=Ih7 hx
  have hok:=hk i _ hx
  generalize l[i]=x at hx hp hok
  obtain ⟨op,xa,xb⟩:=x
  have e1:=wN i
  have e2:IntKind.wrap .i64 (IntKind.wrap .i64 ((l.length:Int)-1)-(i:Int))=(l.length:Int)-1-i:=by rw [B4,B4];omega
  refine CtJ.of D55 fun h r=>Tr.eq (Eb3 ..) ?_;refine Je ?_
  refine Tr.condT (by simp;omega) ?_
  rw [e1,e2]
  (refine Jc ?_;unhygienic intros;repeat(refine Gw ?_;rintro px rfl;refine Jc ?_;unhygienic intros))
  rw [Int.toNat_natCast]
  refine Tr.xAggS (xs:=Hd0 (op,xa,xb)) hp ?_
  refine Tr.nw fun b1 h=>?_
  (refine Jc ?_;unhygienic intros)
  refine Tr.xCall (Iy9 (op,xa,xb) ((l.length:Int)-1-i)) ?_;rintro _ h ⟨rfl,o⟩<;>refine Jh o ?_
  rw [hok]
  (refine Jc ?_;unhygienic intros)
  refine Tr.xRun (ih) ?_;rintro _ h ⟨rfl,o⟩
  exact ⟨rfl,o.sub⟩
theorem Dd7 (ro:Bool) (a:Option Addr) (c:Nat) (l:List Am7) (hl:l.length≤32) (hk:Ei2 l):Ct A7 Ab2 [.slice a l.length c] [isC ro a c l] fun v own=>v=int 0∧own [isC ro a c l]:=by
 have J:=Eb6 ro a c l hl hk l.length 0 (by omega)
 rw [show ((0:Nat):Int)=0 from rfl] at J
 refine Ct.of D55 rfl fun h r=>Tr.eq (H36 ..) ?_;refine Je ?_
 refine Tr.condF (by simp;omega) ?_
 refine Tr.xRun (J) ?_;rintro _ h ⟨rfl,o⟩
 exact ⟨rfl,o.sub⟩
theorem Hf6 (n:Int) (hn:0≤n∧n≤65535):Ct A7 Dp4 [int n] [] fun v own=>v=.bool true∧own []:=by
 refine Ct.of Iz2 rfl fun h r=>Tr.eq (I04 ..) ?_;refine Je ?_
 refine Tr.bnd (Tr.condT (by simp;omega) ?_)
 refine Tr.some fun o=>(?_:Tr _ _ _ _) o;refine Je ?_
 refine Tr.some fun o=>?_
 exact ⟨by rw [decide_eq_true hn.2],o.sub⟩
abbrev Ja4 (at0 mask:Int):List Am7:=[(1,at0,0),(3,mask,0),(7,0,0),(5,1,0),(6,0,0)]
theorem Iq4 (at0 mask:Int) (h1:0≤at0∧at0≤65535) (h2:0≤mask∧mask≤65535):Ct A7 Db0 [int at0,int mask] [] fun v own=>∃ x,v=.slice x 5 5∧own [isC false x 5 (Ja4 at0 mask)]:=by
 refine Ct.of Ir6 rfl fun h r=>Tr.eq (In7 ..) ?_;refine Je ?_
 refine Tr.xCall (Hf6 at0 h1) ?_;rintro _ h ⟨rfl,o⟩<;>refine Jh o ?_
 (refine Jb ?_;unhygienic intros)
 refine Tr.bnd (Tr.condF rfl ?_)
 refine Tr.xCall (Hf6 mask h2) ?_;rintro _ h ⟨rfl,o⟩<;>refine Jh o ?_
 (refine Jb ?_;unhygienic intros)
 refine Tr.some fun o=>(?_:Tr _ _ _ _) o;refine Je ?_
 refine Tr.condF rfl ?_
 refine Tr.nw fun b1 h=>?_
 refine Ah3 0 rfl 3 5 rfl (by omega) ?_
 refine (?_:Tr (isC false (some ⟨b1,0,none⟩) 5 (Ja4 at0 mask)::_) _ _ _)
 refine Tr.some fun o=>?_
 exact ⟨_,rfl,o.sub⟩
theorem Own.cut0 {ro:Bool} {e:TypeId} {sz n c k:Nat} {cs:List Value} {h:H} {r:List HP} {a:Option Addr} (o:Own h (slC ro e sz a n c cs::r)):Own h (slC ro e sz (E1 a (decide (0<c)) (0*k)) 0 c []::r):=by
 cases a with
 | none =>
  obtain ⟨pq,o1⟩:=Own.ex o
  have:=o1.pure
  obtain ⟨rfl,rfl,rfl,h4⟩:=this
  exact Own.inex (f:=fun pq=>slX ro e sz none 0 0 pq []) pq o1
 | some x =>
  obtain ⟨b,of,sp⟩:=x
  obtain ⟨pre,post,o1,h1,h2,h3,h4,h5,h6,h7⟩:=Own.slOpen o
  have e1:E1 (some ⟨b,of,sp⟩) (decide (0<c)) (0*k)=some ⟨b,of,sp⟩:=by
   unfold E1;cases decide (0<c)<;>simp
  rw [e1]
  refine Own.slShut (pre:=pre) (cs:=[]) (post:=cs++post) (by simpa using o1) ⟨by simp,Nat.zero_le _,?_,h4,h5,h6,h7⟩
  rw [List.length_append,← h1,Nat.sub_zero]
  rw [Nat.sub_mul] at h3
  omega
theorem Jm2 {l r:List HP} {α:Type} {x:Option (α × H)} {h:H} {Q:α→H→Prop} (ro:Bool) (e:TypeId) (sz:Nat) (a:Option Addr) (n c k:Nat) (cs:List Value) [tk:Take (slC ro e sz a n c cs) l r] (t:Tr (slC ro e sz (E1 a (decide (0<c)) (0*k)) 0 c []::r) h x Q):Tr l h x Q:=fun o=>t (Own.cut0 (o.perm tk.pm))
theorem Ju7 {α:Type} (c:Nat) (k:Nat→Option α):Gb5 none c k=k c:=rfl
theorem Jv5 (e:TypeId) (h:NN.H):NN.fitsOpen none e h=true:=rfl
theorem ckT {α:Type} (x:Option α):NN.ckB true x=x:=rfl
abbrev z24:List Value:=[int 0,int 0,int 0,int 0,int 0,int 0,int 0,int 0,int 0,int 0,int 0,int 0,int 0,int 0,int 0,int 0,int 0,int 0,int 0,int 0,int 0,int 0,int 0,int 0]
theorem Jh4:Ct A7 N1 [.slice none 0 0,int 8] [] fun v own=>∃ x c,v=.slice x 0 c∧own [isC false x c []]:=by
 refine Ct.of A21 rfl fun h r=>Tr.eq (B83 ..) ?_;refine Je ?_
 refine Tr.condF rfl ?_
 refine Tr.jmp A21 (Tr.eq (Bx7 ..) ?_);(try simp only[Nr,Nl,wl,Nat.reduceAdd,Nat.reduceMul,Int.reduceToNat])
 simp only [Ju7,Jv5,ckT]
 refine Tr.condT (by decide) ?_
 refine Tr.ck (by decide) ?_
 refine Tr.ck (by decide) ?_
 refine (?_:Tr _ _ (NN.apd P6 3 none 0 0 8 z24 _ _) _)
 refine G6 false P6 3 (by omega) ?_
 refine Tr.xApd ?_ (fun xx yy h=>?_);exact ⟨by first|rfl|simp,by first|rfl|simp,by simp only [A8];omega⟩;refine Je ?_
 have em:∀ u:Option Addr,∀ q:Bool,E1 u q (0*3)=u:=fun u q=>by
  cases u with
  | none=>rfl
  | some u=>obtain ⟨u1,u2,u3⟩:=u;cases q<;>simp [E1]
 (refine Jc ?_;unhygienic intros)
 refine Jm2 false P6 3 xx 8 yy 3 z24 ?_
 rw [em]
 refine (?_:Tr (isC false xx yy []::_) _ _ _)
 refine Tr.some fun o=>?_
 exact ⟨xx,yy,rfl,o.sub⟩
theorem Own.clip {ro:Bool} {e:TypeId} {sz n c k:Nat} {cs:List Value} {h:H} {r:List HP} {a:Option Addr} {q:Bool} (o:Own h (slC ro e sz a n c cs::r)):Own h (slC ro e sz (Ar1 (E1 a q (0*k))) n n cs::r):=by
 cases a with
 | none =>
  obtain ⟨pq,o1⟩:=Own.ex o
  obtain ⟨rfl,rfl,rfl,h4⟩:=o1.pure
  exact Own.inex (f:=fun pq=>slX ro e sz none 0 0 pq []) pq o1
 | some x =>
  obtain ⟨b,of,sp⟩:=x
  obtain ⟨pre,post,o1,h1,h2,h3,h4,h5,h6,h6'⟩:=Own.slOpen o
  have e1:Ar1 (E1 (some ⟨b,of,sp⟩) q (0*k))=some ⟨b,of,none⟩:=by
   unfold E1;cases q<;>simp [Ar1,B0]
  rw [e1]
  exact Own.slShut (pre:=pre) (cs:=cs) (post:=post) o1 ⟨h1,Nat.le_refl _,by simp,fun hc=>h4 (by omega),by simp,h6,fun hc=>by
   by_cases h8:c=0
   ·exact h6' h8
   ·exact Nat.le_of_eq (h4 (by omega))⟩
theorem Jk6 {l r:List HP} {α:Type} {x:Option (α × H)} {h:H} {Q:α→H→Prop} (ro:Bool) (e:TypeId) (sz:Nat) (a:Option Addr) (n c k:Nat) (q:Bool) (cs:List Value) [tk:Take (slC ro e sz a n c cs) l r] (t:Tr (slC ro e sz (Ar1 (E1 a q (0*k))) n n cs::r) h x Q):Tr l h x Q:=fun o=>t (Own.clip (o.perm tk.pm))
abbrev cc5 (x1 x2 x3 x4 x5:Am7):List Am7:=[x1,x2,x3,x4,x5]
abbrev cc3 (x6 x7 x8:Am7):List Am7:=[x6,x7,x8]
theorem Iv7 (x1 x2 x3 x4 x5 x6 x7 x8:Am7) (p:Nat) (a b:Option Addr) :
  Ct A7 D5 [.slice (some ⟨p,0,none⟩) 2 2] [pt p (.cells Gn6 false [.slice a 5 5,.slice b 3 3]),isC false a 5 (cc5 x1 x2 x3 x4 x5),isC false b 3 (cc3 x6 x7 x8)] fun v own=>∃ x c,v=.slice x 8 c ∧
   own [isC false x c ([x1,x2,x3,x4,x5,x6,x7,x8]),isC false a 5 (cc5 x1 x2 x3 x4 x5),isC false b 3 (cc3 x6 x7 x8)]:=by
 refine Ct.of I5 rfl fun h r=>Tr.eq (By6 ..) ?_;refine Je ?_
 refine Tr.jmp I5 (Tr.eq (Ab7 ..) ?_);(try simp only[Nr,Nl,wl,Nat.reduceAdd,Nat.reduceMul,Int.reduceToNat])
 refine Tr.condT rfl ?_
 (refine Jd ?_;unhygienic intros)
 refine Tr.jmp I5 (Tr.eq (Ab7 ..) ?_);(try simp only[Nr,Nl,wl,Nat.reduceAdd,Nat.reduceMul,Int.reduceToNat])
 refine Tr.condT rfl ?_
 (refine Jd ?_;unhygienic intros)
 refine Tr.jmp I5 (Tr.eq (Ab7 ..) ?_);(try simp only[Nr,Nl,wl,Nat.reduceAdd,Nat.reduceMul,Int.reduceToNat])
 refine Tr.condF rfl ?_
 rw [show IntKind.wrap .i64 (IntKind.wrap .i64 (0+((5:Nat):Int))+((3:Nat):Int))=8 by decide]
 refine Tr.xCall (Jh4) ?_;rintro _ h ⟨u,w,rfl,o⟩<;>refine Jh o ?_
 (refine Jc ?_;unhygienic intros)
 refine Tr.jmp I5 (Tr.eq (Aa9 ..) ?_);(try simp only[Nr,Nl,wl,Nat.reduceAdd,Nat.reduceMul,Int.reduceToNat])
 refine Tr.condT rfl ?_
 (refine Jd ?_;unhygienic intros)
 refine Tr.xApd ?_ (fun xa ya h=>?_);exact ⟨by first|rfl|simp,by first|rfl|simp,by simp only [A8];omega⟩;refine Je ?_
 refine Tr.jmp I5 (Tr.eq (Aa9 ..) ?_);(try simp only[Nr,Nl,wl,Nat.reduceAdd,Nat.reduceMul,Int.reduceToNat])
 refine Tr.condT rfl ?_
 (refine Jd ?_;unhygienic intros)
 refine Tr.xApd ?_ (fun xb yb h=>?_);exact ⟨by first|rfl|simp,by first|rfl|simp,by simp only [A8];omega⟩;refine Je ?_
 refine Tr.jmp I5 (Tr.eq (Aa9 ..) ?_);(try simp only[Nr,Nl,wl,Nat.reduceAdd,Nat.reduceMul,Int.reduceToNat])
 refine Tr.condF rfl ?_
 refine (?_:Tr (isC false xb yb ([x1,x2,x3,x4,x5,x6,x7,x8])::_) _ _ _)
 refine Tr.some fun o=>?_
 exact ⟨xb,yb,rfl,o.sub⟩
theorem Jc0 (cs:List Value) (x:Option Addr) (n c:Nat) (hc:n≤c):Ct A7 W6 [.slice x n c] [slC false P6 3 x n c cs] fun v own=>∃ y,v=.slice y n n∧own [slC false P6 3 y n n cs]:=by
 refine Ct.of B81 rfl fun h r=>Tr.eq (B82 ..) ?_;refine Je ?_
 (refine Jc ?_;unhygienic intros)
 rw [Int.toNat_natCast]
 have em:Ar1 (E1 x true (0*3))=Ar1 x:=by
  cases x with
  | none=>rfl
  | some u=>obtain ⟨u1,u2,u3⟩:=u;simp [E1,Ar1,B0]
 refine Jk6 false P6 3 x n c 3 true cs ?_
 rw [em]
 refine Tr.some fun o=>?_
 exact ⟨Ar1 x,rfl,o.sub⟩
theorem Iy7 (x1 x2 x3 x4 x5 x6 x7 x8:Am7) (h1:Ei2 (cc5 x1 x2 x3 x4 x5)) (h2:Ei2 (cc3 x6 x7 x8)) (h3:Ei2 [x1,x2,x3,x4,x5,x6,x7,x8]) (a b:Option Addr) :
  Ct A7 B18 [.slice a 5 5,.slice b 3 3] [isC false a 5 (cc5 x1 x2 x3 x4 x5),isC false b 3 (cc3 x6 x7 x8)] fun v own=>∃ x,v=.tuple ⟨[.slice x 8 8,.bool true]⟩∧own [isC false x 8 [x1,x2,x3,x4,x5,x6,x7,x8]]:=by
 refine Ct.of Hl1 rfl fun h r=>Tr.eq (Hk3 ..) ?_;refine Je ?_
 refine Tr.nw fun p h=>?_
 refine Tr.xCall (Iv7 x1 x2 x3 x4 x5 x6 x7 x8 p a b) ?_;rintro _ h ⟨x,c,rfl,o⟩<;>refine Jh o ?_
 (refine Jc ?_;unhygienic intros)
 refine Tr.xCall (Dd7 false a 5 (cc5 x1 x2 x3 x4 x5) (by simp) h1) ?_;rintro _ h ⟨rfl,o⟩<;>refine Jh o ?_
 (refine Jb ?_;unhygienic intros)
 refine Tr.bnd (Tr.condF rfl ?_)
 refine Tr.xCall (Dd7 false b 3 (cc3 x6 x7 x8) (by simp) h2) ?_;rintro _ h ⟨rfl,o⟩<;>refine Jh o ?_
 (refine Jb ?_;unhygienic intros)
 refine Tr.some fun o=>(?_:Tr _ _ _ _) o;refine Je ?_
 refine Tr.bnd (Tr.condF rfl ?_)
 refine Tr.xCall (Dd7 false x c [x1,x2,x3,x4,x5,x6,x7,x8] (by simp) h3) ?_;rintro _ h ⟨rfl,o⟩<;>refine Jh o ?_
 (refine Jb ?_;unhygienic intros)
 refine Tr.some fun o=>(?_:Tr _ _ _ _) o;refine Je ?_
 refine Tr.condF rfl ?_
 refine V5 0 rfl fun h1 h2 h3=>?_
 refine Tr.xCall (Jc0 (Hb7 [x1,x2,x3,x4,x5,x6,x7,x8]) x 8 c h2) ?_;rintro _ h ⟨y,rfl,o⟩<;>refine Jh o ?_
 (refine Jc ?_;unhygienic intros)
 refine (?_:Tr (isC false y 8 [x1,x2,x3,x4,x5,x6,x7,x8]::_) _ _ _)
 refine Tr.some fun o=>?_
 exact ⟨y,rfl,o.sub⟩
def byN (view:List UInt8) (a:Int):Int:=if a<view.length then ((view.getD a.toNat 0).toNat:Int) else 0
def Ds7 (view:List UInt8) (now:Int) (i:Am7) (n:Int):Int :=
 if i.1=1 then byN view i.2.1 else if i.1=2 then now else if i.1=3 then J8 .i64 n i.2.1 else if i.1=4 then (if n<i.2.1 then 1 else 0) else if i.1=7 then (if n=0 then 1 else 0) else n
def Dt7 (i:Am7) (n:Int):Int:=if i.1=5∧n≠0 then i.2.1 else 0
abbrev mcC (m:Nat) (n:Int) (x:Option Addr) (vn vc:Nat) (now:Int):HP:=pt m (.cells El7 false [int n,.slice x vn vc,int now])
abbrev vwC (x:Option Addr) (vc:Nat) (view:List UInt8):HP:=slC false A5 1 x view.length vc (A0 view)
theorem Gz5 (z:Bool):Ct A7 Dc3 [.bool z] [] fun v own=>v=int (if z then 1 else 0)∧own []:=by
 refine Ct.of Iq8 rfl fun h r=>Tr.eq (Im9 ..) ?_;refine Je ?_
 cases z with
 | true =>
  refine Tr.condT rfl ?_
  refine Tr.some fun o=>?_
  exact ⟨rfl,o.sub⟩
 | false =>
  refine Tr.condF rfl ?_
  refine Tr.some fun o=>?_
  exact ⟨rfl,o.sub⟩
theorem Jq7 (m:Nat) (n now:Int) (x:Option Addr) (vc:Nat) (view:List UInt8) (op a b:Int) (ha:0≤a) :
  Ct A7 Bb1 [P0 m,.agg ⟨[int op,int a,int b]⟩] [mcC m n x view.length vc now,vwC x vc view] fun v own=>v=int (Dt7 (op,a,b) n)∧own [mcC m (Ds7 view now (op,a,b) n) x view.length vc now,vwC x vc view]:=by
 unfold Ds7 Dt7
 dsimp only
 refine Ct.of Gl6 rfl fun h r=>Tr.eq (Gl9 ..) ?_;refine Je ?_
 refine Tr.nw fun b1 h=>?_
 (refine Jb ?_;unhygienic intros)
 by_cases h1:op=1
 ·rw [if_pos h1,if_neg (fun k=>by omega)]
  refine Tr.condT (by simpa using h1) ?_
  (refine Jb ?_;unhygienic intros)
  unfold byN
  by_cases hlt:a<view.length
  ·rw [if_pos hlt]
   refine Tr.condT (by simpa using hlt) ?_
   have hk:0≤a∧a<view.length:=⟨ha,hlt⟩
   have hg:(A0 view)[a.toNat]?=some (.int .u8 ((view.getD a.toNat 0).toNat:Int)):=Ag1 (by omega)
   have hb:=(view.getD a.toNat 0).toNat_lt
   have hw:IntKind.wrap .i64 ((view.getD a.toNat 0).toNat:Int)=((view.getD a.toNat 0).toNat:Int):=by rw [B4];omega
   (refine Ja ?_;unhygienic intros;repeat(refine Gw ?_;rintro px rfl;refine Ja ?_;unhygienic intros))
   rw [hw]
   simp only [List.set_cons_zero]
   refine Tr.some fun o=>?_
   exact ⟨rfl,o.sub⟩
  ·rw [if_neg hlt]
   refine Tr.condF (by simpa using hlt) ?_
   simp only [List.set_cons_zero]
   refine Tr.some fun o=>?_
   exact ⟨rfl,o.sub⟩
 rw [if_neg h1]
 refine Tr.condF (by simpa using h1) ?_
 by_cases h2:op=2
 ·rw [if_pos h2,if_neg (fun k=>by omega)]
  refine Tr.condT (by simpa using h2) ?_
  (refine Ja ?_;unhygienic intros)
  simp only [List.set_cons_zero]
  refine Tr.some fun o=>?_
  exact ⟨rfl,o.sub⟩
 rw [if_neg h2]
 refine Tr.condF (by simpa using h2) ?_
 by_cases h3:op=3
 ·rw [if_pos h3,if_neg (fun k=>by omega)]
  refine Tr.condT (by simpa using h3) ?_
  (refine Ja ?_;unhygienic intros)
  simp only [List.set_cons_zero]
  refine Tr.some fun o=>?_
  exact ⟨rfl,o.sub⟩
 rw [if_neg h3]
 refine Tr.condF (by simpa using h3) ?_
 by_cases h4:op=4
 ·rw [if_pos h4,if_neg (fun k=>by omega)]
  refine Tr.condT (by simpa using h4) ?_
  (refine Ja ?_;unhygienic intros)
  refine Tr.xCall (Gz5 (decide (n<a))) ?_;rintro _ h ⟨rfl,o⟩<;>refine Jh o ?_
  (refine Ja ?_;unhygienic intros)
  simp only [List.set_cons_zero,decide_eq_true_eq,beq_iff_eq]
  refine Tr.some fun o=>?_
  exact ⟨rfl,o.sub⟩
 rw [if_neg h4]
 refine Tr.condF (by simpa using h4) ?_
 by_cases h7:op=7
 ·rw [if_pos h7,if_neg (fun k=>by omega)]
  refine Tr.condT (by simpa using h7) ?_
  (refine Ja ?_;unhygienic intros)
  refine Tr.xCall (Gz5 (n==0)) ?_;rintro _ h ⟨rfl,o⟩<;>refine Jh o ?_
  (refine Ja ?_;unhygienic intros)
  simp only [List.set_cons_zero,decide_eq_true_eq,beq_iff_eq]
  refine Tr.some fun o=>?_
  exact ⟨rfl,o.sub⟩
 rw [if_neg h7]
 refine Tr.condF (by simpa using h7) ?_
 by_cases h5:op=5
 ·refine Tr.condT (by simpa using h5) ?_
  (refine Jb ?_;unhygienic intros)
  by_cases h0:n=0
  ·rw [if_neg (fun k=>k.2 h0)]
   refine Tr.condF (by simpa using h0) ?_
   refine Tr.some fun o=>?_
   exact ⟨rfl,o.sub⟩
  ·rw [if_pos ⟨h5,h0⟩]
   refine Tr.condT (by simpa using h0) ?_
   (refine Ja ?_;unhygienic intros)
   refine Tr.some fun o=>?_
   exact ⟨rfl,o.sub⟩
 ·rw [if_neg (fun k=>h5 k.1)]
  refine Tr.condF (by simpa using h5) ?_
  refine Tr.some fun o=>?_
  exact ⟨rfl,o.sub⟩
def evI (view:List UInt8) (now:Int) (l:List Am7):Nat→Nat→Int→Bool
 | 0,_,_=>false
 | m+1,i,n=>match l[i]? with
  | none=>false
  | some x=>if x.1=6 then true else evI view now l m (i+(Dt7 x n).toNat+1) (Ds7 view now x n)
theorem Jt2 {x:Am7} {n:Int} (h:okI x n=true):0≤x.2.1∧x.2.1≤65535:=by
 unfold okI at h
 simp only [Bool.and_eq_true,Bool.not_eq_true',Bool.or_eq_false_iff,decide_eq_false_iff_not] at h
 omega
theorem G14 (ro:Bool) (a:Option Addr) (c:Nat) (l:List Am7) (hl:l.length≤32) (hk:Ei2 l) (mb:Nat) (now:Int) (x:Option Addr) (vc:Nat) (view:List UInt8):∀ (m i:Nat) (n steps:Int),l.length≤i+m→i≤100000 →
  CtJ I1 Ay2 Bu9 [(2,.slice a l.length c),(8,P0 mb),(9,int steps),(10,int (i:Int))] [isC ro a c l,mcC mb n x view.length vc now,vwC x vc view] fun v own=>∃ s,v=.tuple ⟨[.bool (evI view now l m i n),int s]⟩∧own [isC ro a c l,vwC x vc view]
 | 0,i,n,steps,hi,h1=>by
  refine CtJ.of Dm3 fun h r=>Tr.eq (Dj1 ..) ?_;refine Je ?_
  refine Tr.condF (by simp;omega) ?_
  refine Tr.some fun o=>?_
  exact ⟨steps,rfl,o.sub⟩
 | m+1,i,n,steps,hi,h1=>by
  by_cases hlt:i<l.length
  case neg =>
   rw [show evI view now l (m+1) i n=false by unfold evI;rw [List.getElem?_eq_none (by omega)]]
   refine CtJ.of Dm3 fun h r=>Tr.eq (Dj1 ..) ?_;refine Je ?_
   refine Tr.condF (by simp;omega) ?_
   refine Tr.some fun o=>?_
   exact ⟨steps,rfl,o.sub⟩
  have hx:l[i]?=some l[i]:=List.getElem?_eq_getElem hlt
  have hp:=Ih7 hx
  have hok:=Jt2 (hk i _ hx)
  generalize l[i]=ins at hx hp hok
  obtain ⟨op,xa,xb⟩:=ins
  simp only at hok
  have hkr:0≤Dt7 (op,xa,xb) n∧Dt7 (op,xa,xb) n≤65535:=by unfold Dt7;split<;>(try simp only)<;>omega
  have hev:evI view now l (m+1) i n=if op=6 then true else evI view now l m (i+(Dt7 (op,xa,xb) n).toNat+1) (Ds7 view now (op,xa,xb) n):=by rw [evI,hx]
  have e1:IntKind.wrap .i64 (IntKind.wrap .i64 ((i:Int)+Dt7 (op,xa,xb) n)+1)=((i+(Dt7 (op,xa,xb) n).toNat+1:Nat):Int):=by rw [B4,B4];omega
  have hc0:(Hb7 l)[i*3+0]?=some (int op):=by
   have h9:=congrArg (fun z=>z[0]?) hp.2.2
   simp only [List.getElem?_take,List.getElem?_drop] at h9
   exact h9
  rw [hev]
  refine CtJ.of Dm3 fun h r=>Tr.eq (Dj1 ..) ?_;refine Je ?_
  refine Tr.condT (by simp;omega) ?_
  (refine Jc ?_;unhygienic intros;repeat(refine Gw ?_;rintro px rfl;refine Jc ?_;unhygienic intros))
  rw [Int.toNat_natCast]
  by_cases h6:op=6
  ·rw [if_pos h6]
   refine Tr.condT (by simpa using h6) ?_
   refine Tr.some fun o=>?_
   exact ⟨_,rfl,o.sub⟩
  rw [if_neg h6]
  refine Tr.condF (by simpa using h6) ?_
  (refine Jc ?_;unhygienic intros)
  refine Tr.xAggS (xs:=Hd0 (op,xa,xb)) hp ?_
  refine Tr.xCall (Jq7 mb n now x vc view op xa xb hok.1) ?_;rintro _ h ⟨rfl,o⟩<;>refine Jh o ?_
  (refine Jc ?_;unhygienic intros)
  rw [e1]
  have ih:=G14 ro (some px) c l hl hk mb now x vc view m (i+(Dt7 (op,xa,xb) n).toNat+1) (Ds7 view now (op,xa,xb) n) (IntKind.wrap .i64 (steps+1)) (by omega) (by omega)
  refine Tr.xRun (ih) ?_;rintro _ h ⟨s,rfl,o⟩
  exact ⟨s,rfl,o.sub⟩
theorem Jg5 (ro:Bool) (a:Option Addr) (c:Nat) (l:List Am7) (hl:l.length≤32) (hk:Ei2 l) (now:Int) (x:Option Addr) (vc:Nat) (view:List UInt8) :
  Ct A7 Ay2 [.slice x view.length vc,int now,.slice a l.length c] [isC ro a c l,vwC x vc view] fun v own=>∃ s,v=.tuple ⟨[.bool (evI view now l l.length 0 0),int s]⟩∧own [isC ro a c l,vwC x vc view]:=by
 refine Ct.of Dm3 rfl fun h r=>Tr.eq (H81 ..) ?_;refine Je ?_
 refine Tr.xCall (Dd7 ro a c l hl hk) ?_;rintro _ h ⟨rfl,o⟩<;>refine Jh o ?_
 (refine Jc ?_;unhygienic intros)
 refine Tr.condF rfl ?_
 refine Tr.nw fun mb h=>?_
 have J:=G14 ro a c l hl hk mb now x vc view l.length 0 0 0 (by omega) (by omega)
 rw [show ((0:Nat):Int)=0 from rfl] at J
 refine Tr.xRun (J) ?_;rintro _ h ⟨s,rfl,o⟩
 exact ⟨s,rfl,o.sub⟩
abbrev Db9 (p w:Int):List Am7:=[(1,p,0),(3,255,0),(7,0,0),(5,1,0),(6,0,0),(1,w,0),(5,1,0),(6,0,0)]
theorem Jj7 (view:List UInt8) (now p w:Int) (hp:0≤byN view p∧byN view p<256):evI view now (Db9 p w) 8 0 0=(decide (byN view p≠0) || decide (byN view w=0)):=by
 have hA:J8 .i64 (byN view p) 255=byN view p:=by rw [D56];omega
 have h1:∀ (k m i:Nat) (n:Int) (x:Am7),(Db9 p w)[i]?=some x→x.1≠6→Dt7 x n=k→evI view now (Db9 p w) (m+1) i n=evI view now (Db9 p w) m (i+k+1) (Ds7 view now x n):=fun k m i n x hx h6 hk=>by
  rw [evI,hx];simp only;rw [if_neg h6,hk,Int.toNat_natCast]
 have h6:∀ (m i:Nat) (n:Int) (x:Am7),(Db9 p w)[i]?=some x→x.1=6→evI view now (Db9 p w) (m+1) i n=true:=fun m i n x hx h6=>by
  rw [evI,hx];simp only;rw [if_pos h6]
 rw [h1 0 7 0 0 (1,p,0) rfl (show (1:Int)≠6 by decide) rfl,show Ds7 view now (1,p,0) 0=byN view p from rfl,
  h1 0 6 1 _ (3,255,0) rfl (by decide) rfl,show Ds7 view now (3,255,0) (byN view p)=J8 .i64 (byN view p) 255 from rfl,hA,
  h1 0 5 2 _ (7,0,0) rfl (by decide) rfl,show Ds7 view now (7,0,0) (byN view p)=(if byN view p=0 then 1 else 0) from rfl]
 by_cases hz:byN view p=0
 ·rw [if_pos hz,h1 1 4 3 1 (5,1,0) rfl (by decide) rfl,show Ds7 view now (5,1,0) 1=1 from rfl,
   h1 0 3 5 1 (1,w,0) rfl (show (1:Int)≠6 by decide) rfl,show Ds7 view now (1,w,0) 1=byN view w from rfl,hz]
  by_cases hw:byN view w=0
  ·rw [hw,h1 0 2 6 0 (5,1,0) rfl (by decide) rfl,h6 _ _ _ (6,0,0) rfl rfl];rfl
  ·rw [h1 1 2 6 _ (5,1,0) rfl (by decide) (by unfold Dt7;rw [if_pos ⟨rfl,hw⟩];rfl)]
   rw [show evI view now (Db9 p w) 2 (6+1+1) (Ds7 view now (5,1,0) (byN view w))=false from rfl]
   simp [hw]
 ·rw [if_neg hz,h1 0 4 3 0 (5,1,0) rfl (by decide) rfl,h6 _ _ _ (6,0,0) rfl rfl]
  simp [hz]
theorem Jt6 {F:Fr} (k:FrOk F) {m:List (List UInt8)} (f:Fit F.S.mem.length F.rg m) (h492:(m.getD 0 []).length=492) :
  W0 (F.at m) F.env ⟨1,F.caps.getD 0 0,0,492,0,0,[]⟩=((0,0,m.getD 0 []),F.at m):=by
 obtain ⟨lo,z,cap,hc,hr,ha,hx,hl,hz,rfl⟩:=D61 k f (r:=⟨5,0⟩) (j:=0) (a:=488) (n:=4) rfl
 obtain rfl:z=492:=by omega
 have hp:=k.pl 0 _ lo 492 hc hr 0 492 1 (.inl rfl) (by omega)
 have lp:=B43 f
 have hs:slice (m.getD 0 []) 0 492=m.getD 0 []:=by unfold slice;rw [List.drop_zero,List.take_of_length_le (by omega)]
 have hb:Da4 (V4 F.S.mem F.rg m) ((lo+0:Nat):Int) ((492:Nat):Int)=some (m.getD 0 []):=by
  unfold Da4
  rw [if_pos (by rw [lp];omega),Int.toNat_natCast,Int.toNat_natCast]
  have:=Gy5 f k.dj hr hx (show 0+492≤492 by omega)
  rw [hs] at this
  rw [← this];rfl
 have e:Ao9 (F.at m).tabs (F.at m).regs (F.at m).mem F.env (F.caps.getD 0 0) 0 492=(m.getD 0 [],0):=by
  unfold Ao9
  rw [show S8 (F.at m).tabs (F.at m).regs F.env (F.caps.getD 0 0) 1 0 492=(((lo+0:Nat):Int),0) from hp]
  rw [if_neg (by simp),show Da4 (F.at m).mem (((lo+0:Nat):Int),(0:Int)).1 492=some (m.getD 0 []) from hb]
 unfold W0
 rw [if_neg (show ¬ (F.env<0∨F.env≥((F.at m).envs.length:Int)) from k.env)]
 unfold kDo
 rw [if_pos rfl,e]
theorem Jg3 (c k:Nat) (F:Fr) (X:CX) (ok:FrOk F) (h492:(X.m.getD 0 []).length=492):Ct A7 Ap4 [P0 c] [cmC c k F X] fun v own=>∃ x d,v=.slice x (X.m.getD 0 []).length d∧own [vwC x d (X.m.getD 0 []),cmC c k F X]:=by
 refine Ct.of Ei3 rfl fun h r=>Tr.eq (Ei9 ..) ?_;refine Je ?_
 refine B1 (cmC c k F X) fun u=>?_;refine Je ?_
 refine O5 2 rfl fun f=>?_
 refine B1 (W3 c k F.env F.caps X.bad) fun ⟨ca,cn,mb⟩=>?_;refine Je ?_
 have hne:=ok.ne
 have hcc:F.caps[0]?=some (F.caps.getD 0 0):=by rw [List.getD_eq_getElem?_getD,List.getElem?_eq_getElem hne];rfl
 have hg:(F.caps.map int)[0]?=some (int (F.caps.getD 0 0)):=by rw [List.getElem?_map,hcc];rfl
 have hk:(0:Int)≤0∧0<(F.caps.length:Int):=⟨Int.le_refl _,by omega⟩
 (refine Ja ?_;unhygienic intros;repeat(refine Gw ?_;rintro px rfl;refine Ja ?_;unhygienic intros))
 refine A9 (W3 c k F.env F.caps X.bad) ⟨some px,cn,mb⟩ ?_;refine Je ?_
 have J:=Gh0 k (F.at X.m) F.N (F.at_ok ok f) ok.hN F.env 1 (F.caps.getD 0 0) 0 492 0 0 (by decide)
 rw [Jt6 ok f h492] at J
 refine Tr.xCall (J) ?_;rintro _ h ⟨y,d,rfl,o⟩<;>(refine Jf o ?_;unhygienic intros)
 (refine Jc ?_;unhygienic intros)
 refine A9 (cmC c k F X) () ?_;refine Je ?_
 refine Tr.some fun o=>?_
 exact ⟨y,d,rfl,o.sub⟩
theorem Jn8 {X:CX} {V:VW} (A:See X V) {pi:Int} (hpi:0≤pi∧pi<4) {q:PipeS} (hq:V.P pi=(q,1)):byN (X.m.getD 0 []) (288+40*pi+2)=q.count∧byN (X.m.getD 0 []) (288+40*pi+4)=q.writers:=by
 have e:U6 (rd X ⟨3,pi⟩)=(q,1):=(A.p pi (by omega)).trans hq
 have hl:=A.c.len
 have h492:=A.c.own
 have hr:rd X ⟨3,pi⟩=slice (X.m.getD 0 []) (288+40*pi.toNat) 40:=by
  unfold rd
  rw [hl,show I8 3 ⟨3,pi⟩=some (0,288+40*pi.toNat,40) by unfold I8 Y7;simp only;rw [if_neg (by simp;omega),if_neg (by decide),if_neg (by decide),if_pos trivial,if_pos hpi.2]]
 have hg:Bf9 (rd X ⟨3,pi⟩)=q:=by
  unfold U6 at e
  split at e
  ·cases e
  ·split at e
   ·exact congrArg Prod.fst e
   ·cases e
 have at_:∀ j:Nat,j<40→byN (X.m.getD 0 []) (288+40*pi+j)=byI (rd X ⟨3,pi⟩) j:=fun j hj=>by
  unfold byN byI
  rw [if_pos (by omega),hr]
  unfold slice
  rw [show (288+40*pi+(j:Int)).toNat=288+40*pi.toNat+j by omega]
  simp only [List.getD_eq_getElem?_getD,List.getElem?_take,List.getElem?_drop]
  rw [if_pos hj]
 exact ⟨(at_ 2 (by omega)).trans (by rw [← hg];rfl),(at_ 4 (by omega)).trans (by rw [← hg];rfl)⟩
theorem H55 {p w:Int} (hp:0≤p∧p≤65535) (hw:0≤w∧w≤65535):Ei2 (Db9 p w)∧Ei2 (Ja4 p 255)∧Ei2 (cc3 (1,w,0) (5,1,0) (6,0,0)):=by
 refine ⟨fun i x hx=>?_,fun i x hx=>?_,fun i x hx=>?_⟩
 all_goals
  have hlt:=(List.getElem?_eq_some_iff.1 hx).1
  simp only [List.length_cons,List.length_nil,Nat.zero_add,Nat.reduceAdd] at hlt ⊢
 ·obtain rfl|rfl|rfl|rfl|rfl|rfl|rfl|rfl:i=0∨i=1∨i=2∨i=3∨i=4∨i=5∨i=6∨i=7:=by omega
  all_goals (cases hx;unfold okI;simp;try omega)
 ·obtain rfl|rfl|rfl|rfl|rfl:i=0∨i=1∨i=2∨i=3∨i=4:=by omega
  all_goals (cases hx;unfold okI;simp;try omega)
 ·obtain rfl|rfl|rfl:i=0∨i=1∨i=2:=by omega
  all_goals (cases hx;unfold okI;simp;try omega)
theorem Ji7 (c k:Nat) (F:Fr) (X:CX) (ok:FrOk F) {V:VW} (A:See X V) {i:Int} (hi:0≤i∧i<8) (fd b:Int) (da:Option Addr) (dn dc:Nat) {f pi refs nw:Int} (ho:ofW V i fd=((f,⟨1,pi,refs,nw⟩),0)) (hpi:0≤pi∧pi<4) :
  Ct A7 De5 [P0 c,int i,.agg ⟨[int 10,int fd,int b,.slice da dn dc]⟩] [cmC c k F X] fun v own=>∃ x,v=.slice x 8 8∧own [cmC c k F X,isC false x 8 (Db9 (288+40*pi+2) (288+40*pi+4))]:=by
 have eo:=A.ofv hi fd
 have e1:IntKind.wrap .i64 (IntKind.wrap .i64 (288+IntKind.wrap .i64 (40*pi))+2)=288+40*pi+2:=by simp only [B4];omega
 have e2:IntKind.wrap .i64 (IntKind.wrap .i64 (288+IntKind.wrap .i64 (40*pi))+4)=288+40*pi+4:=by simp only [B4];omega
 refine Ct.of Hq8 rfl fun h r=>Tr.eq (Hz6 ..) ?_;refine Je ?_
 refine Tr.nw fun b1 h=>?_
 refine Tr.xCall (A37 c k F X ok) ?_;rintro _ h ⟨rfl,o⟩<;>refine Jh o ?_
 rw [Af8 A.c]
 (refine Jc ?_;unhygienic intros)
 refine Tr.nw fun b2 h=>?_
 (refine Jc ?_;unhygienic intros)
 refine Tr.condF rfl ?_
 (refine Jc ?_;unhygienic intros)
 refine Tr.xCall (Is7 c k F X ok A.c i fd hi) ?_;rintro _ h ⟨rfl,o⟩<;>refine Jh o ?_
 rw [eo,ho]
 dsimp only
 (refine Jc ?_;unhygienic intros)
 refine Tr.nw fun b3 h=>?_
 (refine Jb ?_;unhygienic intros)
 obtain ⟨k1,k2,k3⟩:=H55 (p:=288+40*pi+2) (w:=288+40*pi+4) (by omega) (by omega)
 refine Tr.bnd (Tr.condT rfl ?_)
 (refine Jb ?_;unhygienic intros)
 refine Tr.some fun o=>(?_:Tr _ _ _ _) o;refine Je ?_
 refine Tr.condF rfl ?_
 refine Tr.bnd (Tr.condF rfl ?_)
 (refine Jb ?_;unhygienic intros)
 refine Tr.some fun o=>(?_:Tr _ _ _ _) o;refine Je ?_
 refine Tr.bnd (Tr.condF rfl ?_)
 (refine Jb ?_;unhygienic intros)
 refine Tr.some fun o=>(?_:Tr _ _ _ _) o;refine Je ?_
 refine Tr.condF (decide_eq_false (by omega)) ?_
 (refine Jb ?_;unhygienic intros)
 rw [e1,e2]
 refine Tr.xCall (Iq4 (288+40*pi+2) 255 (by omega) (by omega)) ?_;rintro _ h ⟨x,rfl,o⟩<;>refine Jh o ?_
 (refine Jc ?_;unhygienic intros)
 refine Tr.nw fun b4 h=>?_
 (refine Jc ?_;unhygienic intros)
 refine Ah3 0 rfl 3 3 rfl (by omega) ?_
 refine (?_:Tr (isC false (some ⟨b4,0,none⟩) 3 (cc3 (1,288+40*pi+4,0) (5,1,0) (6,0,0))::_) _ _ _)
 refine Tr.xCall (Iy7 (1,288+40*pi+2,0) (3,255,0) (7,0,0) (5,1,0) (6,0,0) (1,288+40*pi+4,0) (5,1,0) (6,0,0) k2 k3 k1 x (some ⟨b4,0,none⟩)) ?_;rintro _ h ⟨y,rfl,o⟩<;>refine Jh o ?_
 (refine Jc ?_;unhygienic intros)
 refine Tr.some fun o=>?_
 exact ⟨y,rfl,o.sub⟩
def G01 (V:VW) (q:Int→ProcS→Bool):Nat→Int→List (Int × ProcS)
 | 0,_=>[]
 | m+1,i=>if (V.S i).2=1∧q i (V.S i).1=true then (i,(V.S i).1)::G01 V q m (i+1) else G01 V q m (i+1)
theorem See.slots {X V} (A:See X V) (q:Int→ProcS→Bool):∀ (m:Nat) (i:Int),0≤i→i+m≤8→G67 X q m i=G01 V q m i
 | 0,_,_,_=>rfl
 | m+1,i,h0,hm=>by rw [G67,G01,A.slots q m (i+1) (by omega) (by omega),A.s i (by omega)]
abbrev Hy9 (n:Int):Int:=2 ^ n.toNat
end Go.EQ

set_option maxRecDepth 10000
namespace Go.EQ
open Go Go.NN Go.Proofs
def Jt8:List Int:=[0,1,56,2,57,49,28,3,61,58,42,50,38,29,17,4,62,47,59,36,45,43,51,22,53,39,33,30,24,18,12,5,63,55,48,27,60,41,37,16,46,35,44,21,52,32,23,11,54,26,40,15,34,20,31,10,25,14,19,9,13,8,7,6]
structure SigT (n:Int):Prop where
 rng:n=1∨n=2∨n=3∨n=4∨n=5∨n=6∨n=7∨n=8∨n=14∨n=15
theorem SigT.b {n:Int} (s:SigT n):IntKind.wrap .u64 (Hy9 n)=Hy9 n∧J8 .i64 (Hy9 n) 512=0∧Hy9 n≠0:=by
 obtain ⟨rfl|rfl|rfl|rfl|rfl|rfl|rfl|rfl|rfl|rfl⟩:=s
 all_goals exact ⟨by decide,by decide,by decide⟩
abbrev Gj1 (p:ProcS):Int:=J8 .i64 (Bx3 .i64 p.pending p.mask) 65534
theorem I66 (p:ProcS) (h0:p.state≠1∨Gj1 p=0):Ct A7 A40 [.agg ⟨D7 p⟩] [] fun v own=>v=.tuple ⟨[int 0,int 0]⟩∧own []:=by
 refine Ct.of G13 rfl fun h r=>Tr.eq (G32 ..) ?_;refine Je ?_
 refine Tr.nw fun b h=>?_
 (refine Jb ?_;unhygienic intros)
 by_cases h1:p.state=1
 ·have h2:J8 .i64 (Bx3 .i64 p.pending p.mask) 65534=0:=h0.resolve_left (by simpa using h1)
  rw [h2]
  refine Tr.bnd (Tr.condF (by simpa using h1) ?_)
  refine Tr.some fun o=>(?_:Tr _ _ _ _) o;refine Je ?_
  refine Tr.condT rfl ?_
  refine Tr.some fun o=>?_
  exact ⟨rfl,o.sub⟩
 ·refine Tr.bnd (Tr.condT (by simpa using h1) ?_)
  refine Tr.some fun o=>(?_:Tr _ _ _ _) o;refine Je ?_
  refine Tr.condT rfl ?_
  refine Tr.some fun o=>?_
  exact ⟨rfl,o.sub⟩
end Go.EQ

set_option maxRecDepth 10000
namespace Go.EQ
open Go Go.NN Go.Proofs
section
variable (p:ProcS) {n:Int} (s:SigT n) (h1:p.state=1) (ho:Gj1 p=Hy9 n)
include s h1 ho
end
end Go.EQ

set_option maxRecDepth 10000
namespace Go.EQ
open Go Go.NN Go.Proofs
section
variable {S:KS} (B:Base S)
include B
end
end Go.EQ

set_option maxRecDepth 10000
namespace Go.EQ
open Go Go.NN Go.Proofs
section
variable {S:KS} (B:Base S) (q k N:Nat) {j:Int} (hj:0≤j∧j<4) (y:HoS) (T:SectS) (t:Int) (ok:TOk N T t) {X:CX} {V:VW} (A:See X V) {p:ProcS} (hv:V.S j=(p,1))
include B hj ok A hv
end
theorem Iv3 (p:ProcS) (h0:p.state≠1∨Gj1 p=0):Ct A7 Dn8 [.agg ⟨D7 p⟩] [] fun v own=>v=.bool false∧own []:=by
 refine Ct.of Ic6 rfl fun h r=>Tr.eq (H92 ..) ?_;refine Je ?_
 refine Tr.nw fun b h=>?_
 (refine Jc ?_;unhygienic intros)
 refine Tr.xCall (I66 p h0) ?_;rintro _ h ⟨rfl,o⟩<;>refine Jh o ?_
 (refine Jc ?_;unhygienic intros)
 refine Tr.some fun o=>?_
 exact ⟨rfl,o.sub⟩
theorem Jk9 (c k:Nat) (F:Fr) (X:CX):Ct A7 A62 [P0 k] [cmC c k F X] fun v own=>v=int F.S.now∧own [cmC c k F X]:=by
 intro h r o
 obtain ⟨u,o1⟩:=Own.unfold (cmC c k F X) o
 have e:=Jj3 k (F.at X.m) h _ (o1.picks [0] rfl)
 exact ⟨_,h,e,rfl,o⟩
abbrev Gs1 (q:PipeS):Bool:=decide (q.count≠0) || decide (q.writers=0)
section
variable {S:KS} (B:Base S) (q k N:Nat) {j:Int} (hj:0≤j∧j<4) (y:HoS) (T:SectS) (t:Int) (ok:TOk N T t) {X:CX} {V:VW} (A:See X V) {p:ProcS}
include B hj ok A
theorem Jm3 (h0:p.state≠1∨Gj1 p=0) (h10:y.op=10) {f pi refs nw:Int} (ho:ofW V j y.a=((f,⟨1,pi,refs,nw⟩),0)) (hpi:0≤pi∧pi<4) {qp:PipeS} (hq:V.P pi=(qp,1)) :
  Ct A7 A17 [P0 q,.agg ⟨D7 p⟩] [hoC q k j y,kmC S k T t X.m] fun v own=>v=Er5∧own [hoC q k j { y with phase:=if Gs1 qp then 1 else y.phase },kmC S k T t X.m]:=by
 have fo:=Bk8 B ok (Ek0 hj)
 obtain ⟨w1,w2⟩:=Jn8 A hpi hq
 obtain ⟨k1,k2,k3⟩:=H55 (p:=288+40*pi+2) (w:=288+40*pi+4) (by omega) (by omega)
 have h492:=A.c.own
 have hcnt:0≤qp.count∧qp.count≤255:=by
  have e:=A.p pi (by omega)
  rcases G57 A.c (i:=pi) (by omega) with ⟨h1,_⟩|⟨_,h1⟩
  ·rw [e,hq] at h1;cases h1
  ·rw [e,hq] at h1
   have:=(Ao7 (p:=qp) h1).2.1
   omega
 have hev:=Jj7 (X.m.getD 0 []) t (288+40*pi+2) (288+40*pi+4) (by rw [w1];omega)
 rw [w1,w2] at hev
 obtain ⟨yc,yph,yst,yop,ya,yb,yd⟩:=y
 simp only at h10 ho ⊢
 subst h10
 refine Ct.of E47 rfl fun h r=>Tr.eq (E46 ..) ?_;refine Je ?_
 refine Tr.nw fun b1 h=>?_
 refine Tr.nw fun b2 h=>?_
 (refine Jc ?_;unhygienic intros)
 refine Tr.xCall (Iv3 p h0) ?_;rintro _ h ⟨rfl,o⟩<;>refine Jh o ?_
 (refine Jc ?_;unhygienic intros)
 refine B1 (hoC q k j ⟨yc,yph,yst,10,ya,yb,yd⟩) fun ⟨ha,hc⟩=>?_;refine Je ?_
 (refine Jc ?_;unhygienic intros)
 refine Do1 S yc k N T t j X.m ?_
 rw [A.eX]
 refine Tr.xCall (Jg3 yc k (frH S T t N j) X fo h492) ?_;rintro _ h ⟨x,d,rfl,o⟩<;>refine Jh o ?_
 (refine Jc ?_;unhygienic intros)
 simp only [List.take_succ_cons,List.take_zero,List.drop_succ_cons,List.drop_zero]
 (refine Jc ?_;unhygienic intros)
 refine Tr.xCall (Jk9 yc k (frH S T t N j) X) ?_;rintro _ h ⟨rfl,o⟩<;>refine Jh o ?_
 (refine Jc ?_;unhygienic intros)
 simp only [List.take_succ_cons,List.take_zero,List.drop_succ_cons,List.drop_zero]
 (refine Jc ?_;unhygienic intros)
 refine Tr.xCall (Ji7 yc k (frH S T t N j) X fo A (by omega) ya yb ha yd.length hc ho hpi) ?_;rintro _ h ⟨z,rfl,o⟩<;>refine Jh o ?_
 (refine Jc ?_;unhygienic intros)
 refine Tr.xCall (Jg5 false z 8 (Db9 (288+40*pi+2) (288+40*pi+4)) (by simp) k1 (frH S T t N j).S.now x d (X.m.getD 0 [])) ?_;rintro _ h ⟨s,rfl,o⟩<;>refine Jh o ?_
 rw [show (Db9 (288+40*pi+2) (288+40*pi+4)).length=8 from rfl,show (frH S T t N j).S.now=t from rfl,hev,show (decide (qp.count≠0) || decide (qp.writers=0))=Gs1 qp from rfl]
 refine Df4 S yc k N T t j X A.c.bad ?_
 (refine Jc ?_;unhygienic intros)
 cases Gs1 qp with
 | true =>
  rw [if_pos rfl]
  (refine Jc ?_;unhygienic intros)
  simp only [List.set_cons_zero,List.set_cons_succ]
  refine A9 (hoC q k j ⟨yc,1,yst,10,ya,yb,yd⟩) (ha,hc) ?_;refine Je ?_
  refine Tr.some fun o=>?_
  exact ⟨rfl,o.sub⟩
 | false =>
  rw [if_neg (by simp)]
  (refine Jc ?_;unhygienic intros)
  refine A9 (hoC q k j ⟨yc,yph,yst,10,ya,yb,yd⟩) (ha,hc) ?_;refine Je ?_
  refine Tr.some fun o=>?_
  exact ⟨rfl,o.sub⟩
end
section
variable {S:KS} (B:Base S) (q k N:Nat) {j:Int} (hj:0≤j∧j<4) (y:HoS) (T:SectS) (t:Int) (ok:TOk N T t) {X:CX} {V:VW} (A:See X V) {p:ProcS} (hv:V.S j=(p,1))
include B hj ok A hv
theorem Hj3 (hs:p.state=1) (hn:Gj1 p=0) (h0:y.phase=3) (h10:y.op=10) {f pi refs nw:Int} (ho:ofW V j y.a=((f,⟨1,pi,refs,nw⟩),0)) (hpi:0≤pi∧pi<4) {qp:PipeS} (hq:V.P pi=(qp,1)) :
  Ct A7 J7 [P0 q] [hoC q k j y,kmC S k T t X.m] fun v own=>v=Er5∧own [hoC q k j { y with phase:=if Gs1 qp then 1 else 3 },kmC S k T t X.m]:=by
 have J:=Jm3 B q k N hj y T t ok A (p:=p) (.inr hn) h10 ho hpi hq
 rw [h0] at J
 have fo:=Bk8 B ok (Ek0 hj)
 have e0:=A.s j (by omega)
 rw [hv] at e0
 refine Ct.of Bf0 rfl fun h r=>Tr.eq (Bi6 ..) ?_;refine Je ?_
 refine Tr.nw fun b1 h=>?_
 refine B1 (hoC q k j y) fun ⟨ha,hc⟩=>?_;refine Je ?_
 (refine Jc ?_;unhygienic intros)
 refine Do1 S y.c k N T t j X.m ?_
 rw [A.eX]
 refine Tr.xCall (A37 y.c k (frH S T t N j) X fo) ?_;rintro _ h ⟨rfl,o⟩<;>refine Jh o ?_
 rw [Af8 A.c]
 (refine Jc ?_;unhygienic intros)
 refine Tr.nw fun b2 h=>?_
 refine Tr.xCall (A84 y.c k (frH S T t N j) X fo j) ?_;rintro _ h ⟨rfl,o⟩<;>refine Jh o ?_
 rw [Aj4 A.c (by omega),e0]
 dsimp only
 (refine Jc ?_;unhygienic intros)
 refine Tr.condF rfl ?_
 refine Tr.bnd (Tr.condF rfl ?_)
 (refine Jb ?_;unhygienic intros)
 refine Tr.some fun o=>(?_:Tr _ _ _ _) o;refine Je ?_
 rw [hs]
 refine Tr.condF rfl ?_
 (refine Jb ?_;unhygienic intros)
 rw [hs]
 refine Tr.condF rfl ?_
 (refine Jb ?_;unhygienic intros)
 rw [h0]
 refine Df4 S y.c k N T t j X A.c.bad ?_
 refine A9 (hoC q k j y) (ha,hc) ?_;refine Je ?_
 refine Tr.condF rfl ?_
 refine Tr.condF rfl ?_
 refine Tr.condT rfl ?_
 (refine Jc ?_;unhygienic intros)
 refine Tr.xCall (J) ?_;rintro _ h ⟨rfl,o⟩<;>refine Jh o ?_
 (refine Jc ?_;unhygienic intros)
 refine Tr.some fun o=>?_
 exact ⟨rfl,o.sub⟩
end
section
variable {S:KS} (B:Base S) (hb k N:Nat) (a:Option Addr) (ac:Nat) (Q:List Nat) (i q:Nat) (hi:i<4) (hq:Q[i]?=some q) (y:HoS) (T:SectS) (t:Int) (ok:TOk N T t) (hN:N+4<1000000000) {X:CX} {V V':VW} (A:See X V) {p p':ProcS} (hp:Qt V i p)
include B hi hq ok hN A hp
theorem I46 (h0:y.phase=0) (pb:HP) (da:Option Addr) (ro:Bool) (dc:Nat) (d:List UInt8) (hd:d.length≤A8) [ks:IsSl pb da ro A5 1 d.length dc (A0 d)] (op sa sb:Int) (h3:op≠3) (st:Int) (hst:(B3 T i t).1.1=st) (h1:st>0) (hh:V0 (B3 T i t).2 i st=true) (hp':Qt V' i p') {n e:Int} {bs:List UInt8}
  (hJ:∀ (F:Fr) (X:CX),FrOk F→See X V→DoJ y.c k F X V' (i:Nat) op sa sb d n e bs false) :
  Ct A7 D2 [int (i:Nat),.agg ⟨[int op,int sa,int sb,.slice da d.length dc]⟩,P0 hb] [pt hb (.cells O9 false [.slice a 4 ac]),slC false I7 1 a 4 ac (Q.map P0),hoC q k (i:Nat) y,kmC S k T t X.m,pb] fun v own=>∃ ea ec x cap X',See X' V'∧v=.tuple ⟨[.agg ⟨Et7 0 (i:Nat) op sa sb ea d.length ec n e x bs.length cap true⟩,.bool true]⟩ ∧
   own [pt hb (.cells O9 false [.slice a 4 ac]),slC false I7 1 a 4 ac (Q.map P0),hoC q k (i:Nat) ⟨y.c,0,st,op,sa,sb,d⟩,kmC S k (D9 (B3 T i t).2 i st) t X'.m,dC x cap bs,pb]:=by
 have hlt:=(List.getElem?_eq_some_iff.1 hq).1
 have hg:(Q.map P0)[((i:Nat):Int).toNat]?=some (.pointer (some ⟨q,0,none⟩)):=by rw [Int.toNat_natCast,List.getElem?_map,hq];rfl
 have ok2:=ok.enter hN i
 have hj:0≤(i:Int)∧(i:Int)<4:=by omega
 refine Ct.of Dh7 rfl fun h r=>Tr.eq (Dh4 ..) ?_;refine Je ?_
 refine Tr.nw fun b1 h=>?_
 refine Tr.nw fun b2 h=>?_
 (refine Ja ?_;unhygienic intros;repeat(refine Gw ?_;rintro px rfl;refine Ja ?_;unhygienic intros))
 refine Tr.xCall (Ga0 B q k N hj y T t ok A hp h0 op sa sb pb da ro dc d hd) ?_;rintro _ h ⟨rfl,o⟩<;>refine Jh o ?_
 (refine Jc ?_;unhygienic intros)
 refine Tr.xCall (Ee4 B q k N hj { y with phase:=1,op:=op,a:=sa,b:=sb,d:=d } T t ok A hp rfl) ?_;rintro _ h ⟨rfl,o⟩<;>refine Jh o ?_
 rw [hst,show Eu0 { y with phase:=1,op:=op,a:=sa,b:=sb,d:=d } st=⟨y.c,2,st,op,sa,sb,d⟩ from if_pos h1]
 (refine Jc ?_;unhygienic intros)
 refine Tr.xCall (Es1 B q k (N+2) hj ⟨y.c,2,st,op,sa,sb,d⟩ (B3 T i t).2 t ok2 A hp rfl hh (hJ _ _ (Bk8 B ok2 (Ek0 hj)) A) h3 (ok2.leave i st) hp') ?_;rintro _ h ⟨ea,ec,x,cap,X',A',rfl,o⟩<;>refine Jh o ?_
 (refine Jc ?_;unhygienic intros)
 refine Tr.some fun o=>?_
 exact ⟨ea,ec,x,cap,X',A',rfl,o.sub⟩
theorem Jl2 (h0:y.phase=0) (pb:HP) (da:Option Addr) (ro:Bool) (dc:Nat) (d:List UInt8) (hd:d.length≤A8) [ks:IsSl pb da ro A5 1 d.length dc (A0 d)] (op sa sb:Int) (h3:op≠3) (st:Int) (hst:(B3 T i t).1.1=st) (h1:st>0) (hh:V0 (B3 T i t).2 i st=true) {n e:Int} {bs:List UInt8}
  (hJ:∀ (F:Fr) (X:CX),FrOk F→See X V→DoJ y.c k F X V' (i:Nat) op sa sb d n e bs true) :
  Ct A7 D2 [int (i:Nat),.agg ⟨[int op,int sa,int sb,.slice da d.length dc]⟩,P0 hb] [pt hb (.cells O9 false [.slice a 4 ac]),slC false I7 1 a 4 ac (Q.map P0),hoC q k (i:Nat) y,kmC S k T t X.m,pb] fun v own=>∃ X',See X' V'∧v=Er5 ∧
   own [pt hb (.cells O9 false [.slice a 4 ac]),slC false I7 1 a 4 ac (Q.map P0),hoC q k (i:Nat) ⟨y.c,3,st,op,sa,sb,d⟩,kmC S k (D9 (B3 T i t).2 i st) t X'.m,pb]:=by
 have hlt:=(List.getElem?_eq_some_iff.1 hq).1
 have hg:(Q.map P0)[((i:Nat):Int).toNat]?=some (.pointer (some ⟨q,0,none⟩)):=by rw [Int.toNat_natCast,List.getElem?_map,hq];rfl
 have ok2:=ok.enter hN i
 have hj:0≤(i:Int)∧(i:Int)<4:=by omega
 refine Ct.of Dh7 rfl fun h r=>Tr.eq (Dh4 ..) ?_;refine Je ?_
 refine Tr.nw fun b1 h=>?_
 refine Tr.nw fun b2 h=>?_
 (refine Ja ?_;unhygienic intros;repeat(refine Gw ?_;rintro px rfl;refine Ja ?_;unhygienic intros))
 refine Tr.xCall (Ga0 B q k N hj y T t ok A hp h0 op sa sb pb da ro dc d hd) ?_;rintro _ h ⟨rfl,o⟩<;>refine Jh o ?_
 (refine Jc ?_;unhygienic intros)
 refine Tr.xCall (Ee4 B q k N hj { y with phase:=1,op:=op,a:=sa,b:=sb,d:=d } T t ok A hp rfl) ?_;rintro _ h ⟨rfl,o⟩<;>refine Jh o ?_
 rw [hst,show Eu0 { y with phase:=1,op:=op,a:=sa,b:=sb,d:=d } st=⟨y.c,2,st,op,sa,sb,d⟩ from if_pos h1]
 (refine Jc ?_;unhygienic intros)
 refine Tr.xCall (Io9 B q k (N+2) hj ⟨y.c,2,st,op,sa,sb,d⟩ (B3 T i t).2 t ok2 A hp rfl hh (hJ _ _ (Bk8 B ok2 (Ek0 hj)) A)) ?_;rintro _ h ⟨X',A',rfl,o⟩<;>refine Jh o ?_
 (refine Jc ?_;unhygienic intros)
 refine Tr.some fun o=>?_
 exact ⟨X',A',rfl,o.sub⟩
end
def cnt (v:Int):List Int→Int
 | []=>0
 | x::l=>(if x=v then 1 else 0)+cnt v l
theorem Hb8 (v:Int):∀ l:List Int,0≤cnt v l∧cnt v l≤l.length
 | []=>by simp [cnt]
 | x::l=>by
  have:=Hb8 v l
  unfold cnt;rw [List.length_cons];split<;>omega
theorem Ig8 (v:Int):∀ (l:List Int) (j:Nat),j<l.length→l.getD j 0=v→1≤cnt v l
 | [],j,h,_=>by simp at h
 | x::l,0,_,e=>by
  have:=Hb8 v l
  rw [List.getD_cons_zero] at e
  unfold cnt;rw [if_pos e];omega
 | x::l,j+1,h,e=>by
  rw [List.getD_cons_succ] at e
  have:=Ig8 v l j (by simpa using h) e
  unfold cnt;split<;>omega
theorem Ih5 (v w:Int):∀ (l:List Int) (j:Nat),j<l.length→cnt v (l.set j w)=cnt v l-(if l.getD j 0=v then 1 else 0)+(if w=v then 1 else 0)
 | [],j,h=>by simp at h
 | x::l,0,_=>by
  rw [List.set_cons_zero,List.getD_cons_zero,cnt,cnt];omega
 | x::l,j+1,h=>by
  have:=Ih5 v w l j (by simpa using h)
  rw [List.set_cons_succ,List.getD_cons_succ,cnt,cnt,this];omega
theorem I15 (l:List Int) (j n:Nat) (w:Int) (h:j<l.length):(l.set j w).getD n 0=if n=j then w else l.getD n 0:=by
 rw [List.getD_eq_getElem?_getD,List.getD_eq_getElem?_getD,List.getElem?_set]
 by_cases hj:j=n
 ·subst hj;simp [h]
 ·rw [if_neg hj,if_neg (fun e=>hj e.symm)]
structure Own8 (ow:List Int) (r:Int→Int):Prop where
 len:ow.length=8
 rng:∀ j:Nat,0≤ow.getD j 0∧ow.getD j 0≤3
 ct:∀ v:Int,1≤v→v≤3→r v=cnt v ow
theorem Own8.pos {ow:List Int} {r:Int→Int} (I:Own8 ow r) {j:Nat} (hj:j<8) (h:ow.getD j 0>0):1≤r (ow.getD j 0):=by
 rw [I.ct _ (by omega) (I.rng j).2];exact Ig8 _ _ j (by rw [I.len];exact hj) rfl
theorem Own8.nn {ow:List Int} {r:Int→Int} (I:Own8 ow r) {v:Int} (h:1≤v∧v≤3):0≤r v∧r v≤8:=by
 rw [I.ct v h.1 h.2];have:=Hb8 v ow;have:=I.len;omega
theorem Own8.set {ow:List Int} {r:Int→Int} (I:Own8 ow r) {j:Nat} (hj:j<8) {w:Int} (hw:0≤w∧w≤3) {r':Int→Int} (hr:∀ v:Int,1≤v→v≤3→r' v=r v-(if ow.getD j 0=v then 1 else 0)+(if w=v then 1 else 0)):Own8 (ow.set j w) r':=by
 refine ⟨by rw [List.length_set];exact I.len,fun n=>?_,fun v h1 h2=>?_⟩
 ·rw [I15 _ _ _ _ (by rw [I.len];exact hj)]
  split
  ·exact hw
  ·exact I.rng n
 ·rw [hr v h1 h2,Ih5 _ _ _ _ (by rw [I.len];exact hj),I.ct v h1 h2]
section
variable {ow:List Int} {h:ow.length=8} {r:Int→Int} (I:Own8 ow r)
include I
def r2 (r:Int→Int) (w v:Int):Int→Int:=rr (if w>0 then rr r w (-1) else r) v 1
end
theorem Ep1 (V:VW) (j:Int) (q:PipeS) (i fd:Int):ofW (wP V j q) i fd=ofW V i fd:=rfl
theorem Iq0 (V:VW) (j:Int) (q:PipeS):(wP V j q).P j=(q,1):=by
 show (if j=j then (q,(1:Int)) else V.P j)=_
 rw [if_pos rfl]
theorem Je1 (V:VW) (j:Int) (q q':PipeS):wP (wP V j q) j q'=wP V j q':=by
 refine VW.ext' (fun _=>rfl) (fun _=>rfl) fun n=>?_
 show (if n=j then _ else if n=j then _ else _)=if n=j then _ else _
 by_cases h:n=j
 ·rw [if_pos h,if_pos h]
 ·rw [if_neg h,if_neg h,if_neg h]
theorem G94 {V:VW} {j:Int} {q:PipeS} (h:V.P j=(q,1)):wP V j q=V:=by
 refine VW.ext' (fun _=>rfl) (fun _=>rfl) fun n=>?_
 show (if n=j then _ else _)=_
 by_cases hn:n=j
 ·rw [if_pos hn,hn,h]
 ·rw [if_neg hn]
section
variable {V:VW} {i fd f r fl j:Int} {q:PipeS}
theorem Jr1 (ho:ofW V i fd=((f,⟨2,j,r,fl⟩),0)) (l:List UInt8) (hl:l.length≤32):D46 (wP V j q) i fd l=if l.length=0 then (⟨0,0,false⟩,wP V j q) else if 32-q.count=0∨l.length≤8∧32-q.count<l.length then (if fl=1 then (⟨0,111,false⟩,wP V j q) else (⟨0,0,true⟩,wP V j q)) else (⟨(N9 q l).2,0,false⟩,wP V j (N9 q l).1):=by
 unfold D46
 rw [Ep1,ho]
 dsimp only
 rw [Iq0]
 rw [if_neg (by simp),if_neg (by simp),if_neg (by omega)]
 by_cases h0:l.length=0
 ·rw [if_pos h0,if_pos h0]
 ·rw [if_neg h0,if_neg h0,if_neg (by simp),Je1]
theorem Jk3 (ho:ofW V i fd=((f,⟨1,j,r,fl⟩),0)) {n:Int} (hn:0≤n∧n≤32):Ac1 (wP V j q) i fd n=(⟨1,j,r,fl⟩,0):=by
 unfold Ac1
 rw [Ep1,ho]
 dsimp only
 rw [if_neg (by simp),if_neg (by simp),if_neg (by omega)]
theorem H05 (ho:ofW V i fd=((f,⟨1,j,r,fl⟩),0)) {n:Int} (hn:0≤n∧n≤32):B11 (wP V j q) i fd n=if n=0 then (⟨[],0,false⟩,wP V j q) else if q.count=0 then (if q.writers=0 then (⟨[],0,false⟩,wP V j q) else if fl=1 then (⟨[],111,false⟩,wP V j q) else (⟨[],0,true⟩,wP V j q)) else (⟨(Q3 q).take (min n.toNat q.count.toNat),0,false⟩,wP V j (Bh4 q (min n.toNat q.count.toNat))):=by
 unfold B11
 rw [Jk3 ho hn]
 dsimp only
 rw [Iq0]
 by_cases h0:n=0
 ·rw [if_pos (.inr h0),if_pos h0]
 ·rw [if_neg (fun h=>h.elim (by simp) h0),if_neg h0,if_neg (by simp)]
  dsimp only
  by_cases h1:q.count=0
  ·rw [if_pos h1,if_pos h1]
   by_cases h2:q.writers=0
   ·rw [if_pos ⟨rfl,h2⟩,if_pos h2]
   ·rw [if_neg (fun h=>h2 h.2),if_neg h2]
  ·rw [if_neg h1,if_neg h1,Je1]
end
theorem Hu6 {V:VW} {i fd f r fl j:Int} {q:PipeS} (ho:ofW V i fd=((f,⟨1,j,r,fl⟩),0)):(ofW (wP V j q) i fd).1.2.kind≠3:=by rw [Ep1,ho];simp
theorem Im4 {V:VW} {i fd f r fl j:Int} (n:Int) {q:PipeS} (ho:ofW V i fd=((f,⟨1,j,r,fl⟩),0)) (hj:0≤j∧j<6):(Ac1 (wP V j q) i fd n).2=0→0≤(Ac1 (wP V j q) i fd n).1.pipe∧(Ac1 (wP V j q) i fd n).1.pipe<6:=by
 intro _
 unfold Ac1
 rw [Ep1,ho]
 dsimp only
 rw [if_neg (by simp),if_neg (by simp)]
 split<;>exact hj
theorem Ju2 {V:VW} {i fd f r fl j:Int} {q:PipeS} (ho:ofW V i fd=((f,⟨2,j,r,fl⟩),0)) (hj:0≤j∧j<6) (hq:q.readers≠0):(ofW (wP V j q) i fd).2=0→(ofW (wP V j q) i fd).1.2.kind=2→0≤(ofW (wP V j q) i fd).1.2.pipe∧(ofW (wP V j q) i fd).1.2.pipe<6∧((wP V j q).P (ofW (wP V j q) i fd).1.2.pipe).1.readers≠0:=fun _ _=>by
 rw [Ep1,ho]
 dsimp only
 rw [Iq0]
 exact ⟨hj.1,hj.2,hq⟩
theorem Ji5 {V:VW} {i fd f r fl j:Int} {q:PipeS} (hq:okP q=true) (ho:ofW V i fd=((f,⟨2,j,r,fl⟩),0)) (l:List UInt8) (hl:q.count+l.length≤32) :
  ∃ q',D46 (wP V j q) i fd l=(⟨l.length,0,false⟩,wP V j q')∧okP q'=true∧q'.count=q.count+l.length∧Q3 q'=Q3 q++l∧q'.readers=q.readers∧q'.writers=q.writers:=by
 have hr:=Ao7 hq
 rw [Jr1 ho l (by omega)]
 by_cases h0:l.length=0
 ·have:l=[]:=List.eq_nil_of_length_eq_zero h0
  subst this
  rw [if_pos h0]
  exact ⟨q,rfl,hq,by simp,by simp,rfl,rfl⟩
 ·rw [if_neg h0,if_neg (by omega)]
  obtain ⟨h1,h2,h3,h4,h5⟩:=Hg0 l q hq
  have e:(N9 q l).2=l.length:=by rw [h1];omega
  rw [e] at h2 h3
  refine ⟨(N9 q l).1,by rw [e],Eq8 l q hq,h2,?_,h4,h5⟩
  rw [h3,Int.toNat_natCast,List.take_length]
theorem Jp3 {V:VW} {i fd f r j:Int} {q:PipeS} (hq:okP q=true) (hw:q.writers≠0) (ho:ofW V i fd=((f,⟨1,j,r,0⟩),0)) :
  ∃ q',B11 (wP V j q) i fd 32=(⟨Q3 q,0,decide (q.count=0)⟩,wP V j q')∧okP q'=true∧q'.count=0∧q'.readers=q.readers∧q'.writers=q.writers:=by
 have hr:=Ao7 hq
 rw [H05 ho (by omega),if_neg (by decide)]
 by_cases h0:q.count=0
 ·rw [if_pos h0,if_neg hw,if_neg (by decide)]
  have:Q3 q=[]:=List.eq_nil_of_length_eq_zero (by rw [Eq6];omega)
  exact ⟨q,by rw [this,decide_eq_true h0],hq,h0,rfl,rfl⟩
 ·rw [if_neg h0]
  have e:min (32:Int).toNat q.count.toNat=q.count.toNat:=by
   show min 32 q.count.toNat=_
   omega
  rw [e]
  obtain ⟨t1,t2,t3,t4⟩:=In3 hq (m:=q.count.toNat) (Nat.le_refl _)
  have ht:(Q3 q).take q.count.toNat=Q3 q:=List.take_of_length_le (by rw [Eq6];exact Nat.le_refl _)
  exact ⟨Bh4 q q.count.toNat,by rw [ht,decide_eq_false h0],H30 hq (Nat.le_refl _),by rw [t2];omega,t3,t4⟩
def VP:VW:=(Gj4 V1 0).2
def VQ:VW:=(Gh5 VP 0).2
theorem Jv2:Gj4 V1 0=(P3 33 0 false,VP):=Prod.ext (by kernel_rfl) rfl
theorem Jw0:Gh5 VP 0=(P3 1 0 false,VQ):=Prod.ext (by kernel_rfl) rfl
def pA:ProcS:=(VP.S 0).1
def pB:ProcS:=(VQ.S 0).1
def pC:ProcS:=(VQ.S 1).1
theorem Jp1:Qt VP 0 pA:=⟨Prod.ext rfl (by kernel_rfl),by kernel_rfl,by kernel_rfl⟩
theorem Jv8:Qt VQ 0 pB:=⟨Prod.ext rfl (by kernel_rfl),by kernel_rfl,by kernel_rfl⟩
theorem Jv3:Qt VQ 1 pC:=⟨Prod.ext rfl (by kernel_rfl),by kernel_rfl,by kernel_rfl⟩
abbrev T0:SectS:=I3 5
def T1:SectS:=D9 (B3 T0 0 0).2 0 1
def T2:SectS:=D9 (B3 T1 0 0).2 0 2
def T3:SectS:=(B3 T2 1 0).2
theorem s1:(B3 T0 0 0).1.1=1∧V0 (B3 T0 0 0).2 0 1=true:=⟨by kernel_rfl,by kernel_rfl⟩
theorem s2:(B3 T1 0 0).1.1=2∧V0 (B3 T1 0 0).2 0 2=true:=⟨by kernel_rfl,by kernel_rfl⟩
theorem s3:(B3 T2 1 0).1.1=3∧V0 T3 1 3=true:=⟨by kernel_rfl,by kernel_rfl⟩
theorem tk1:TOk 2 T1 0:=(Es5.enter (by omega) 0).leave 0 1
theorem tk2:TOk 4 T2 0:=(tk1.enter (by omega) 0).leave 0 2
structure Late (t:Int):Prop where
 a:(B3 T3 0 t).1.1=4
 b:V0 (B3 T3 0 t).2 0 4=true
 c:V0 (D9 (B3 T3 0 t).2 0 4) 1 3=false
 d:(B3 (D9 (B3 T3 0 t).2 0 4) 1 t).1.1=5
 e:V0 (B3 (D9 (B3 T3 0 t).2 0 4) 1 t).2 1 5=true
 f:(B3 (D9 (B3 (D9 (B3 T3 0 t).2 0 4) 1 t).2 1 5) 0 t).1.1=6
 g:V0 (B3 (D9 (B3 (D9 (B3 T3 0 t).2 0 4) 1 t).2 1 5) 0 t).2 0 6=true
structure Soon (t:Int):Prop where
 a:(B3 T3 0 t).1.1=0
 b:(B3 (B3 T3 0 t).2 0 t).1.1=0
 c:V0 (B3 (B3 T3 0 t).2 0 t).2 1 3=true
 d:(B3 (D9 (B3 (B3 T3 0 t).2 0 t).2 1 3) 0 t).1.1=4
 e:V0 (B3 (D9 (B3 (B3 T3 0 t).2 0 t).2 1 3) 0 t).2 0 4=true
 f:(B3 (D9 (B3 (D9 (B3 (B3 T3 0 t).2 0 t).2 1 3) 0 t).2 0 4) 0 t).1.1=5
 g:V0 (B3 (D9 (B3 (D9 (B3 (B3 T3 0 t).2 0 t).2 1 3) 0 t).2 0 4) 0 t).2 0 5=true
def VC:VW:=(Bs7 VQ 1 2).2
def VZ:VW:=(Bs7 VC 0 2).2
theorem Jv4:Bs7 VQ 1 2=(P3 0 0 false,VC):=Prod.ext (by kernel_rfl) rfl
theorem Ju9:Bs7 VC 0 2=(P3 0 0 false,VZ):=Prod.ext (by kernel_rfl) rfl
def pX:ProcS:=(VC.S 1).1
theorem Dn5:Qt VC 1 pX:=⟨Prod.ext rfl (by kernel_rfl),by kernel_rfl,by kernel_rfl⟩
theorem Gy0:Qt VC 0 pB:=⟨by kernel_rfl,by kernel_rfl,by kernel_rfl⟩
theorem Jq5:Gj1 pX=0:=by kernel_rfl
theorem Jc6:VC.P 0=(Ag8,1):=by kernel_rfl
theorem E88:ofW VC 1 1=((1,⟨1,0,2,0⟩),0):=by kernel_rfl
theorem Jr4:ofW VC 0 2=((2,⟨2,0,1,0⟩),0):=by kernel_rfl
def pZ:ProcS:=(VZ.S 0).1
theorem Jf8:Qt VZ 1 pX:=⟨by kernel_rfl,by kernel_rfl,by kernel_rfl⟩
theorem Jt7:Qt VZ 0 pZ:=⟨Prod.ext rfl (by kernel_rfl),by kernel_rfl,by kernel_rfl⟩
theorem Jr3:VZ.P 0=(⟨0,0,1,0,Ag8.data,Ag8.len⟩,1):=by kernel_rfl
theorem It5:ofW VZ 1 1=((1,⟨1,0,2,0⟩),0):=by kernel_rfl
theorem Js8:∀ (c k:Nat) (F:Fr) (X:CX),FrOk F→See X VC→DoJ c k F X VC 1 10 1 32 [] 0 0 [] true:=fun c k F X ok A=>by
 have e:=G94 Jc6
 have r1:=H05 (q:=Ag8) E88 (n:=32) (by omega)
 have r2:=Hu6 (q:=Ag8) E88
 have r3:=Im4 (q:=Ag8) 32 E88 (by omega)
 rw [e] at r1 r2 r3
 exact B59 ok A (by omega) (Es9 ok A (by omega) 1 32 [] r2 r3 (r1.trans rfl))
structure WokeOk (V:VW) (l:List UInt8):Prop where
 s:Qt V 1 pX
 o:ofW V 1 1=((1,⟨1,0,2,0⟩),0)
 p:∃ q,V.P 0=(q,1)∧Gs1 q=true
 r:∃ V3,Qt V3 1 pX∧∀ (c k:Nat) (F:Fr) (X:CX),FrOk F→See X V→DoJ c k F X V3 1 10 1 32 [] l.length 0 l false
theorem Jr7:WokeOk VZ []:=⟨Jf8,It5,⟨_,Jr3,by kernel_rfl⟩,VZ,Jf8,fun c k F X ok A=>by
 have e:=G94 Jr3
 have r1:=H05 (q:=⟨0,0,1,0,Ag8.data,Ag8.len⟩) It5 (n:=32) (by omega)
 have r2:=Hu6 (q:=⟨0,0,1,0,Ag8.data,Ag8.len⟩) It5
 have r3:=Im4 (q:=⟨0,0,1,0,Ag8.data,Ag8.len⟩) 32 It5 (by omega)
 rw [e] at r1 r2 r3
 exact B59 ok A (by omega) (Es9 ok A (by omega) 1 32 [] r2 r3 (r1.trans rfl))⟩
theorem Js1 {l:List UInt8} (hl:l.length≤8) (h0:l.length≠0):∃ q,WokeOk (wP VC 0 q) l∧∀ (c k:Nat) (F:Fr) (X:CX),FrOk F→See X VC→DoJ c k F X (wP VC 0 q) 0 11 2 0 l l.length 0 [] false:=by
 obtain ⟨q,w1,g1,g2,g3,g4,g5⟩:=Ji5 (q:=Ag8) rfl Jr4 l (by show (0:Int)+l.length≤32;omega)
 have e:=G94 Jc6
 have ww:=Ju2 (q:=Ag8) Jr4 (by omega) (by decide)
 rw [e] at w1 ww
 rw [show Q3 Ag8=[] from rfl,List.nil_append] at g3
 have hc:q.count=l.length:=g2.trans (by show (0:Int)+l.length=l.length;omega)
 have hw:q.writers≠0:=by rw [g5];decide
 obtain ⟨q',w2,p1,p2,p3,p4⟩:=Jp3 (j:=0) g1 hw E88
 rw [g3,decide_eq_false (by omega)] at w2
 refine ⟨q,⟨⟨Dn5.v,Dn5.s,Dn5.z⟩,by rw [Ep1];exact E88,⟨q,Iq0 _ _ _,?_⟩,wP VC 0 q',⟨Dn5.v,Dn5.s,Dn5.z⟩,fun c k F X ok A=>?_⟩,fun c k F X ok A=>?_⟩
 ·unfold Gs1;rw [decide_eq_true (show q.count≠0 by omega)];rfl
 ·exact B59 ok A (by omega) (Es9 ok A (by omega) 1 32 [] (Hu6 E88) (Im4 32 E88 (by omega)) w2)
 ·exact B59 ok A (by omega) (Ib5 ok A (by omega) 2 0 l (by simp only [A8];omega) ww w1)
def Z3:SectS:=D9 (B3 T2 1 0).2 1 3
def Z4:SectS:=D9 (B3 Z3 1 0).2 1 4
def Z5:SectS:=D9 (B3 Z4 0 0).2 0 5
theorem z3:(B3 T2 1 0).1.1=3∧V0 (B3 T2 1 0).2 1 3=true:=⟨by kernel_rfl,by kernel_rfl⟩
theorem z4:(B3 Z3 1 0).1.1=4∧V0 (B3 Z3 1 0).2 1 4=true:=⟨by kernel_rfl,by kernel_rfl⟩
theorem z5:(B3 Z4 0 0).1.1=5∧V0 (B3 Z4 0 0).2 0 5=true:=⟨by kernel_rfl,by kernel_rfl⟩
theorem z6:(B3 Z5 1 0).1.1=6∧V0 (B3 Z5 1 0).2 1 6=true:=⟨by kernel_rfl,by kernel_rfl⟩
theorem zk3:TOk 6 Z3 0:=(tk2.enter (by omega) 1).leave 1 3
theorem zk4:TOk 8 Z4 0:=(zk3.enter (by omega) 1).leave 1 4
theorem zk5:TOk 10 Z5 0:=(zk4.enter (by omega) 0).leave 0 5
section
variable (k hb q0 q1 q2 q3:Nat) (a:Option Addr) (ac:Nat) (ba:Option Addr) (bc:Nat) (l:List UInt8) (n:Int)
abbrev dW:HP:=slC true A5 1 ba l.length bc (A0 l)
abbrev hwF (Y0 Y1:HoS) (T:SectS) (X:CX):List HP:=[pt hb (.cells O9 false [.slice a 4 ac]),slC false I7 1 a 4 ac [P0 q0,P0 q1,P0 q2,P0 q3],hoC q0 k 0 Y0,hoC q1 k 1 Y1,kmC S3 k T 0 X.m,dW ba bc l]
theorem If5 (c0 c1:Nat) (y0:HoS) {V:VW} (W:WokeOk V l) (X:CX) (A:See X V) :
  CtJ I1 B8 Av9 [(1,.slice ba l.length bc),(6,P0 hb),(20,int 0)] (hwF k hb q0 q1 q2 q3 a ac ba bc l y0 ⟨c1,3,4,10,1,32,[]⟩ Z5 X) fun v own=>v=.bool true:=by
 obtain ⟨qp,hp,hwk⟩:=W.p
 obtain ⟨V3,w3,hJ⟩:=W.r
 have k6:=zk5.enter (by omega) 1
 refine CtJ.of Y5 fun h r=>Tr.eq (Bh0 ..) ?_;refine Je ?_
 refine Tr.condT rfl ?_
 (refine Ja ?_;unhygienic intros;repeat(refine Gw ?_;rintro px rfl;refine Ja ?_;unhygienic intros))
 refine Tr.xCall (Hj3 Ap1 q1 k 10 (j:=1) (by omega) ⟨c1,3,4,10,1,32,[]⟩ Z5 0 zk5 A W.s.v W.s.s Jq5 rfl rfl W.o (by omega) hp) ?_;rintro _ h ⟨rfl,o⟩<;>refine Jh o ?_
 rw [hwk,if_pos rfl]
 (refine Jc ?_;unhygienic intros)
 refine Tr.nw fun b1 h=>?_
 (refine Jc ?_;unhygienic intros)
 refine Tr.condF rfl ?_
 (refine Jc ?_;unhygienic intros)
 rw [show IntKind.wrap .i64 (0+1)=1 by decide]
 refine Tr.jmp Y5 (Tr.eq (Bh0 ..) ?_);(try simp only[Nr,Nl,wl,Nat.reduceAdd,Nat.reduceMul,Int.reduceToNat])
 refine Tr.condT rfl ?_
 (refine Jc ?_;unhygienic intros)
 refine Tr.xCall (Ee4 Ap1 q1 k 10 (j:=1) (by omega) ⟨c1,1,4,10,1,32,[]⟩ Z5 0 zk5 A W.s rfl) ?_;rintro _ h ⟨rfl,o⟩<;>refine Jh o ?_
 rw [z6.1,show Eu0 ⟨c1,1,4,10,1,32,[]⟩ 6=⟨c1,2,6,10,1,32,[]⟩ from rfl]
 (refine Jc ?_;unhygienic intros)
 refine Tr.nw fun b2 h=>?_
 (refine Jc ?_;unhygienic intros)
 refine Tr.condF rfl ?_
 (refine Jc ?_;unhygienic intros)
 refine Tr.jmp Y5 (Tr.eq (Bh0 ..) ?_);(try simp only[Nr,Nl,wl,Nat.reduceAdd,Nat.reduceMul,Int.reduceToNat])
 refine Tr.condT rfl ?_
 (refine Jc ?_;unhygienic intros)
 refine Tr.xCall (Es1 Ap1 q1 k 12 (j:=1) (by omega) ⟨c1,2,6,10,1,32,[]⟩ _ 0 k6 A W.s rfl z6.2 (hJ _ _ _ _ (Bk8 Ap1 k6 Jo3) A) (show (10:Int)≠3 by decide) (k6.leave 1 6) w3) ?_;rintro _ h ⟨da,dc,x,cap,X2,A2,rfl,o⟩<;>refine Jh o ?_
 (refine Jc ?_;unhygienic intros)
 refine Tr.nw fun b3 h=>?_
 (refine Jc ?_;unhygienic intros)
 refine Tr.condF rfl ?_
 (refine Jb ?_;unhygienic intros)
 refine Tr.bnd (Tr.condT rfl ?_)
 (refine Jb ?_;unhygienic intros)
 refine Tr.some fun o=>(?_:Tr _ _ _ _) o;refine Je ?_
 refine Tr.bnd (Tr.condT rfl ?_)
 (refine Jb ?_;unhygienic intros)
 refine Tr.some fun o=>(?_:Tr _ _ _ _) o;refine Je ?_
 refine Tr.bnd (Tr.condT (by rw [beq_self_eq_true]) ?_)
 refine Tr.xCall (G29) ?_;rintro _ h ⟨rfl,o⟩<;>refine Jh o ?_
 (refine Jb ?_;unhygienic intros)
 refine Tr.some fun o=>(?_:Tr _ _ _ _) o;refine Je ?_
 refine Tr.some fun o=>?_
 rfl
end
section
variable (k hb q0 q1 q2 q3:Nat) (a:Option Addr) (ac:Nat) (ba:Option Addr) (bc:Nat) (l:List UInt8) (n:Int)
abbrev hwG (i:Int):List (Nat × Value):=[(0,int n),(1,.slice ba l.length bc),(6,P0 hb),(9,.func (.func D2) ⟨[]⟩ ⟨[P0 hb]⟩),(14,int i)]
theorem Gg0 (N:Nat) (y:HoS) (T:SectS) (t:Int) (ok:TOk N T t) (hN:N+4<1000000000) {X:CX} {V V':VW} (A:See X V) {p p':ProcS} (hp:Qt V 0 p) (h0:y.phase=0) (pb:HP) (da:Option Addr) (ro:Bool) (dc:Nat) (d:List UInt8) (hd:d.length≤A8) [ks:IsSl pb da ro A5 1 d.length dc (A0 d)] (op sa sb:Int) (h3:op≠3) (st:Int) (h1:st>0) (hs:(B3 T 0 t).1.1=st∧V0 (B3 T 0 t).2 0 st=true) (hp':Qt V' 0 p') {n e:Int} {bs:List UInt8}
  (hJ:∀ (F:Fr) (X:CX),FrOk F→See X V→DoJ y.c k F X V' 0 op sa sb d n e bs false) :
  Ct A7 D2 [int 0,.agg ⟨[int op,int sa,int sb,.slice da d.length dc]⟩,P0 hb] [pt hb (.cells O9 false [.slice a 4 ac]),slC false I7 1 a 4 ac [P0 q0,P0 q1,P0 q2,P0 q3],hoC q0 k 0 y,kmC S3 k T t X.m,pb] fun v own=>∃ ea ec x cap X',See X' V'∧v=.tuple ⟨[.agg ⟨Et7 0 0 op sa sb ea d.length ec n e x bs.length cap true⟩,.bool true]⟩ ∧
   own [pt hb (.cells O9 false [.slice a 4 ac]),slC false I7 1 a 4 ac [P0 q0,P0 q1,P0 q2,P0 q3],hoC q0 k 0 ⟨y.c,0,st,op,sa,sb,d⟩,kmC S3 k (D9 (B3 T 0 t).2 0 st) t X'.m,dC x cap bs,pb] :=
 I46 Ap1 hb k N a ac [q0,q1,q2,q3] 0 q0 (by omega) rfl y T t ok hN A hp h0 pb da ro dc d hd op sa sb h3 st hs.1 h1 hs.2 hp' hJ
theorem Ji4 (N:Nat) (y:HoS) (T:SectS) (t:Int) (ok:TOk N T t) (hN:N+4<1000000000) {X:CX} {V V':VW} (A:See X V) {p p':ProcS} (hp:Qt V 1 p) (h0:y.phase=0) (pb:HP) (da:Option Addr) (ro:Bool) (dc:Nat) (d:List UInt8) (hd:d.length≤A8) [ks:IsSl pb da ro A5 1 d.length dc (A0 d)] (op sa sb:Int) (h3:op≠3) (st:Int) (h1:st>0) (hs:(B3 T 1 t).1.1=st∧V0 (B3 T 1 t).2 1 st=true) (hp':Qt V' 1 p') {n e:Int} {bs:List UInt8}
  (hJ:∀ (F:Fr) (X:CX),FrOk F→See X V→DoJ y.c k F X V' 1 op sa sb d n e bs false) :
  Ct A7 D2 [int 1,.agg ⟨[int op,int sa,int sb,.slice da d.length dc]⟩,P0 hb] [pt hb (.cells O9 false [.slice a 4 ac]),slC false I7 1 a 4 ac [P0 q0,P0 q1,P0 q2,P0 q3],hoC q1 k 1 y,kmC S3 k T t X.m,pb] fun v own=>∃ ea ec x cap X',See X' V'∧v=.tuple ⟨[.agg ⟨Et7 0 1 op sa sb ea d.length ec n e x bs.length cap true⟩,.bool true]⟩ ∧
   own [pt hb (.cells O9 false [.slice a 4 ac]),slC false I7 1 a 4 ac [P0 q0,P0 q1,P0 q2,P0 q3],hoC q1 k 1 ⟨y.c,0,st,op,sa,sb,d⟩,kmC S3 k (D9 (B3 T 1 t).2 1 st) t X'.m,dC x cap bs,pb] :=
 I46 Ap1 hb k N a ac [q0,q1,q2,q3] 1 q1 (by omega) rfl y T t ok hN A hp h0 pb da ro dc d hd op sa sb h3 st hs.1 h1 hs.2 hp' hJ
theorem I62 (N:Nat) (y:HoS) (T:SectS) (t:Int) (ok:TOk N T t) (hN:N+4<1000000000) {X:CX} {V V':VW} (A:See X V) {p:ProcS} (hp:Qt V 1 p) (h0:y.phase=0) (pb:HP) (da:Option Addr) (ro:Bool) (dc:Nat) (d:List UInt8) (hd:d.length≤A8) [ks:IsSl pb da ro A5 1 d.length dc (A0 d)] (op sa sb:Int) (h3:op≠3) (st:Int) (h1:st>0) (hs:(B3 T 1 t).1.1=st∧V0 (B3 T 1 t).2 1 st=true) {n e:Int} {bs:List UInt8}
  (hJ:∀ (F:Fr) (X:CX),FrOk F→See X V→DoJ y.c k F X V' 1 op sa sb d n e bs true) :
  Ct A7 D2 [int 1,.agg ⟨[int op,int sa,int sb,.slice da d.length dc]⟩,P0 hb] [pt hb (.cells O9 false [.slice a 4 ac]),slC false I7 1 a 4 ac [P0 q0,P0 q1,P0 q2,P0 q3],hoC q1 k 1 y,kmC S3 k T t X.m,pb] fun v own=>∃ X',See X' V'∧v=Er5 ∧
   own [pt hb (.cells O9 false [.slice a 4 ac]),slC false I7 1 a 4 ac [P0 q0,P0 q1,P0 q2,P0 q3],hoC q1 k 1 ⟨y.c,3,st,op,sa,sb,d⟩,kmC S3 k (D9 (B3 T 1 t).2 1 st) t X'.m,pb] :=
 Jl2 Ap1 hb k N a ac [q0,q1,q2,q3] 1 q1 (by omega) rfl y T t ok hN A hp h0 pb da ro dc d hd op sa sb h3 st hs.1 h1 hs.2 hJ
theorem I33 (c0 c1:Nat) (hl:l.length≤8) (X:CX) (A:See X VC) (i:Int) (hi:¬ i<J8 .i64 n 7) :
  CtJ I1 B8 Ak5 (hwG hb ba bc l n i) (hwF k hb q0 q1 q2 q3 a ac ba bc l ⟨c0,0,2,2,0,0,[]⟩ ⟨c1,3,4,10,1,32,[]⟩ Z4 X) fun v own=>v=.bool true:=by
 refine CtJ.of Y5 fun h r=>Tr.eq (Da5 ..) ?_;refine Je ?_
 refine Tr.condF (decide_eq_false hi) ?_
 refine Tr.nw fun p2 h=>?_
 (refine Jc ?_;unhygienic intros)
 by_cases h0:l.length=0
 ·obtain rfl:l=[]:=List.eq_nil_of_length_eq_zero h0
  refine Tr.condT rfl ?_
  (refine Jc ?_;unhygienic intros)
  refine Tr.jmp Y5 (Tr.eq (B94 ..) ?_);(try simp only[Nr,Nl,wl,Nat.reduceAdd,Nat.reduceMul,Int.reduceToNat])
  (refine Jc ?_;unhygienic intros)
  refine Bv3 ?_
  refine Tr.xCall (Gg0 k hb q0 q1 q2 q3 a ac 8 ⟨c0,0,2,2,0,0,[]⟩ Z4 0 zk4 (by omega) A Gy0 rfl (dC none 0 []) none false 0 [] (by simp [A8]) 12 2 0 (by decide) 5 (by omega) z5 Jt7 (fun F X ok A=>B59 ok A (by omega) (Gp4 ok A (by omega) 2 0 [] Ju9))) ?_;rintro _ h ⟨da,dc,x,cap,X2,A2,rfl,o⟩<;>refine Jh o ?_
  rw [show D9 (B3 Z4 0 0).2 0 5=Z5 from rfl]
  (refine Jc ?_;unhygienic intros)
  refine Tr.nw fun b1 h=>?_
  (refine Jb ?_;unhygienic intros)
  refine Tr.bnd (Tr.condF rfl ?_)
  (refine Jb ?_;unhygienic intros)
  refine Tr.some fun o=>(?_:Tr _ _ _ _) o;refine Je ?_
  refine Tr.condF rfl ?_
  refine Tr.xRun (If5 k hb q0 q1 q2 q3 a ac ba bc [] c0 c1 ⟨c0,0,5,12,2,0,[]⟩ Jr7 X2 A2) ?_;rintro _ h rfl
  rfl
 ·obtain ⟨q,W,hJ⟩:=Js1 hl h0
  refine Tr.condF (by rw [beq_eq_false_iff_ne];omega) ?_
  refine Tr.jmp Y5 (Tr.eq (B94 ..) ?_);(try simp only[Nr,Nl,wl,Nat.reduceAdd,Nat.reduceMul,Int.reduceToNat])
  (refine Jc ?_;unhygienic intros)
  refine Tr.xCall (Gg0 k hb q0 q1 q2 q3 a ac 8 ⟨c0,0,2,2,0,0,[]⟩ Z4 0 zk4 (by omega) A Gy0 rfl (dW ba bc l) ba true bc l (by simp only [A8];omega) 11 2 0 (by decide) 5 (by omega) z5 (V':=wP VC 0 q) (p':=pB) ⟨Gy0.v,Gy0.s,Gy0.z⟩ (fun F X ok A=>hJ _ _ F X ok A)) ?_;rintro _ h ⟨da,dc,x,cap,X2,A2,rfl,o⟩<;>refine Jh o ?_
  rw [show D9 (B3 Z4 0 0).2 0 5=Z5 from rfl]
  (refine Jc ?_;unhygienic intros)
  refine Tr.nw fun b1 h=>?_
  (refine Jb ?_;unhygienic intros)
  refine Tr.bnd (Tr.condF rfl ?_)
  (refine Jb ?_;unhygienic intros)
  refine Tr.some fun o=>(?_:Tr _ _ _ _) o;refine Je ?_
  refine Tr.condF rfl ?_
  refine Tr.xRun (If5 k hb q0 q1 q2 q3 a ac ba bc l c0 c1 ⟨c0,0,5,11,2,0,l⟩ W X2 A2) ?_;rintro _ h rfl
  rfl
theorem Ig0 (c0 c1:Nat) (hl:l.length≤8) (X:CX) (A:See X VC):∀ (m:Nat) (i:Nat),J8 .i64 n 7≤(i:Int)+m→J8 .i64 n 7≤7 →
  CtJ I1 B8 Ak5 (hwG hb ba bc l n i) (hwF k hb q0 q1 q2 q3 a ac ba bc l ⟨c0,0,2,2,0,0,[]⟩ ⟨c1,3,4,10,1,32,[]⟩ Z4 X) fun v own=>v=.bool true
 | 0,i,hi,_=>I33 k hb q0 q1 q2 q3 a ac ba bc l n c0 c1 hl X A i (by omega)
 | m+1,i,hi,h7=>by
  by_cases hlt:(i:Int)<J8 .i64 n 7
  case neg=>exact I33 k hb q0 q1 q2 q3 a ac ba bc l n c0 c1 hl X A i hlt
  have ih:=Ig0 c0 c1 hl X A m (i+1) (by omega) h7
  have e1:=wN i
  refine CtJ.of Y5 fun h r=>Tr.eq (Da5 ..) ?_;refine Je ?_
  refine Tr.condT (decide_eq_true hlt) ?_
  (refine Ja ?_;unhygienic intros;repeat(refine Gw ?_;rintro px rfl;refine Ja ?_;unhygienic intros))
  refine Tr.xCall (Hj3 Ap1 q1 k 8 (j:=1) (by omega) ⟨c1,3,4,10,1,32,[]⟩ Z4 0 zk4 A Dn5.v Dn5.s Jq5 rfl rfl E88 (by omega) Jc6) ?_;rintro _ h ⟨rfl,o⟩<;>refine Jh o ?_
  rw [show (if Gs1 Ag8 then (1:Int) else 3)=3 from rfl]
  (refine Jc ?_;unhygienic intros)
  refine Tr.nw fun b1 h=>?_
  (refine Jb ?_;unhygienic intros)
  refine Tr.bnd (Tr.condF rfl ?_)
  (refine Ja ?_;unhygienic intros;repeat(refine Gw ?_;rintro px rfl;refine Ja ?_;unhygienic intros))
  refine Tr.xCall (Hi3 q1 k 1 ⟨c1,3,4,10,1,32,[]⟩) ?_;rintro _ h ⟨rfl,o⟩<;>refine Jh o ?_
  (refine Jb ?_;unhygienic intros)
  refine Tr.some fun o=>(?_:Tr _ _ _ _) o;refine Je ?_
  refine Tr.condF rfl ?_
  rw [e1]
  refine Tr.xRun (ih) ?_;rintro _ h rfl
  rfl
end
theorem Hu8 (n:Int) (ba:Option Addr) (bc:Nat) (l:List UInt8):Ct A7 B8 [int n,.slice ba l.length bc] [dW ba bc l] fun v own=>v=.bool true:=by
 refine Ct.of Y5 rfl fun h r=>Tr.eq (Gn0 ..) ?_;refine Je ?_
 refine Tr.xCall Hh1 ?_
 rintro _ h ⟨k,w,a,ac,a2,ac2,q0,q1,q2,q3,c0,c1,rfl,o⟩
 refine (?_:Tr _ _ _ _) o
 refine Je ?_
 (refine Jc ?_;unhygienic intros)
 refine Tr.nw fun hb h=>?_
 (refine Jb ?_;unhygienic intros)
 simp only [List.set_cons_zero]
 refine Tr.bnd (Tr.condF rfl ?_)
 (refine Jb ?_;unhygienic intros)
 refine Tr.some fun o=>(?_:Tr _ _ _ _) o;refine Je ?_
 by_cases h8:l.length>8
 ·refine Tr.condT (by simp;omega) ?_
  refine Tr.bnd (Tr.condT rfl ?_)
  refine Tr.xCall (G29) ?_;rintro _ h ⟨rfl,o⟩<;>refine Jh o ?_
  (refine Jb ?_;unhygienic intros)
  refine Tr.some fun o=>(?_:Tr _ _ _ _) o;refine Je ?_
  refine Tr.some fun o=>?_
  rfl
 refine Tr.condF (by simp;omega) ?_
 refine Bv3 ?_
 refine Tr.xCall (Gg0 k hb q0 q1 q2 q3 a ac 0 ⟨c0,0,0,0,0,0,[]⟩ T0 0 Es5 (by omega) Hr2 qt1 rfl (dC none 0 []) none false 0 [] (by simp [A8]) 9 0 0 (by decide) 1 (by omega) s1 Jp1 (fun F X ok A=>B59 ok A (by omega) (Ip6 ok A (by omega) Jv2 0 0 []))) ?_;rintro _ h ⟨da,dc,x,cap,X1,A1,rfl,o⟩<;>refine Jh o ?_
 rw [show D9 (B3 T0 0 0).2 0 1=T1 from rfl]
 (refine Jc ?_;unhygienic intros)
 refine Tr.xCall (Gg0 k hb q0 q1 q2 q3 a ac 2 ⟨c0,0,1,9,0,0,[]⟩ T1 0 tk1 (by omega) A1 Jp1 rfl (dC none 0 []) none false 0 [] (by simp [A8]) 2 0 0 (by decide) 2 (by omega) s2 Jv8 (fun F X ok A=>Jj4 ok A (by omega) 0 0 [] Jw0)) ?_;rintro _ h ⟨da2,dc2,x2,cap2,X2,A2,rfl,o⟩<;>refine Jh o ?_
 rw [show D9 (B3 T1 0 0).2 0 2=T2 from rfl]
 (refine Ja ?_;unhygienic intros;repeat(refine Gw ?_;rintro px rfl;refine Ja ?_;unhygienic intros))
 refine Tr.xCall (Iu3 Ap1 k 4 (j:=1) (by omega) T2 0 tk2 X2.m q1 ⟨c1,0,0,0,0,0,[]⟩ rfl) ?_;rintro _ h ⟨d1,rfl,o⟩<;>refine Jh o ?_
 (refine Jc ?_;unhygienic intros)
 refine Tr.xCall (Ji4 k hb q0 q1 q2 q3 (some px) ac 4 ⟨d1,0,0,0,0,0,[]⟩ T2 0 tk2 (by omega) A2 Jv3 rfl (dC none 0 []) none false 0 [] (by simp [A8]) 12 2 0 (by decide) 3 (by omega) z3 Dn5 (fun F X ok A=>B59 ok A (by omega) (Gp4 ok A (by omega) 2 0 [] Jv4))) ?_;rintro _ h ⟨da3,dc3,x3,cap3,X3,A3,rfl,o⟩<;>refine Jh o ?_
 rw [show D9 (B3 T2 1 0).2 1 3=Z3 from rfl]
 (refine Jc ?_;unhygienic intros)
 refine Tr.nw fun b1 h=>?_
 (refine Jb ?_;unhygienic intros)
 refine Tr.bnd (Tr.condF rfl ?_)
 (refine Jb ?_;unhygienic intros)
 refine Tr.some fun o=>(?_:Tr _ _ _ _) o;refine Je ?_
 refine Tr.condF rfl ?_
 refine Tr.xCall (I62 k hb q0 q1 q2 q3 (some px) ac 6 ⟨d1,0,3,12,2,0,[]⟩ Z3 0 zk3 (by omega) A3 Dn5 rfl (dC none 0 []) none false 0 [] (by simp [A8]) 10 1 32 (by decide) 4 (by omega) z4 (fun F X ok A=>Js8 _ _ F X ok A)) ?_;rintro _ h ⟨X4,A4,rfl,o⟩<;>refine Jh o ?_
 rw [show D9 (B3 Z3 1 0).2 1 4=Z4 from rfl]
 (refine Jc ?_;unhygienic intros)
 refine Tr.nw fun b2 h=>?_
 (refine Jc ?_;unhygienic intros)
 have h7:0≤J8 .i64 n 7∧J8 .i64 n 7≤7:=by rw [Jn7];omega
 have L:=Ig0 k hb q0 q1 q2 q3 (some px) ac ba bc l n c0 d1 (by omega) X4 A4 7 0 (by omega) (by omega)
 rw [show ((0:Nat):Int)=0 from rfl] at L
 refine Tr.xRun (L) ?_;rintro _ h rfl
 rfl
end Go.EQ

namespace Go.NN
open Go.ChangeShapes Go.WideShapes Go.RowKit
section
variable {P:Program} {W:World} {t e:TypeId}
end
end Go.NN

namespace Go.NN
open Go.ChangeShapes Go.WideShapes Go.RowKit
theorem Iv0 {P:Program} {W:World} {t e:TypeId} {H:Type} {enc:TypeId × Value→H} {base fuel n:Nat} {spare:Nat→Bool} {held:Bool} {cs:List Value} {x:DataW H × List MemPlace} (ht:P.underlying t=some (.array n e)) (h:DataW.trod enc P W base spare held fuel t cs=some x) :
  ∃ m xs,cs.length=P.cellsOf t∧(List.range n).mapM (fun i=>DataW.trod enc P W base spare held m e ((cs.drop (i*P.cellsOf e)).take (P.cellsOf e)))=some xs∧x.1=.agg (xs.map (·.1)):=by
 cases fuel with
 | zero=>simp [DataW.trod] at h
 | succ m =>
  unfold DataW.trod at h
  rw [ht] at h
  split at h<;>simp_all
  obtain ⟨hl,xs,hp,hd⟩:=h
  refine ⟨m,xs,hp,?_⟩
  rw [← hd]
theorem I89 {P:Program} {W:World} {t e:TypeId} {H:Type} {enc:TypeId × Value→H} {base fuel n:Nat} {spare:Nat→Bool} {held:Bool} {cs:List Value} {k:IntKind} {l:List Int} {p:List MemPlace}
  (ht:P.underlying t=some (.array n e)) (he:P.underlying e=some (.int k)) (hc:P.cellsOf e=1) (hn:P.cellsOf t=n)
  (h:DataW.trod enc P W base spare held fuel t cs=some (.agg (l.map fun n=>.lit (.int k n)),p)):cs=l.map (Value.int k):=by
 obtain ⟨m,xs,hl,hp,hx⟩:=Iv0 ht h
 have hx2:(l.map fun n=>(DataW.lit (.int k n):DataW H))=xs.map (·.1):=by injection hx
 have hlen:=mapM_some_length hp
 have hll:l.length=n:=by
  have:=congrArg List.length hx2
  simp only [List.length_map] at this
  simp at hlen;omega
 refine List.ext_getElem? fun i=>?_
 by_cases hi:i<n
 ·have g:=mapM_some_get hp i i (by simpa using List.getElem?_range hi)
  have hlt:i<xs.length:=by simp at hlen;omega
  rw [List.getElem?_eq_getElem hlt] at g
  obtain ⟨z,h1,h2,_⟩:=DataW.trod_int he g
  rw [hc,Nat.mul_one] at h1
  have e1:cs[i]?=some (.int k z):=by
   have:=congrArg (·[0]?) h1
   simpa using this
  have e2:xs[i]?.map (·.1)=some (DataW.lit (.int k z)):=by rw [List.getElem?_eq_getElem hlt,h2];rfl
  have e3:=congrArg (·[i]?) hx2
  simp only [List.getElem?_map] at e3
  rw [e2] at e3
  rw [e1,List.getElem?_map]
  cases hq:l[i]? with
  | none=>rw [hq] at e3;cases e3
  | some y =>
   rw [hq] at e3
   simp only [Option.map_some,Option.some.injEq] at e3
   injection e3 with e4
   injection e4 with e5 e6
   rw [Option.map_some,e6]
 ·rw [List.getElem?_eq_none (by omega),List.getElem?_eq_none (by rw [List.length_map];omega)]
theorem I11 (P:Program) (W:World) {g:Nat} (hg:g<P.globals.size) {c':Array Value} {t e:TypeId} (hw:W.heap[g]?=some (.cells c' t (0,0))) {k:IntKind} {l:List Int} (hc:c'.toList=l.map (Value.int k)) :
  ∃ μ h,St P W μ h [pt g (.cells e true (l.map (Value.int k)))]:=by
 have hlt:g<W.heap.size:=(Array.getElem?_eq_some_iff.1 hw).1
 refine ⟨fun b=>if b=g then some (g,0) else none,⟨fun b=>if b<P.globals.size then (if b=g then some (.cells e true (l.map (Value.int k))) else some .dead) else none,P.globals.size⟩,⟨?_,?_,?_,?_,?_,?_,?_⟩,?_,?_⟩
 ·intro b hb
  by_cases h:b=g
  ·left;simp [h]
  ·right;simp [hb,h]
 ·intro b hb
  show (if b<P.globals.size then _ else _)=_
  rw [if_neg (by have:P.globals.size≤b:=hb;omega)]
 ·intro b x hx
  by_cases h:b=g
  ·subst h;exact hg
  ·rw [if_neg h] at hx;cases hx
 ·intro b g' δ hx
  by_cases h:b=g
  ·rw [if_pos h] at hx;cases hx;exact hlt
  ·rw [if_neg h] at hx;cases hx
 ·intro b g' δ e' ro c hx hb
  by_cases h:b=g
  ·rw [if_pos h] at hx
   subst h
   have hb:(if b<P.globals.size then (if b=b then some (Blk.cells e true (l.map (Value.int k))) else some .dead) else none)=some (.cells e' ro c):=hb
   cases hx
   rw [if_pos hg,if_pos rfl] at hb
   cases hb
   refine ⟨c',(0,0),⟨t,(fun hh=>by cases hh),hw⟩,?_,fun i v hi=>?_,fun hh=>by cases hh⟩
   ·rw [Nat.zero_add,← hc];simp
   ·have:c'.toList[i]?=some v:=by rw [hc];exact hi
    refine ⟨v,by rw [Nat.zero_add];simpa using this,?_⟩
    rw [List.getElem?_map] at hi
    cases hq:l[i]? with
    | none=>rw [hq] at hi;cases hi
    | some y=>rw [hq] at hi;cases hi;exact .int _ _
  ·rw [if_neg h] at hx;cases hx
 ·intro b g' δ es cl hx hb
  by_cases h:b=g
  ·subst h
   have hb:(if b<P.globals.size then (if b=b then some (Blk.cells e true (l.map (Value.int k))) else some .dead) else none)=some (.map es cl):=hb
   rw [if_pos hg,if_pos rfl] at hb
   cases hb
  ·rw [if_neg h] at hx;cases hx
 ·intro b b' g' δ δ' hx hx' _ _
  by_cases h:b=g
  ·by_cases h':b'=g
   ·rw [h,h']
   ·rw [if_neg h'] at hx';cases hx'
  ·rw [if_neg h] at hx;cases hx
 ·intro b hb
  have hb:(match (if b<P.globals.size then (if b=g then some (Blk.cells e true (l.map (Value.int k))) else some .dead) else none) with|some (.cells _ ro _)=>ro=false|some (.map _ _)=>True|_=>False):=hb
  by_cases h1:b<P.globals.size
  ·by_cases h:b=g
   ·rw [if_pos h1,if_pos h] at hb;cases hb
   ·rw [if_pos h1,if_neg h] at hb;exact hb
  ·rw [if_neg h1] at hb;exact hb
 ·refine ⟨fun b hb=>?_,fun b=>if b=g then some (.cells e true (l.map (Value.int k))) else none,fun _=>none,fun i=>.inr rfl,fun i x hx=>?_,fun i x hx=>?_,?_,trivial⟩
  ·show (if b<P.globals.size then _ else _)=_
   rw [if_neg (by have:P.globals.size≤b:=hb;omega)]
  ·have hx:(if i=g then some (Blk.cells e true (l.map (Value.int k))) else none)=some x:=hx
   by_cases h:i=g
   ·subst h
    rw [if_pos rfl] at hx
    show (if i<P.globals.size then (if i=i then _ else _) else _)=_
    rw [if_pos hg,if_pos rfl];exact hx
   ·rw [if_neg h] at hx;cases hx
  ·cases hx
  ·show (if g=g then _ else _)=_
   rw [if_pos rfl]
theorem Imp.runG {P:Program} {W:World} {cutsOf:FuncId→Cuts} (hm:P.follows .mixedOrders=true) (hng:∀ f,(cutsOf f).globs≤P.globals.size) {f:FuncId} {args:List Value} {φ:List Value→List HP→Prop} (i:Imp P W args φ)
  {g:Nat} (hg:g<P.globals.size) {c':Array Value} {t:TypeId} (e:TypeId) (hw:W.heap[g]?=some (.cells c' t (0,0))) {k:IntKind} {l:List Int} (hcc:c'.toList=l.map (Value.int k))
  (hc:∀ vs ps,φ vs ps→∀ h r,Own h (ps++(pt g (.cells e true (l.map (Value.int k)))::r))→∃ h',Call P cutsOf f vs h=some (.bool true,h')):Calls P f ⟨args⟩ W fun e w=>e=.returned (.bool true)∧Below W.heap.size W w:=by
 obtain ⟨μ0,h0,s0⟩:=I11 P W (e:=e) hg hw hcc
 obtain ⟨μ,h,vs,ps,s,_,hv,hφ⟩:=i μ0 h0 _ s0
 obtain ⟨h',e⟩:=hc vs ps hφ h [] s.own
 refine ((G72 hm hng f vs h _ _ e).2 μ W args s.rel hv).mono fun ex w ⟨u,he,μ1,x,r,hu⟩=>?_
 obtain rfl:=hu.bool_inv
 exact ⟨he,x.os,x.tape,x.output,x.size,fun k hk=>x.old k hk fun b δ _=>s.ro b⟩
theorem Hh9 (n:Nat):∀ (l:List (Nat × Cuts)),l.all (fun p=>Nat.ble p.2.globs n)=true→∀ f,(G02 l f).globs≤n
 | [],_,_=>Nat.zero_le _
 | (k,c)::l,h,f=>by
  simp only [List.all_cons,Bool.and_eq_true] at h
  show (bif Nat.beq k f then c else G02 l f).globs≤n
  cases Nat.beq k f
  ·exact Hh9 n l h.2 f
  ·exact Nat.le_of_ble_eq_true h.1
theorem I79 {P:Program} {W:World} {laid:List (String × DataW Unit)} (h:laidMet P laid W) {nm:String} {k:IntKind} {l:List Int} (hx:(nm,DataW.agg (l.map fun n=>.lit (.int k n))) ∈ laid) {g n:Nat} {t e:TypeId}
  (hg:P.globalNamed nm=some g) (hgt:(P.globals[g]?).map (·.type)=some t) (ht:P.underlying t=some (.array n e)) (he:P.underlying e=some (.int k)) (hc:P.cellsOf e=1) (hn:P.cellsOf t=n) (h0:0<l.length) :
  ∃ c' t',W.heap[g]?=some (.cells c' t' (0,0))∧c'.toList=l.map (Value.int k):=by
 obtain ⟨ps,hl,_,hp⟩:=h
 have key:∀ (laid:List (String × DataW Unit)) (ps:List MemPlace),DataW.LaidVars P W laid ps→(nm,DataW.agg (l.map fun n=>.lit (.int k n))) ∈ laid→∃ cs,W.var? P nm=some cs∧cs.toList=l.map (Value.int k)∧MemPlace.cell g 0 ∈ ps:=by
  intro laid
  induction laid with
  | nil=>intro ps _ hm;cases hm
  | cons a r ih =>
   intro ps hl hm
   obtain ⟨n1,d1⟩:=a
   obtain ⟨g1,t1,cs,fuel,p,q,h1,h2,h3,h4,h5,rfl⟩:=hl
   rcases List.mem_cons.1 hm with hm|hm
   ·cases hm
    rw [hg] at h1;cases h1
    rw [hgt] at h2;cases h2
    have hcs:=I89 ht he hc hn h4
    refine ⟨cs,h3,hcs,?_⟩
    apply List.mem_append_left
    apply List.mem_append_left
    unfold MemPlace.row
    rw [List.mem_map]
    have:cs.size=l.length:=by rw [← Array.length_toList,hcs,List.length_map]
    exact ⟨0,by rw [List.mem_range];omega,rfl⟩
   ·obtain ⟨cs,a1,a2,a3⟩:=ih q h5 hm
    exact ⟨cs,a1,a2,List.mem_append_right _ a3⟩
 obtain ⟨cs,h1,h2,h3⟩:=key laid ps hl hx
 obtain ⟨⟨c,t',h4⟩,_⟩:=hp g 0 h3
 unfold World.var? at h1
 rw [hg] at h1
 simp only [Option.bind_some,h4] at h1
 cases h1
 exact ⟨_,t',h4,h2⟩
end Go.NN

set_option maxRecDepth 100000
namespace Go.EQ
open Go Go.NN Go.Proofs Go.Proofs.YtonlefldpebcpaaGreatDoor Go.ChangeShapes Go.WideShapes Go.RowKit
theorem Jg2:∀ f,(cutsOf f).globs≤PR.globals.size:=fun f=>Nat.le_trans (Hh9 2 Jf1 (by kernel_rfl) f) (show 2≤PR.globals.size by decide +kernel)
theorem Jk7:PR.follows .mixedOrders=true:=by kernel_rfl
theorem Jp7:laidOutB PR=true:=by kernel_rfl
theorem Jt5:ownKnob PR.godebug=none:=by kernel_rfl
theorem Jw4 {W:World}:Am2 PR W Dp9 (fun (g:Option Addr × Nat) (l:List UInt8)=>[.slice g.1 l.length g.2]) (fun g l=>slC true A5 1 g.1 l.length g.2 (A0 l)) (fun l=>l.length≤maxLen) :=
 Am2.bytes A5 Hf3 Ii8 (by kernel_rfl)
abbrev Gj5 {H : Type} : List (String × DataW H) := [("math/bits.deBruijn32tab", Rows.laid_math_bits_deBruijn32tab), ("math/bits.deBruijn64tab", Rows.laid_math_bits_deBruijn64tab)]
theorem Jj5 {H:Type} {enc:TypeId × Value→H} {W:World} {v0 v1:Value} {d0 d1:DataW H} {p0 p1:List MemPlace} {b0:Nat} (k0:Value.okWide PR W .any b0 B5 v0) (k1:Value.okWide PR W .any b0 Dp9 v1)
  (h0:DataW.Trod enc PR W 0 (fun _=>true) true B5 v0 d0 p0) (h1:DataW.Trod enc PR W 0 (fun _=>true) true Dp9 v1 d1 p1) (hL:laidMetH Tryz.prog Gj5 W) :
  Calls PR B8 #[v0,v1] W fun e W'=>e=.returned (.bool true)∧Below W.heap.size W W':=by
 obtain ⟨x0,_,i0⟩:=Am2.argInt Jt4 k0 h0
 obtain ⟨x1,_,i1⟩:=(Jw4 (W:=W)).arg (If1 Hf3 k1) h1
 have hm:laidMet PR Gj5 W:=by rw [← MakeChecks.laidMetH_plain PR _ W (by kernel_rfl)];exact hL
 obtain ⟨c', t', hw, hc⟩ := I79 hm (nm := "math/bits.deBruijn64tab") (k := .u8) (l := Jt8) (List.mem_cons_of_mem _ (List.mem_singleton.2 (Prod.ext rfl (show _ = Rows.laid_math_bits_deBruijn64tab by rfl)))) (g := 1) (n := 64) (t := Ik4) (e := A5) (by kernel_rfl) (by kernel_rfl) (by kernel_rfl) Ii8 (by kernel_rfl) (by kernel_rfl) (by decide)
 refine (i0.app i1).runG Jk7 Jg2 (g:=1) (by decide +kernel) A5 hw hc fun vs ps J hh r o=>?_
 obtain ⟨_,_,_,_,rfl,rfl,⟨rfl,rfl⟩,J⟩:=J
 obtain ⟨⟨a1,c1⟩,rfl,rfl⟩:=J
 simp only [List.nil_append,List.append_nil,List.cons_append] at o ⊢
 obtain ⟨v,h',e,rfl⟩:=Hu8 x0 a1 c1 x1 hh _ o
 exact ⟨h',e⟩
theorem Jc2 (os:Os) (args:Array Value):laidMetH Tryz.prog Gj5 ((World.doorLaid Tryz.prog 400 os).forCall (fun _ _=>0) ⟨#[],args,[]⟩).memory :=
 laidMetH_of_parts3 (fuel:=8) (laidMet_of_run' 8 (by kernel_rfl) (by kernel_rfl)) (by kernel_rfl) (by kernel_rfl)
theorem I56 (os:Os) (started:os.Started) (H:Type) (enc:TypeId × Value→H) :
  ReturnsInHanded {} Tryz.checked os B8 .any (fun w args=>(Rows.hostWokenSpec.pre enc Tryz.prog Tryz.f6 [] false w args∧laidMetH Tryz.prog Gj5 w)∧sizedMet enc Tryz.prog Tryz.f6 (OpenSpec.ofChange Rows.hostWokenSpec) false w args)
   (Rows.hostWokenSpec.post enc Tryz.prog Tryz.f6 false true false false):=by
 refine returnsInHanded_of_change_and (C:=Tryz.checked) (X:=fun w _=>laidMetH Tryz.prog Gj5 w) (fun _ _ _ hh h=>h.of_heap hh) Jt5 started (by kernel_rfl) Tryz.func6
  (ChangeSpec.witness_shaped (enc:=enc) (C:=Tryz.checked) (os:=os) (X:=fun w _=>laidMetH Tryz.prog Gj5 w) false (World.doorLaid Tryz.prog 400 os) #[.int .i64 0,.slice none 0 0] 8 rfl (World.shaped_of_RefB (by kernel_rfl) (by kernel_rfl)) (by kernel_rfl) (by kernel_rfl) (by kernel_rfl) (Jc2 os _)) ?_
 intro W base args ds gs before hval hW _ _ hL _
 have hW':=hW
 obtain ⟨p,q,hA,hV,rfl,hfz,hnd⟩:=hW
 rw [Tryz.params6] at hA hval
 obtain ⟨v0,v1,d0,d1,p0,p1,rfl,rfl,rfl,h0,h1⟩:=trodAll_two hA
 refine (Jj5 (hval 0 _ v0 rfl rfl) (hval 1 _ v1 rfl rfl) h0 h1 hL).mono fun e W' ⟨he,hb⟩=>?_
 subst he
 refine ⟨_,rfl,I14 Jp7 ?_ rfl Jq1 rfl (fun ds gs hl=>?_) hW' hb⟩
 ·rw [Tryz.params6];intro t ht;simp at ht;rcases ht with rfl|rfl<;>skip
  all_goals exact ⟨by kernel_rfl,of_decide_eq_true (by kernel_rfl)⟩
 ·replace hl:ds.length=2:=hl
  cases gs with
  | cons _ _=>exact .inr (by simp)
  | nil=>match ds,hl with|[_,_],_=>exact .inl rfl
theorem Jp4:Tryz.pinned.checked.prog.funcNamed Rows.hostWokenRow.func=some B8:=by kernel_rfl
theorem B2 {a b:Bool} (x:(a && b)=true):a=true:=by cases a<;>simp_all
theorem A85 {a b:Bool} (x:(a && b)=true):b=true:=by cases a<;>simp_all
theorem A03 {a b:Bool} (x:a=true) (y:b=true):(a && b)=true:=by rw [x,y];rfl
theorem Jv9:(Rows.hostWokenRow.wf (OpenSpec.ofChange Rows.hostWokenSpec) && laidOutB Tryz.pinned.checked.prog && mapsRowed Tryz.pinned.checked.prog && Tryz.f6.params.all (Tryz.pinned.checked.prog.readableRec ·) && namedTie Tryz.pinned.checked.prog Rows.hostWokenRow.named Rows.hostWokenSpec.vars && (Rows.hostWokenRow.stops==[]) && (Tryz.pinned.checked.prog.stops==[]) && (Rows.hostWokenRow.knobs==[]) && (Tryz.pinned.checked.prog.stopKnobs==[]))=true:=by kernel_rfl
theorem Io8:((Rows.hostWokenRow.inPlace==Tryz.pinned.checked.prog.inPlace B8) && (Rows.hostWokenRow.unfollowed==Tryz.pinned.checked.prog.unfollowed B8) && (Rows.hostWokenRow.recurses==Tryz.pinned.checked.prog.recurses B8) && (Rows.hostWokenRow.named==Tryz.pinned.checked.prog.varsNamed B8))=true:=by kernel_rfl
theorem Bg4:((Rows.hostWokenRow.maps==(Tryz.f6.params.toList++Rows.hostWokenSpec.plain.varTypes Tryz.pinned.checked.prog).any (Tryz.pinned.checked.prog.mapsRec ·)) && (Rows.hostWokenRow.ifaces==(Tryz.f6.params.toList++Rows.hostWokenSpec.plain.varTypes Tryz.pinned.checked.prog).any (Tryz.pinned.checked.prog.ifacesRec ·)) && (Rows.hostWokenRow.mapsOut==Tryz.pinned.checked.prog.mapsAmong Tryz.f6.resultTypes.toList) && (Rows.hostWokenRow.loops==(Tryz.f6.params.toList++Rows.hostWokenSpec.plain.varTypes Tryz.pinned.checked.prog).any (Tryz.pinned.checked.prog.loopsFrom ·)) && (Rows.hostWokenRow.wideKeys==(Tryz.f6.params.toList++Rows.hostWokenSpec.plain.varTypes Tryz.pinned.checked.prog++Tryz.f6.resultTypes.toList).any (Tryz.pinned.checked.prog.wideKeysFrom ·)) && Rows.hostWokenSpec.vars.all (Tryz.pinned.checked.prog.varReadable ·) && Tryz.f6.resultTypes.all (fun t=>Tryz.pinned.checked.prog.readableRec t && decide (t<Tryz.pinned.checked.prog.types.size)) && (Rows.hostWokenRow.ifacesOut==Tryz.f6.resultTypes.toList.any (Tryz.pinned.checked.prog.ifacesRec ·)) && (Rows.hostWokenRow.loopsOut==Tryz.f6.resultTypes.toList.any (Tryz.pinned.checked.prog.loopsFrom ·)) && (Rows.hostWokenRow.plainKeys==Tryz.pinned.checked.prog.plainKeys) && Rows.hostWokenRow.shortTexts.isNone && Tryz.pinned.checked.prog.stopsHeard && Tryz.pinned.checked.prog.mayEnter && (Rows.hostWokenRow.lifted==Tryz.pinned.checked.prog.liftsFinal) && (Tryz.pinned.checked.prog.make==some Rows.hostWokenRow.make) && (Rows.hostWokenRow.kinds==(if Rows.hostWokenRow.domain.isEmpty then [] else Tryz.f6.params.toList.map fun t=>match Tryz.pinned.checked.prog.underlying t with|some (.int k)=>some k|_=>none)) && (Rows.hostWokenRow.pinned==Rows.hostWokenRow.pinnedBy) && (Rows.hostWokenRow.veiled==(Tryz.f6.params.toList++Rows.hostWokenSpec.plain.varTypes Tryz.pinned.checked.prog++Tryz.f6.resultTypes.toList).any (Tryz.pinned.checked.prog.veiledRec ·)) && Rows.hostWokenRow.veiledFits Tryz.pinned.checked.prog Tryz.f6.params.toList (Tryz.f6.params.toList++Rows.hostWokenSpec.plain.varTypes Tryz.pinned.checked.prog++Tryz.f6.resultTypes.toList))=true:=by kernel_rfl
theorem I81:joinedFacts Tryz.pinned.checked.prog B8 Tryz.f6 Rows.hostWokenSpec Rows.hostWokenRow=true:=by
 unfold joinedFacts
 exact (A03 (A03 (A03 (A03 (A03 (A03 (A03 (A03 (A03 (A03 (A03 (A03 (A03 (A03 (A03 (A03 (A03 (A03 (A03 (A03 (A03 (A03 (A03 Jv9 (B2 (B2 (B2 Io8)))) (A85 (B2 (B2 Io8)))) (A85 (B2 Io8))) (A85 Io8)) (B2 (B2 (B2 (B2 (B2 (B2 (B2 (B2 (B2 (B2 (B2 (B2 (B2 (B2 (B2 (B2 (B2 (B2 Bg4))))))))))))))))))) (A85 (B2 (B2 (B2 (B2 (B2 (B2 (B2 (B2 (B2 (B2 (B2 (B2 (B2 (B2 (B2 (B2 (B2 Bg4))))))))))))))))))) (A85 (B2 (B2 (B2 (B2 (B2 (B2 (B2 (B2 (B2 (B2 (B2 (B2 (B2 (B2 (B2 (B2 Bg4)))))))))))))))))) (A85 (B2 (B2 (B2 (B2 (B2 (B2 (B2 (B2 (B2 (B2 (B2 (B2 (B2 (B2 (B2 Bg4))))))))))))))))) (A85 (B2 (B2 (B2 (B2 (B2 (B2 (B2 (B2 (B2 (B2 (B2 (B2 (B2 (B2 Bg4)))))))))))))))) (A85 (B2 (B2 (B2 (B2 (B2 (B2 (B2 (B2 (B2 (B2 (B2 (B2 (B2 Bg4))))))))))))))) (A85 (B2 (B2 (B2 (B2 (B2 (B2 (B2 (B2 (B2 (B2 (B2 (B2 Bg4)))))))))))))) (A85 (B2 (B2 (B2 (B2 (B2 (B2 (B2 (B2 (B2 (B2 (B2 Bg4))))))))))))) (A85 (B2 (B2 (B2 (B2 (B2 (B2 (B2 (B2 (B2 (B2 Bg4)))))))))))) (A85 (B2 (B2 (B2 (B2 (B2 (B2 (B2 (B2 (B2 Bg4))))))))))) (A85 (B2 (B2 (B2 (B2 (B2 (B2 (B2 (B2 Bg4)))))))))) (A85 (B2 (B2 (B2 (B2 (B2 (B2 (B2 Bg4))))))))) (A85 (B2 (B2 (B2 (B2 (B2 (B2 Bg4)))))))) (A85 (B2 (B2 (B2 (B2 (B2 Bg4))))))) (A85 (B2 (B2 (B2 (B2 Bg4)))))) (A85 (B2 (B2 (B2 Bg4))))) (A85 (B2 (B2 Bg4)))) (A85 (B2 Bg4))) (A85 Bg4))
theorem Jo5:Tryz.f6.isInstance Tryz.pinned.checked.prog Rows.hostWokenRow.origin Rows.hostWokenRow.targs:=of_decide_eq_true (by kernel_rfl)
theorem Jr5:Tryz.f6.isWrapper Tryz.pinned.checked.prog Rows.hostWokenRow.wrapper Rows.hostWokenRow.mainSum:=by unfold Func.isWrapper;first|(rw [if_pos (by decide +kernel)];kernel_rfl)|(rw [if_neg (by decide +kernel)];exact ⟨rfl,rfl⟩)
theorem Ju3:Rows.HostWokenSaid :=
 OpenClaim.holds_of_wide B8 Tryz.f6 rfl rfl rfl rfl rfl rfl rfl ⟨rfl,rfl,rfl,rfl,rfl⟩ rfl rfl rfl rfl rfl Jp4 Tryz.func6 I81 Jo5 Jr5
  (fun os started H enc _=>I56 os started H enc)
theorem HostWoken_holds:Rows.HostWokenCardSaid :=
 Claim7.holds_tied_plain_at .later [] [.data, .data] true (true, "6abb6189450580e97e10011ec0d2f79ddb92c782cabbe0c99113948bcd4fa8b9") false
  Ju3 (fun _ h=>by cases h) (by kernel_rfl) (fun _ h=>by cases h) hostWoken_row_tie rfl ⟨rfl,rfl⟩ (by kernel_rfl) rfl
  (fun f fn hf hfn=>by
   obtain rfl : f = B8 := Option.some.inj ((show Tryz.prog.funcNamed "commonage/commonagelaw21.HostWoken" = some B8 by kernel_rfl).symm.trans hf) |>.symm
   obtain rfl:fn=Tryz.f6:=(Option.some.inj (Tryz.func6.symm.trans hfn)).symm
   exact ⟨by kernel_rfl,fun j t ht=>by
    rw [Tryz.params6] at ht
    have hm:t ∈ [B5,Dp9]:=by simpa using Array.mem_of_getElem? ht
    have hall:([B5,Dp9].all fun u=>!Tryz.prog.wantsStandIn u)=true:=by kernel_rfl
    exact (show Tryz.prog.wantsStandIn t=false by simpa using List.all_eq_true.1 hall t hm)⟩)
  (by kernel_rfl)
end Go.EQ
