/- Records are read, set and freed as the document says, among others who write any bytes; what was bad once is bad for ever, for this one. -/
import Derived.Test.YtmhfkfijaamamaaGreatMf
set_option linter.all false
set_option maxRecDepth 10000
namespace Go.EQ
open Go Go.NN
theorem Am5 (l:List UInt8):(A0 l).length=l.length:=by simp [A0]
theorem Ee0 {l:List UInt8} {i:Nat} {x:UInt8} (h:l[i]?=some x):(A0 l)[i]?=some (.int .u8 x.toNat):=by
 unfold A0;rw [List.getElem?_map,h];rfl
theorem Iq4 (l:List UInt8) (x:Nat):(A0 l).take x=A0 (l.take x):=by unfold A0;rw [List.map_take]
theorem Ix5 (l m:List UInt8):A0 (l++m)=A0 l++A0 m:=by simp [A0]
def Ej7 (n:Int) (l:List UInt8):Int:=l.foldl (fun n c=>IntKind.wrap .u8 (n+c.toNat)) n
def Gt9 (l:List UInt8):Int:=Ej7 (IntKind.wrap .u8 l.length) l
theorem Ie0 (p:HP) (a:Option Addr) (ro:Bool) (n c d:Nat) (l:List UInt8) [ks:IsSl p a ro A2 1 n c (A0 l)] (x:Nat) (hx:x≤l.length) (hl:l.length≤A8):∀ (m i:Nat) (acc:Int),x-i=m→i≤x →
  S8 E9 Ac4 Bq8 [(3,.int .u8 acc),(9,.slice a x d),(10,int x),(11,int i)] [p] (.int .u8 (Ej7 acc ((l.take x).drop i))):=by
 intro m
 induction m with
 | zero =>
  intro i acc hm hi
  refine S8.of Ec0 fun h r=>Tr.eq (Ee4 ..) ?_;refine Je ?_
  refine Yf (by simp;omega) ?_
  refine Ys fun o=>?_
  rw [List.drop_eq_nil_of_le (by simp;omega)];exact ⟨rfl,rfl⟩
 | succ m ih =>
  intro i acc hm hi
  have hlt:i<(l.take x).length:=by rw [List.length_take];omega
  have hp:l[i]?=some (l.take x)[i]:=by
   rw [List.getElem_take];exact List.getElem?_eq_getElem (by omega)
  have hd:(l.take x).drop i=(l.take x)[i]::(l.take x).drop (i+1):=List.drop_eq_getElem_cons hlt
  generalize (l.take x)[i]=y at hp hd
  have e1:IntKind.wrap .i64 ((i:Int)+1)=((i+1:Nat):Int):=by rw [B0];simp only [A8] at hl;omega
  refine S8.of Ec0 fun h r=>Tr.eq (Ee4 ..) ?_;refine Je ?_
  refine Yt (by simp;omega) ?_
  refine Af0 0 rfl fun h1 h2 h3=>?_
  rw [Am5] at h1
  (refine Ja ?_;intros;repeat(refine Gw ?_;rintro px rfl;refine Ja ?_;intros))
  refine Tr.xIntS (v:=y.toNat) (by simpa using Ee0 hp) ?_
  rw [e1,hd]
  exact Aa7 (ih (i+1) _ (by omega) (by omega)) (r:=r) (by simp) fun o=>⟨rfl,rfl⟩
theorem Gn6 (p:HP) (a:Option Addr) (ro:Bool) (n c d:Nat) (l:List UInt8) [ks:IsSl p a ro A2 1 n c (A0 l)] (x:Nat) (hx:x≤l.length) (hl:l.length≤A8) :
  CtP A4 Ac4 [.slice a x d] [p] (.int .u8 (Gt9 (l.take x))):=by
 refine CtP.of Ec0 rfl fun h r=>Tr.eq (Hp8 ..) ?_;refine Je ?_
 have e:(l.take x).length=x:=by rw [List.length_take];omega
 have J:=Ie0 p a ro n c d l x hx hl _ 0 (IntKind.wrap .u8 x) rfl (by omega)
 rw [List.drop_zero] at J
 refine Aa7 J (r:=r) (by simp) fun o=>⟨?_,rfl⟩
 unfold Gt9;rw [e]
def D56:Nat→List UInt8→Int
 | _,[]=>-1
 | i,x::l=>if x≠0 then i else D56 (i+1) l
theorem G31:∀ (l:List UInt8) (i:Nat),decide (D56 i l≥0)=!l.all (·==0)
 | [],i=>by simp [D56]
 | x::l,i=>by
  unfold D56
  by_cases h:x=0
  ·rw [if_neg (by simp [h]),G31 l (i+1)];simp [h]
  ·rw [if_pos h];simp [h]
theorem I15 (x:UInt8):CtP A4 Aj2 [.int .u8 x.toNat] [] (.bool (x != 0)):=by
 refine CtP.of Gt0 rfl fun h r=>Tr.eq (Gr4 ..) ?_;refine Je ?_
 refine Ys fun o=>?_
 refine ⟨?_,rfl⟩
 congr 1
 have:((x.toNat:Int)=0)↔x=0:=by
  constructor
  ·intro h;exact UInt8.toNat.inj (by simpa using (show x.toNat=0 by omega))
  ·rintro rfl;rfl
 by_cases h:x=0
 ·subst h;rfl
 ·rw [bne_iff_ne.2 h,bne_iff_ne];intro h2;exact h (this.1 h2)
theorem Gf6 (p:HP) (a:Option Addr) (ro:Bool) (c:Nat) (l:List UInt8) [ks:IsSl p a ro A2 1 l.length c (A0 l)] (hl:l.length≤A8):∀ (m i:Nat),l.length-i=m→i≤l.length →
  S8 E9 G2 Q8 [(0,.slice a l.length c),(1,.func (.func Aj2) ⟨[]⟩ ⟨[]⟩),(7,int l.length),(8,int i)] [p] (int (D56 i (l.drop i))):=by
 intro m
 induction m with
 | zero =>
  intro i hm hi
  refine S8.of Ah1 fun h r=>Tr.eq (Av8 ..) ?_;refine Je ?_
  refine Yf (by simp;omega) ?_
  refine Ys fun o=>?_
  rw [List.drop_eq_nil_of_le (by omega)];exact ⟨rfl,rfl⟩
 | succ m ih =>
  intro i hm hi
  have hlt:i<l.length:=by omega
  have hp:l[i]?=some l[i]:=List.getElem?_eq_getElem hlt
  have hd:l.drop i=l[i]::l.drop (i+1):=List.drop_eq_getElem_cons hlt
  generalize l[i]=x at hp hd
  have e1:IntKind.wrap .i64 ((i:Int)+1)=((i+1:Nat):Int):=by rw [B0];simp only [A8] at hl;omega
  refine S8.of Ah1 fun h r=>Tr.eq (Av8 ..) ?_;refine Je ?_
  refine Yt (by simp;omega) ?_
  (refine Ja ?_;intros;repeat(refine Gw ?_;rintro px rfl;refine Ja ?_;intros))
  refine Tr.xIntS (v:=x.toNat) (by simpa using Ee0 hp) ?_
  (refine Ja ?_;intros)
  refine B45 (I15 x) (r:=p::r) (by simp) ?_
  by_cases hx:x=0
  ·have:(x != 0)=false:=by simp [hx]
   rw [this]
   (refine Ja ?_;intros)
   rw [e1]
   refine Aa7 (ih (i+1) (by omega) (by omega)) (r:=r) (by simp) fun o=>?_
   rw [hd,D56,if_neg (by simp [hx])];exact ⟨by first|rfl|trivial,by first|rfl|trivial⟩
  ·have:(x != 0)=true:=by simp [hx]
   rw [this]
   (refine Ja ?_;intros)
   refine Ys fun o=>?_
   rw [hd,D56,if_pos hx];exact ⟨by first|rfl|trivial,by first|rfl|trivial⟩
theorem Ih9 (p:HP) (a:Option Addr) (ro:Bool) (c:Nat) (l:List UInt8) [ks:IsSl p a ro A2 1 l.length c (A0 l)] (hl:l.length≤A8) :
  CtP A4 Ar5 [.slice a l.length c] [p] (.bool (l.all (·==0))):=by
 have j:CtP A4 G2 [.slice a l.length c,.func (.func Aj2) ⟨[]⟩ ⟨[]⟩] [p] (int (D56 0 l)):=by
  refine CtP.of Ah1 rfl fun h r=>Tr.eq (B67 ..) ?_;refine Je ?_
  exact Aa7 (Gf6 p a ro c l hl _ 0 rfl (by omega)) (r:=r) (by simp) fun o=>⟨rfl,rfl⟩
 have j2:CtP A4 R0 [.slice a l.length c,.func (.func Aj2) ⟨[]⟩ ⟨[]⟩] [p] (.bool (!l.all (·==0))):=by
  refine CtP.of Bx3 rfl fun h r=>Tr.eq (By9 ..) ?_;refine Je ?_
  refine B45 j (r:=r) (by simp) ?_
  (refine Ja ?_;intros)
  refine Ys fun o=>?_
  rw [G31];exact ⟨by first|rfl|trivial,by first|rfl|trivial⟩
 refine CtP.of G57 rfl fun h r=>Tr.eq (G75 ..) ?_;refine Je ?_
 refine B45 j2 (r:=r) (by simp) ?_
 (refine Ja ?_;intros)
 refine Ys fun o=>?_
 exact ⟨by simp,rfl⟩
theorem Hn7 (p q:HP) (a:Option Addr) (ro:Bool) (c:Nat) (a2:Option Addr) (ro2:Bool) (c2:Nat) (l m:List UInt8) [ks:IsSl p a ro A2 1 l.length c (A0 l)] [ks2:IsSl q a2 ro2 A2 1 m.length c2 (A0 m)] (hl:l.length≤A8) (hlm:m.length=l.length):∀ (k i:Nat),l.length-i=k→i≤l.length →
  S8 E9 D2 W7 [(0,.slice a l.length c),(1,.slice a2 m.length c2),(12,int l.length),(13,int i)] [p,q] (.bool (decide (l.drop i=m.drop i))):=by
 intro k
 induction k with
 | zero =>
  intro i hm hi
  refine S8.of Ar4 fun h r=>Tr.eq (A69 ..) ?_;refine Je ?_
  refine Yf (by simp;omega) ?_
  refine Ys fun o=>?_
  rw [List.drop_eq_nil_of_le (by omega),List.drop_eq_nil_of_le (by omega)];exact ⟨rfl,rfl⟩
 | succ k ih =>
  intro i hm hi
  have hlt:i<l.length:=by omega
  have hp:l[i]?=some l[i]:=List.getElem?_eq_getElem hlt
  have hd:l.drop i=l[i]::l.drop (i+1):=List.drop_eq_getElem_cons hlt
  have hlt2:i<m.length:=by omega
  have hp2:m[i]?=some m[i]:=List.getElem?_eq_getElem hlt2
  have hd2:m.drop i=m[i]::m.drop (i+1):=List.drop_eq_getElem_cons hlt2
  generalize l[i]=x at hp hd
  generalize m[i]=y at hp2 hd2
  have e1:IntKind.wrap .i64 ((i:Int)+1)=((i+1:Nat):Int):=by rw [B0];simp only [A8] at hl;omega
  refine S8.of Ar4 fun h r=>Tr.eq (A69 ..) ?_;refine Je ?_
  refine Yt (by simp;omega) ?_
  (refine Ja ?_;intros;repeat(refine Gw ?_;rintro px rfl;refine Ja ?_;intros))
  refine Tr.xIntS (v:=x.toNat) (by simpa using Ee0 hp) ?_
  (refine Ja ?_;intros;repeat(refine Gw ?_;rintro px rfl;refine Ja ?_;intros))
  refine Tr.xIntS (v:=y.toNat) (by simpa using Ee0 hp2) ?_
  by_cases hx:x=y
  ·subst hx
   refine Yf (by simp) ?_
   rw [e1]
   refine Aa7 (ih (i+1) (by omega) (by omega)) (r:=r) (by simp) fun o=>?_
   rw [hd,hd2];exact ⟨by simp,rfl⟩
  ·refine Yt (by rw [bne_iff_ne];intro h2;exact hx (UInt8.toNat.inj (by omega))) ?_
   refine Ys fun o=>?_
   rw [hd,hd2];exact ⟨by simp [hx],rfl⟩
theorem E53 (p q:HP) (a:Option Addr) (ro:Bool) (c:Nat) (a2:Option Addr) (ro2:Bool) (c2:Nat) (l m:List UInt8) [ks:IsSl p a ro A2 1 l.length c (A0 l)] [ks2:IsSl q a2 ro2 A2 1 m.length c2 (A0 m)] (hl:l.length≤A8) :
  CtP A4 D2 [.slice a l.length c,.slice a2 m.length c2] [p,q] (.bool (decide (l=m))):=by
 refine CtP.of Ar4 rfl fun h r=>Tr.eq (Dn0 ..) ?_;refine Je ?_
 by_cases h:m.length=l.length
 ·refine Yf (by simp [h]) ?_
  have J:=Hn7 p q a ro c a2 ro2 c2 l m hl h _ 0 rfl (by omega)
  simp only [List.drop_zero] at J
  exact Aa7 J (r:=r) (by simp) fun o=>⟨rfl,rfl⟩
 ·refine Yt (by rw [bne_iff_ne];omega) ?_
  refine Ys fun o=>?_
  exact ⟨by rw [decide_eq_false (fun e=>h (by rw [e]))],rfl⟩
theorem H71 (p:HP) (ro:Bool) (a:Option Addr) (c:Nat) (l:List UInt8) [ks:IsSl p a ro A2 1 l.length c (A0 l)] (hn:l.length≤A8) :
  Ct A4 G6 [.slice a l.length c] [p] fun v own=>∃ a' c',v=.slice a' l.length c'∧own [slC false A2 1 a' l.length c' (A0 l),p]:=by
 refine Ct.of Bi0 rfl fun h r=>Tr.eq (Bi6 ..) ?_;refine Je ?_
 refine Af0 0 rfl fun hl hc _=>?_
 refine Tr.cond (fun hb=>?_) fun hb=>?_
 ·obtain rfl:a=none:=by simpa using hb
  refine H8 false A2 1 (by omega) ?_
  intro o
  have o1:=(o.tail.head ks.en).slNone
  obtain rfl:l=[]:=by
   have:=o1.2.2.1
   cases l with
   | nil=>rfl
   | cons x l=>simp [A0] at this
  obtain rfl:c=0:=o1.2.1
  exact ⟨_,_,rfl,none,0,rfl,o⟩
 ·(refine Ja ?_;intros)
  refine Ak1 0 rfl 1 0 rfl (by omega) ?_;refine Je ?_
  (refine Ja ?_;intros)
  refine Tr.xApd ⟨by simp [A0],by simp [A0,Value.oneCell],by omega⟩ fun a' c' h'=>?_
  refine Je ?_
  refine Ys fun o=>⟨a',c',by simp,by simpa using o⟩
end Go.EQ
namespace Go.NN
section
variable {l:List HP} {h:H} {α:Type} {Q:α→H→Prop} {ro:Bool} {e:TypeId} {cs:List Value}
instance {f:Fn} {a c:Array Value} {k:Option α}:Dx (one (.func f a c) k) k:=⟨rfl⟩
theorem B42 {x:Option (α × H)} {p:HP} (i:Nat) {a:Option Addr} {sz n c:Nat} (hi:l[i]?=some p) [k:IsSl p a ro e sz n c cs] (hn:0<n) (t:∀ y,a=some y→Tr l h x Q):Tr l h x Q:=fun ow=>by
 obtain ⟨y,hy⟩:=((ow.front hi).head k.en).slSome hn
 exact t y hy ow
theorem Tr.xPCells {a:Option Addr} {n c sz:Nat} {vs cs':List Value} {l':List HP} {k:H→Option (α × H)} [k1:LkO l a false e sz n c cs] (hn:0<n) (hj:vs≠[]∧vs.length≤cs.length∧vs.all Value.oneCell=true∧vs++cs.drop vs.length=cs') [k2:UpO l a (slC false e sz a n c cs') e sz n c cs l'] (t:∀ h',Tr l' h' (k h') Q):Tr l h (NN.pCells a vs h k) Q:=fun ow=>by
 obtain ⟨i,p,hi,hp⟩:=k1.ix
 obtain ⟨y,rfl⟩:=((ow.front hi).head hp).slSome hn
 have:NN.pCells (Option.some y) vs h k=NN.pAgg ((B1 y).add 0) vs h k:=by
  show NN.pAgg (B1 y) vs h k=_
  congr 1
 rw [this]
 exact Tr.xPAggS (k1:=k1) ⟨hj.1,by omega,hj.2.2.1,by simpa using hj.2.2.2⟩ (k2:=k2) t ow
end
end Go.NN

set_option maxRecDepth 10000
namespace Go.EQ
open Go Go.NN
def b8 (x:Int):UInt8:=UInt8.ofNat (x%256).toNat
theorem Eo7 (x:Int):IntKind.wrap .u8 x=x%256:=Im7 x
theorem B62 (x:Int):IntKind.wrap .u8 x=((b8 x).toNat:Int):=by
 rw [Eo7,b8,UInt8.toNat_ofNat']
 omega
def Bv4 (l:List UInt8):UInt8:=b8 (Gt9 l)
theorem Hm8:∀ (l:List UInt8) (n:Int),0≤n∧n<256→0≤Ej7 n l∧Ej7 n l<256
 | [],n,h=>h
 | x::l,n,h=>Hm8 l _ (by show 0≤IntKind.wrap .u8 (n+x.toNat)∧IntKind.wrap .u8 (n+x.toNat)<256;rw [Eo7];omega)
theorem Dy3 (l:List UInt8):Gt9 l=((Bv4 l).toNat:Int):=by
 have:=Hm8 l (IntKind.wrap .u8 l.length) (by rw [Eo7];omega)
 unfold Bv4
 rw [← B62,Eo7]
 unfold Gt9 at *;omega
structure FileS where
 kind:Int
 pipe:Int
 refs:Int
 flags:Int
abbrev FileS.zero:FileS:=⟨0,0,0,0⟩
abbrev Z6 (f:FileS):List Value:=[int f.kind,int f.pipe,int f.refs,int f.flags]
def okF (f:FileS):Bool:=decide (f.kind≥1) && decide (f.kind≤3) && decide (f.pipe≥0) && decide (f.pipe≤7) && (f.kind != 3 || f.pipe==0) && decide (f.refs≥1) && decide (f.refs≤64) && (f.flags==0 || f.flags==1)
def Bs3 (f:FileS):List UInt8:=[b8 f.kind,b8 f.pipe,b8 f.refs,b8 f.flags,179]
def Bf2 (f:FileS):List UInt8:=Bs3 f++[Bv4 (Bs3 f),0,0]
theorem Iz2 (f:FileS):Ct A4 Dt9 [.agg ⟨Z6 f⟩] [] fun v own=>v=.bool (okF f)∧own []:=by
 refine Ct.of H25 rfl fun h r=>Tr.eq (H40 ..) ?_;refine Je ?_
 (refine Ja ?_;intros)
 refine Ys fun o=>?_
 refine ⟨?_,o.sub⟩
 rfl
theorem Ir6 (a:Option Addr) (c:Nat) (f:FileS):Ct A4 Av4 [.agg ⟨Z6 f⟩,.slice a 8 c] [slC false A2 1 a 8 c (A0 (List.replicate 8 0))] fun v own=>v=.bool (okF f)∧own [slC false A2 1 a 8 c (A0 (if okF f then Bf2 f else List.replicate 8 0))]:=by
 refine Ct.of Hq6 rfl fun h r=>Tr.eq (Hq0 ..) ?_;refine Je ?_
 (refine Ja ?_;intros)
 refine Yc (Iz2 f) ?_;rintro _ h ⟨rfl,o⟩<;>(refine Jf o ?_;intros)
 cases hk:okF f with
 | false =>
  (refine Ja ?_;intros)
  refine Ys fun o=>?_
  rw [if_neg (by simp)]
  exact ⟨rfl,o.sub⟩
 | true =>
  (refine Ja ?_;intros)
  simp only [B62,List.drop_zero,List.take]
  refine Af0 2 rfl fun hl hc _=>?_
  refine Tr.xPCells (cs':=A0 (Bs3 f++[0,0,0])) (by omega) ⟨by simp,by simp [A0],by simp [Value.oneCell],rfl⟩ fun h=>?_
  (refine Ja ?_;intros)
  refine Tr.pcall (Gn6 (slC false A2 1 a 8 c (A0 (Bs3 f++[0,0,0]))) a false 8 c c (Bs3 f++[0,0,0]) 5 (by simp [Bs3]) (by simp [Bs3,A8])) ?_
  refine Je ?_
  (refine Ja ?_;intros;repeat(refine Gw ?_;rintro px rfl;refine Ja ?_;intros))
  rw [show List.take 5 (Bs3 f++[0,0,0]:List UInt8)=Bs3 f from rfl,Dy3]
  refine Tr.xVS (cs':=A0 (Bf2 f)) ⟨by simp [A0,Bs3],rfl,rfl⟩ fun h=>?_
  refine Ys fun o=>?_
  simp only [if_true]
  exact ⟨trivial,o.sub⟩
theorem D79 {l:List Value} (h:l.all (fun v=>match v with|.int _ _=>true|_=>false)=true):Au0 (.agg ⟨l⟩) (.agg ⟨l⟩)=true:=by
 show B05 l l=true
 induction l with
 | nil=>rfl
 | cons v l ih =>
  simp only [List.all_cons,Bool.and_eq_true] at h
  show (A77 v v && B05 l l)=true
  rw [ih h.2,Bool.and_true]
  cases v<;>first|(simp [A77];done)|exact absurd h.1 (by simp)
abbrev Hk1 (k:Nat):HP:=pt k (.cells An9 false [int 8,.func (.func Av4) ⟨[]⟩ ⟨[]⟩,.func (.func Av9) ⟨[]⟩ ⟨[]⟩])
theorem Ho2 (k:Nat) (f:FileS):Ct A4 W6 [P0 k,.agg ⟨Z6 f⟩] [Hk1 k] fun v own=>(okF f=true∧∃ a,v=.tuple ⟨[.slice a 8 8,.bool true]⟩∧own [Hk1 k,slC false A2 1 a 8 8 (A0 (Bf2 f))])∨(okF f=false∧v=.tuple ⟨[.slice none 0 0,.bool false]⟩∧own [Hk1 k]):=by
 refine Ct.of Dc3 rfl fun h r=>Tr.eq (Dd2 ..) ?_;refine Je ?_
 (refine Ja ?_;intros)
 refine Tr.ck ⟨by omega,by omega,by simp [A8]⟩ ?_
 refine Yn fun b1 h=>?_
 rw [show G9 (Int.toNat 8) [.int .u8 0]=A0 (List.replicate 8 0) from rfl]
 refine Ak1 0 rfl 1 8 rfl (by omega) ?_
 simp only [List.set_cons_zero]
 refine Je ?_
 (refine Jb ?_;intros)
 refine Yb (Yf rfl ?_)
 (refine Jb ?_;intros)
 refine Yc (Ir6 (some ⟨b1,0,none⟩) 8 f) ?_;rintro _ h ⟨rfl,o⟩<;>(refine Jg o ?_;intros)
 refine Ys fun o=>(?_:Tr _ _ _ _) o;refine Je ?_
 cases hk:okF f with
 | false =>
  (refine Ja ?_;intros)
  refine Ys fun o=>?_
  exact .inr ⟨rfl,rfl,o.sub⟩
 | true =>
  (refine Ja ?_;intros)
  refine Ys fun o=>?_
  simp only [if_true] at o
  exact .inl ⟨rfl,_,rfl,o.sub⟩
theorem Is2:Ct A4 At2 [int 8,.func (.func Av4) ⟨[]⟩ ⟨[]⟩,.func (.func Av9) ⟨[]⟩ ⟨[]⟩] [] fun v own=>∃ k,v=P0 k∧own [pt k (.cells An9 false [int 8,.func (.func Av4) ⟨[]⟩ ⟨[]⟩,.func (.func Av9) ⟨[]⟩ ⟨[]⟩])]:=by
 refine Ct.of Ek4 rfl fun h r=>Tr.eq (En2 ..) ?_;refine Je ?_
 rw [show mm2 false (mm2 true 8 0) 64=8 from rfl]
 (refine Ja ?_;intros)
 refine Ys fun o=>?_
 exact ⟨_,rfl,o.sub⟩
theorem G34:Ct A4 Bh5 [] [] fun v own=>∃ k,v=P0 k∧own [pt k (.cells An9 false [int 8,.func (.func Av4) ⟨[]⟩ ⟨[]⟩,.func (.func Av9) ⟨[]⟩ ⟨[]⟩])]:=by
 refine Ct.of G67 rfl fun h r=>Tr.eq (G72 ..) ?_;refine Je ?_
 refine Yc (Is2) ?_;rintro _ h ⟨k,rfl,o⟩<;>(refine Jf o ?_;intros)
 refine Ys fun o=>?_
 exact ⟨_,rfl,o.sub⟩
theorem Gp9 (f:FileS):Ct A4 Bb2 [.agg ⟨Z6 f⟩] [] fun v own=>(okF f=true∧∃ a,v=.tuple ⟨[.slice a 8 8,.bool true]⟩∧own [slC false A2 1 a 8 8 (A0 (Bf2 f))])∨(okF f=false∧v=.tuple ⟨[.slice none 0 0,.bool false]⟩∧own []):=by
 refine Ct.of Gu0 rfl fun h r=>Tr.eq (Gw2 ..) ?_;refine Je ?_
 (refine Ja ?_;intros)
 refine Yc (G34) ?_;rintro _ h ⟨k,rfl,o⟩<;>(refine Jf o ?_;intros)
 refine Tr.same (D79 rfl) ?_
 refine Yc (Ho2 k f) ?_
 rintro v h (⟨hk,a,rfl,o⟩|⟨hk,rfl,o⟩)
 ·refine (?_:Tr _ _ _ _) o
  refine Je ?_
  (refine Ja ?_;intros)
  refine Ys fun o=>?_
  exact .inl ⟨hk,a,rfl,o.sub⟩
 ·refine (?_:Tr _ _ _ _) o
  refine Je ?_
  (refine Ja ?_;intros)
  refine Ys fun o=>?_
  exact .inr ⟨hk,rfl,o.sub⟩
theorem Af4 {l:List UInt8} {i:Nat} (h:i<l.length):(A0 l)[i]?=some (.int .u8 ((l.getD i 0).toNat:Int)):=by
 rw [List.getD_eq_getElem?_getD,List.getElem?_eq_getElem h];exact Ee0 (List.getElem?_eq_getElem h)
theorem Ac7 (x:UInt8):IntKind.wrap .i64 (x.toNat:Int)=(x.toNat:Int):=by
 have:=x.toNat_lt;rw [B0];omega
abbrev byI (l:List UInt8) (i:Nat):Int:=((l.getD i 0).toNat:Int)
def Bv3 (l:List UInt8):FileS:=⟨byI l 0,byI l 1,byI l 2,byI l 3⟩
def isF (l:List UInt8):Bool:=okF (Bv3 l) && decide (Bf2 (Bv3 l)=l)
theorem It7 (a:Option Addr) (c:Nat) (l:List UInt8) (hl:l.length=8):Ct A4 Av9 [.slice a 8 c] [slC false A2 1 a 8 c (A0 l)] fun v own=>v=.tuple ⟨[.agg ⟨Z6 (Bv3 l)⟩,.bool (isF l)]⟩∧own [slC false A2 1 a 8 c (A0 l)]:=by
 have key:∀ a1:Option Addr,CtP A4 D2 [.slice a1 8 8,.slice a 8 c] [slC false A2 1 a1 8 8 (A0 (Bf2 (Bv3 l))),slC false A2 1 a 8 c (A0 l)] (.bool (decide (Bf2 (Bv3 l)=l))):=fun a1=>by
  have J:=E53 (slC false A2 1 a1 8 8 (A0 (Bf2 (Bv3 l)))) (slC false A2 1 a l.length c (A0 l)) a1 false 8 a false c (Bf2 (Bv3 l)) l (by simp [Bf2,Bs3,A8])
  rwa [hl,show (Bf2 (Bv3 l)).length=8 from rfl] at J
 refine Ct.of Hq2 rfl fun h r=>Tr.eq (Hu1 ..) ?_;refine Je ?_
 refine Yn fun b1 h=>?_
 (refine Ja ?_;intros;repeat(refine Gw ?_;rintro px rfl;refine Ja ?_;intros))
 refine Tr.xIntS (v:=byI l 0) (Af4 (by omega)) ?_
 (refine Ja ?_;intros)
 refine Tr.xIntS (v:=byI l 1) (Af4 (by omega)) ?_
 (refine Ja ?_;intros)
 refine Tr.xIntS (v:=byI l 2) (Af4 (by omega)) ?_
 (refine Ja ?_;intros)
 refine Tr.xIntS (v:=byI l 3) (Af4 (by omega)) ?_
 simp only [byI,Ac7]
 refine Yn fun b2 h=>?_
 (refine Jb ?_;intros)
 refine Yc (Gp9 (Bv3 l)) ?_
 rintro v h (⟨hk,a1,rfl,o⟩|⟨hk,rfl,o⟩)
 ·refine (?_:Tr _ _ _ _) o
  refine Je ?_
  (refine Jb ?_;intros)
  refine Yb (Yt rfl ?_)
  refine Tr.pcall (key a1) ?_;refine Je ?_;(refine Jb ?_;intros)
  refine Tr.same (D79 rfl) ?_
  refine Ys fun o=>(?_:Tr _ _ _ _) o;refine Je ?_
  (refine Ja ?_;intros)
  refine Ys fun o=>?_
  exact ⟨by unfold isF;rw [hk,Bool.true_and];rfl,o.sub⟩
 ·refine (?_:Tr _ _ _ _) o
  refine Je ?_
  (refine Ja ?_;intros)
  refine Ys fun o=>?_
  exact ⟨by unfold isF;rw [hk];rfl,o.sub⟩
theorem Eo8 (n:Nat) (pb:HP) (ro:Bool) (a:Option Addr) (c:Nat) (l:List UInt8) (hl:l.length=n) (hn:n≤A8) [ks:IsSl pb a ro A2 1 n c (A0 l)]:Ct A4 G6 [.slice a n c] [pb] fun v own=>∃ a' c',v=.slice a' n c'∧own [slC false A2 1 a' n c' (A0 l),pb]:=by
 subst hl;exact H71 pb ro a c l hn
theorem El2 (n:Nat) (pb:HP) (ro:Bool) (a:Option Addr) (c:Nat) (l:List UInt8) (hl:l.length=n) (hn:n≤A8) [ks:IsSl pb a ro A2 1 n c (A0 l)]:CtP A4 Ar5 [.slice a n c] [pb] (.bool (l.all (·==0))):=by
 subst hl;exact Ih9 pb a ro c l hn
theorem Hb0 (k:Nat) (pb:HP) (ro:Bool) (a:Option Addr) (c:Nat) (l:List UInt8) (hl:l.length=8) [ks:IsSl pb a ro A2 1 8 c (A0 l)]:Ct A4 W5 [P0 k,.slice a 8 c] [Hk1 k,pb] fun v own=>v=.tuple ⟨[.agg ⟨Z6 (if isF l then Bv3 l else .zero)⟩,.bool (isF l)]⟩∧own [Hk1 k,pb]:=by
 refine Ct.of Dc9 rfl fun h r=>Tr.eq (Dd1 ..) ?_;refine Je ?_
 (refine Ja ?_;intros)
 refine Yf rfl ?_
 (refine Jb ?_;intros)
 refine Yc (Eo8 8 pb ro a c l hl (by simp [A8])) ?_;rintro _ h ⟨a1,c1,rfl,o⟩<;>(refine Jg o ?_;intros)
 refine Yc (It7 a1 c1 l hl) ?_;rintro _ h ⟨rfl,o⟩<;>(refine Jg o ?_;intros)
 cases hk:isF l with
 | false =>
  (refine Ja ?_;intros)
  refine Ys fun o=>?_
  exact ⟨rfl,o.sub⟩
 | true =>
  (refine Ja ?_;intros)
  refine Ys fun o=>?_
  exact ⟨rfl,o.sub⟩
def V3 (l:List UInt8):FileS × Int:=if l.all (·==0) then (.zero,0) else if isF l then (Bv3 l,1) else (.zero,2)
theorem Ht2 (pb:HP) (ro:Bool) (a:Option Addr) (c:Nat) (l:List UInt8) (hl:l.length=8) [ks:IsSl pb a ro A2 1 8 c (A0 l)]:Ct A4 Aw7 [.slice a 8 c] [pb] fun v own=>v=.tuple ⟨[.agg ⟨Z6 (V3 l).1⟩,int (V3 l).2]⟩∧own [pb]:=by
 refine Ct.of Gu6 rfl fun h r=>Tr.eq (Gu3 ..) ?_;refine Je ?_
 refine Yn fun b1 h=>?_
 refine Yb (Yt rfl ?_)
 refine Tr.pcall (El2 8 pb ro a c l hl (by simp [A8])) ?_;refine Je ?_;(refine Jb ?_;intros)
 refine Ys fun o=>(?_:Tr _ _ _ _) o;refine Je ?_
 cases hb:l.all (·==0) with
 | true =>
  (refine Ja ?_;intros)
  refine Ys fun o=>?_
  exact ⟨by unfold V3;rw [hb];rfl,o.sub⟩
 | false =>
  (refine Jb ?_;intros)
  refine Yc (G34) ?_;rintro _ h ⟨k,rfl,o⟩<;>(refine Jg o ?_;intros)
  refine Yc (Hb0 k pb ro a c l hl) ?_;rintro _ h ⟨rfl,o⟩<;>(refine Jg o ?_;intros)
  cases hk:isF l with
  | false =>
   (refine Ja ?_;intros)
   refine Ys fun o=>?_
   exact ⟨by unfold V3;rw [hb,hk];rfl,o.sub⟩
  | true =>
   (refine Ja ?_;intros)
   refine Ys fun o=>?_
   exact ⟨by unfold V3;rw [hb,hk];rfl,o.sub⟩
theorem H50 (a:Option Addr) (c:Nat) (l:List UInt8) (hl:l.length=8):Ct A4 Aw7 [.slice a 8 c] [slC false A2 1 a 8 c (A0 l)] fun v own=>v=.tuple ⟨[.agg ⟨Z6 (V3 l).1⟩,int (V3 l).2]⟩∧own [slC false A2 1 a 8 c (A0 l)]:=Ht2 (slC false A2 1 a 8 c (A0 l)) false a c l hl
structure PipeS where
 head:Int
 count:Int
 readers:Int
 writers:Int
 data:List UInt8
 len:data.length=32
abbrev PipeS.zero:PipeS:=⟨0,0,0,0,List.replicate 32 0,rfl⟩
abbrev D0 (p:PipeS):List Value:=int p.head::int p.count::int p.readers::int p.writers::A0 p.data
theorem O0 {p:PipeS} (hd:p.data.length=32):(D0 p).length=36:=by simp [D0,Am5,hd]
theorem Hy2 {p:PipeS} (hd:p.data.length=32):4+32≤(D0 p).length∧((D0 p).drop 4).take 32=A0 p.data:=⟨by rw [O0 hd];exact Nat.le_refl _,by
 rw [show (D0 p).drop 4=A0 p.data from rfl,List.take_of_length_le (by rw [Am5,hd];exact Nat.le_refl _)]⟩
theorem Gz9 (p:PipeS):(D0 p).all Value.oneCell=true:=by simp [D0,Aq9,Value.oneCell]
theorem H15 (p:PipeS):Au0 (.agg ⟨D0 p⟩) (.agg ⟨D0 p⟩)=true:=D79 (by simp [D0,A0])
instance {p:PipeS}:LenC (D0 p) 36:=⟨O0 p.len⟩
instance {p:PipeS}:PartC (D0 p) 0 36 (D0 p):=⟨Ex2 (O0 p.len)⟩
instance {p:PipeS} {cs:List Value} [k:LenC cs 36]:SetsC cs 0 (D0 p) (D0 p):=⟨B38 k.ok (O0 p.len) (Gz9 p)⟩
instance {p:PipeS}:SameC (.agg ⟨D0 p⟩):=⟨H15 p⟩
def okP (p:PipeS):Bool:=decide (0≤p.head∧p.head≤31) && decide (0≤p.count∧p.count≤32) && decide (0≤p.readers∧p.readers≤8) && decide (0≤p.writers∧p.writers≤8)
def Aq1 (p:PipeS):List UInt8:=[1,b8 p.head,b8 p.count,b8 p.readers,b8 p.writers,197]
def Al3 (p:PipeS):List UInt8:=Aq1 p++Bv4 (Aq1 p)::0::p.data
theorem Bo6 {p:PipeS} (hd:p.data.length=32):(Al3 p).length=40:=by simp [Al3,Aq1,hd]
theorem Ix7 (n m:Int):CtP A4 Av7 [int n,int m] [] (.bool (decide (0≤n∧n≤m))):=by
 refine CtP.of Hn9 rfl fun h r=>Tr.eq (Hp2 ..) ?_;refine Je ?_
 (refine Ja ?_;intros)
 refine Ys fun o=>?_
 refine ⟨?_,rfl⟩
 refine congrArg Value.bool ?_;rw [Bool.eq_iff_iff];simp only [Bool.and_eq_true,Bool.or_eq_true,Bool.not_eq_true',Bool.not_eq_false',decide_eq_true_eq,decide_eq_false_iff_not,bne_iff_ne,beq_iff_eq,ne_eq,B0,Ab6,Ab8,ge_iff_le,gt_iff_lt];first|done|omega
instance {n m:Int} {l:List HP}:PCi A4 Av7 [.int .i64 n,.int .i64 m] l (.bool (decide (0≤n∧n≤m))):=PCi.of (Ix7 n m)
theorem Ix2 (p:PipeS):Ct A4 D59 [.agg ⟨D0 p⟩] [] fun v own=>v=.bool (okP p)∧own []:=by
 refine Ct.of Ib6 rfl fun h r=>Tr.eq (If4 ..) ?_;refine Je ?_
 (refine Ja ?_;intros)
 refine Ys fun o=>?_
 exact ⟨rfl,o.sub⟩
theorem Iu4 (a:Option Addr) (c:Nat) (p:PipeS):Ct A4 Br8 [.agg ⟨D0 p⟩,.slice a 40 c] [slC false A2 1 a 40 c (A0 (List.replicate 40 0))] fun v own=>v=.bool (okP p)∧own [slC false A2 1 a 40 c (A0 (if okP p then Al3 p else List.replicate 40 0))]:=by
 have hd:=p.len
 refine Ct.of H10 rfl fun h r=>Tr.eq (H22 ..) ?_;refine Je ?_
 refine Yn fun b1 h=>?_
 (refine Ja ?_;intros)
 refine Yc (Ix2 p) ?_;rintro _ h ⟨rfl,o⟩<;>(refine Jg o ?_;intros)
 cases hk:okP p with
 | false =>
  (refine Ja ?_;intros)
  refine Ys fun o=>?_
  rw [if_neg (by simp)]
  exact ⟨rfl,o.sub⟩
 | true =>
  (refine Ja ?_;intros)
  simp only [B62,List.drop_zero,List.take]
  refine Af0 2 rfl fun hl hc _=>?_
  refine Tr.xPCells (cs':=A0 (Aq1 p++List.replicate 34 0)) (by omega) ⟨by simp,by simp [A0],by simp [Value.oneCell],rfl⟩ fun h=>?_
  (refine Ja ?_;intros)
  refine Tr.pcall (Gn6 (slC false A2 1 a 40 c (A0 (Aq1 p++List.replicate 34 0))) a false 40 c c (Aq1 p++List.replicate 34 0) 6 (by simp [Aq1]) (by simp [Aq1,A8])) ?_
  refine Je ?_
  (refine Ja ?_;intros;repeat(refine Gw ?_;rintro px rfl;refine Ja ?_;intros))
  rw [show List.take 6 (Aq1 p++List.replicate 34 0:List UInt8)=Aq1 p from rfl,Dy3]
  refine Tr.xVS (cs':=A0 (Aq1 p++Bv4 (Aq1 p)::List.replicate 33 0)) ⟨by simp [A0,Aq1],rfl,rfl⟩ fun h=>?_
  (refine Ja ?_;intros)
  refine Tr.xCellsB (xs:=A0 p.data) (Hy2 p.len) ?_
  rw [Hx2 (by omega),Hb7]
  refine Tr.xPAggS (cs':=A0 (Al3 p)) ⟨?_,?_,Aq9 _,?_⟩ fun h=>?_
  ·intro e;have:=congrArg List.length e;simp [A0,hd] at this
  ·simp [A0,hd,Aq1]
  ·rw [Am5,hd]
   simp [A0,Al3,Aq1]
  refine Ys fun o=>?_
  simp only [if_true]
  exact ⟨trivial,o.sub⟩
abbrev Gj1 (k:Nat):HP:=pt k (.cells Bz2 false [int 40,.func (.func Br8) ⟨[]⟩ ⟨[]⟩,.func (.func Bt1) ⟨[]⟩ ⟨[]⟩])
theorem Hr6 (k:Nat) (f:PipeS):Ct A4 W9 [P0 k,.agg ⟨D0 f⟩] [Gj1 k] fun v own=>(okP f=true∧∃ a,v=.tuple ⟨[.slice a 40 40,.bool true]⟩∧own [Gj1 k,slC false A2 1 a 40 40 (A0 (Al3 f))])∨(okP f=false∧v=.tuple ⟨[.slice none 0 0,.bool false]⟩∧own [Gj1 k]):=by
 refine Ct.of Dd0 rfl fun h r=>Tr.eq (Dc8 ..) ?_;refine Je ?_
 (refine Ja ?_;intros)
 refine Tr.ck ⟨by omega,by omega,by simp [A8]⟩ ?_
 refine Yn fun b1 h=>?_
 rw [show G9 (Int.toNat 40) [.int .u8 0]=A0 (List.replicate 40 0) from rfl]
 refine Ak1 0 rfl 1 40 rfl (by omega) ?_
 simp only [List.set_cons_zero]
 refine Je ?_
 (refine Jb ?_;intros)
 refine Yb (Yf rfl ?_)
 (refine Jb ?_;intros)
 refine Yc (Iu4 (some ⟨b1,0,none⟩) 40 f) ?_;rintro _ h ⟨rfl,o⟩<;>(refine Jg o ?_;intros)
 refine Ys fun o=>(?_:Tr _ _ _ _) o;refine Je ?_
 cases hk:okP f with
 | false =>
  (refine Ja ?_;intros)
  refine Ys fun o=>?_
  exact .inr ⟨rfl,rfl,o.sub⟩
 | true =>
  (refine Ja ?_;intros)
  refine Ys fun o=>?_
  simp only [if_true] at o
  exact .inl ⟨rfl,_,rfl,o.sub⟩
theorem Is6:Ct A4 At9 [int 40,.func (.func Br8) ⟨[]⟩ ⟨[]⟩,.func (.func Bt1) ⟨[]⟩ ⟨[]⟩] [] fun v own=>∃ k,v=P0 k∧own [Gj1 k]:=by
 refine Ct.of Ep2 rfl fun h r=>Tr.eq (Em6 ..) ?_;refine Je ?_
 rw [show mm2 false (mm2 true 40 0) 64=40 from rfl]
 (refine Ja ?_;intros)
 refine Ys fun o=>?_
 exact ⟨_,rfl,o.sub⟩
theorem G23:Ct A4 Bn6 [] [] fun v own=>∃ k,v=P0 k∧own [Gj1 k]:=by
 refine Ct.of Hj0 rfl fun h r=>Tr.eq (He3 ..) ?_;refine Je ?_
 refine Yc (Is6) ?_;rintro _ h ⟨k,rfl,o⟩<;>(refine Jf o ?_;intros)
 refine Ys fun o=>?_
 exact ⟨_,rfl,o.sub⟩
theorem Ep7 (f:PipeS):Ct A4 A16 [.agg ⟨D0 f⟩] [] fun v own=>(okP f=true∧∃ a,v=.tuple ⟨[.slice a 40 40,.bool true]⟩∧own [slC false A2 1 a 40 40 (A0 (Al3 f))])∨(okP f=false∧v=.tuple ⟨[.slice none 0 0,.bool false]⟩∧own []):=by
 refine Ct.of G63 rfl fun h r=>Tr.eq (G70 ..) ?_;refine Je ?_
 refine Yn fun b1 h=>?_
 (refine Ja ?_;intros)
 refine Yc (G23) ?_;rintro _ h ⟨k,rfl,o⟩<;>(refine Jg o ?_;intros)
 (refine Ja ?_;intros)
 refine Yc (Hr6 k f) ?_
 rintro v h (⟨hk,a,rfl,o⟩|⟨hk,rfl,o⟩)
 ·refine (?_:Tr _ _ _ _) o
  refine Je ?_
  (refine Ja ?_;intros)
  refine Ys fun o=>?_
  exact .inl ⟨hk,a,rfl,o.sub⟩
 ·refine (?_:Tr _ _ _ _) o
  refine Je ?_
  (refine Ja ?_;intros)
  refine Ys fun o=>?_
  exact .inr ⟨hk,rfl,o.sub⟩
def Br9 (l:List UInt8):List UInt8:=(l++List.replicate 32 0).take 32
theorem G39 (l:List UInt8):(Br9 l).length=32:=by simp [Br9]
theorem El7 {l:List UInt8} (h:l.length=32):Br9 l=l:=by simp [Br9,← h]
def Av1 (l:List UInt8):PipeS:=⟨byI l 1,byI l 2,byI l 3,byI l 4,Br9 (l.drop 8),G39 _⟩
def isP (l:List UInt8):Bool:=okP (Av1 l) && decide (Al3 (Av1 l)=l)
theorem Iq9 (a:Option Addr) (c:Nat) (l:List UInt8) (hl:l.length=40):Ct A4 Bt1 [.slice a 40 c] [slC false A2 1 a 40 c (A0 l)] fun v own=>v=.tuple ⟨[.agg ⟨D0 (Av1 l)⟩,.bool (isP l)]⟩∧own [slC false A2 1 a 40 c (A0 l)]:=by
 have hd:=(Av1 l).len
 have hp:Br9 (l.drop 8)=l.drop 8:=El7 (by simp [hl])
 have key:∀ a1:Option Addr,CtP A4 D2 [.slice a1 40 40,.slice a 40 c] [slC false A2 1 a1 40 40 (A0 (Al3 (Av1 l))),slC false A2 1 a 40 c (A0 l)] (.bool (decide (Al3 (Av1 l)=l))):=fun a1=>by
  have e:=Bo6 hd
  have J:=E53 (slC false A2 1 a1 (Al3 (Av1 l)).length 40 (A0 (Al3 (Av1 l)))) (slC false A2 1 a l.length c (A0 l)) a1 false 40 a false c (Al3 (Av1 l)) l (by rw [e];simp [A8])
  rwa [hl,e] at J
 refine Ct.of H33 rfl fun h r=>Tr.eq (H68 ..) ?_;refine Je ?_
 refine Yn fun b1 h=>?_
 refine Af0 1 rfl fun hl2 hc2 _=>?_
 (refine Ja ?_;intros;repeat(refine Gw ?_;rintro px rfl;refine Ja ?_;intros))
 refine Tr.xIntS (v:=byI l 1) (Af4 (by omega)) ?_
 (refine Ja ?_;intros)
 refine Tr.xIntS (v:=byI l 2) (Af4 (by omega)) ?_
 (refine Ja ?_;intros)
 refine Tr.xIntS (v:=byI l 3) (Af4 (by omega)) ?_
 (refine Ja ?_;intros)
 refine Tr.xIntS (v:=byI l 4) (Af4 (by omega)) ?_
 simp only [byI,Ac7]
 refine Yn fun b2 h=>?_
 (refine Jb ?_;intros)
 rw [Hx2 (show 8<c by omega),Hd1]
 refine Tr.xAggS (xs:=A0 (l.drop 8)) ⟨by omega,by simp [Am5,hl],?_⟩ ?_
 ·rw [A98,List.take_of_length_le (by simp [Am5,hl])]
 rw [show pCells (some (⟨b2,4,none⟩:Addr))=pAgg ⟨b2,4,none⟩ from rfl]
 refine Tr.xPAgg (cs':=D0 (Av1 l)) ⟨by simp [Am5,hl],Aq9 _,by simp [D0,Av1,byI,Am5,hl,hp]⟩ fun h=>?_
 (refine Ja ?_;intros)
 refine Yc (Ep7 (Av1 l)) ?_
 rintro v h (⟨hk,a1,rfl,o⟩|⟨hk,rfl,o⟩)
 ·refine (?_:Tr _ _ _ _) o
  refine Je ?_
  (refine Jb ?_;intros)
  refine Yb (Yt rfl ?_)
  refine Tr.pcall (key a1) ?_;refine Je ?_;(refine Jb ?_;intros)
  refine Ys fun o=>(?_:Tr _ _ _ _) o;refine Je ?_
  (refine Ja ?_;intros)
  refine Ys fun o=>?_
  exact ⟨by unfold isP;rw [hk,Bool.true_and],o.sub⟩
 ·refine (?_:Tr _ _ _ _) o
  refine Je ?_
  (refine Ja ?_;intros)
  refine Ys fun o=>?_
  exact ⟨by unfold isP;rw [hk];rfl,o.sub⟩
theorem Hg3 (k:Nat) (pb:HP) (ro:Bool) (a:Option Addr) (c:Nat) (l:List UInt8) (hl:l.length=40) [ks:IsSl pb a ro A2 1 40 c (A0 l)]:Ct A4 W4 [P0 k,.slice a 40 c] [Gj1 k,pb] fun v own=>v=.tuple ⟨[.agg ⟨D0 (if isP l then Av1 l else .zero)⟩,.bool (isP l)]⟩∧own [Gj1 k,pb]:=by
 have hd:=(Av1 l).len
 have hp:Br9 (l.drop 8)=l.drop 8:=El7 (by simp [hl])
 refine Ct.of Dc1 rfl fun h r=>Tr.eq (Dc5 ..) ?_;refine Je ?_
 (refine Ja ?_;intros)
 refine Yf rfl ?_
 (refine Jb ?_;intros)
 refine Yc (Eo8 40 pb ro a c l hl (by simp [A8])) ?_;rintro _ h ⟨a1,c1,rfl,o⟩<;>(refine Jg o ?_;intros)
 refine Yc (Iq9 a1 c1 l hl) ?_;rintro _ h ⟨rfl,o⟩<;>(refine Jg o ?_;intros)
 cases hk:isP l with
 | false =>
  (refine Ja ?_;intros)
  refine Ys fun o=>?_
  exact ⟨rfl,o.sub⟩
 | true =>
  (refine Ja ?_;intros)
  refine Ys fun o=>?_
  exact ⟨rfl,o.sub⟩
def H7 (l:List UInt8):PipeS × Int:=if l.all (·==0) then (.zero,0) else if isP l then (Av1 l,1) else (.zero,2)
theorem Ht7 (pb:HP) (ro:Bool) (a:Option Addr) (c:Nat) (l:List UInt8) (hl:l.length=40) [ks:IsSl pb a ro A2 1 40 c (A0 l)]:Ct A4 Aq6 [.slice a 40 c] [pb] fun v own=>v=.tuple ⟨[.agg ⟨D0 (H7 l).1⟩,int (H7 l).2]⟩∧own [pb]:=by
 have hd:=(Av1 l).len
 have hp:Br9 (l.drop 8)=l.drop 8:=El7 (by simp [hl])
 refine Ct.of G77 rfl fun h r=>Tr.eq (G52 ..) ?_;refine Je ?_
 refine Yn fun b1 h=>?_
 refine Yb (Yt rfl ?_)
 refine Tr.pcall (El2 40 pb ro a c l hl (by simp [A8])) ?_;refine Je ?_;(refine Jb ?_;intros)
 refine Ys fun o=>(?_:Tr _ _ _ _) o;refine Je ?_
 cases hb:l.all (·==0) with
 | true =>
  (refine Ja ?_;intros)
  refine Ys fun o=>?_
  exact ⟨by unfold H7;rw [hb];rfl,o.sub⟩
 | false =>
  (refine Jb ?_;intros)
  refine Yc (G23) ?_;rintro _ h ⟨k,rfl,o⟩<;>(refine Jg o ?_;intros)
  refine Yc (Hg3 k pb ro a c l hl) ?_;rintro _ h ⟨rfl,o⟩<;>(refine Jg o ?_;intros)
  cases hk:isP l with
  | false =>
   (refine Ja ?_;intros)
   refine Ys fun o=>?_
   exact ⟨by unfold H7;rw [hb,hk];rfl,o.sub⟩
  | true =>
   (refine Ja ?_;intros)
   refine Ys fun o=>?_
   exact ⟨by unfold H7;rw [hb,hk];rfl,o.sub⟩
theorem H26 (a:Option Addr) (c:Nat) (l:List UInt8) (hl:l.length=40):Ct A4 Aq6 [.slice a 40 c] [slC false A2 1 a 40 c (A0 l)] fun v own=>v=.tuple ⟨[.agg ⟨D0 (H7 l).1⟩,int (H7 l).2]⟩∧own [slC false A2 1 a 40 c (A0 l)]:=Ht7 (slC false A2 1 a 40 c (A0 l)) false a c l hl
structure ProcS where
 state:Int
 parent:Int
 group:Int
 code:Int
 pending:Int
 mask:Int
 ignored:Int
 caught:Int
 fds:List Int
 len:fds.length=8
abbrev E89:List Int:=[0,0,0,0,0,0,0,0]
abbrev ProcS.zero:ProcS:=⟨0,0,0,0,0,0,0,0,E89,rfl⟩
abbrev B9 (p:ProcS):List Value:=int p.state::int p.parent::int p.group::int p.code::int p.pending::int p.mask::int p.ignored::int p.caught::p.fds.map int
theorem Aa9 (p:ProcS):(B9 p).length=16:=by simp [B9,p.len]
theorem G41 (p:ProcS):(B9 p).all Value.oneCell=true:=by simp [B9,Value.oneCell]
instance {p:ProcS}:LenC (B9 p) 16:=⟨Aa9 p⟩
instance {p:ProcS}:PartC (B9 p) 0 16 (B9 p):=⟨Ex2 (Aa9 p)⟩
instance {p:ProcS}:PartC (B9 p) 8 8 (p.fds.map int):=⟨by
 have h:Nat.ble (8+8) (B9 p).length=true:=by rw [Aa9];rfl
 have e:((B9 p).drop 8).take 8=p.fds.map int:=by rw [show (B9 p).drop 8=p.fds.map int from rfl,List.take_of_length_le (by simp [p.len])]
 rw [B70,h,e];rfl⟩
instance {p:ProcS} {cs:List Value} [k:LenC cs 16]:SetsC cs 0 (B9 p) (B9 p):=⟨B38 k.ok (Aa9 p) (G41 p)⟩
instance {p:ProcS}:SameC (.agg ⟨B9 p⟩):=⟨D79 (by simp [B9])⟩
def Aq3 (n w:Int):Bool:=N9 .i64 n 65534==0 && B5 .i64 n w==0
def okS (p:ProcS):Bool :=
 !(decide (p.state<1) || decide (p.state>3) || decide (p.parent<0) || decide (p.parent>8) || decide (p.group<0) || decide (p.group≥8) || decide (p.code<0) || decide (p.code>255)) &&
 (!(!Aq3 p.pending 0 || !Aq3 p.mask 16896 || !Aq3 p.ignored 16896 || !Aq3 p.caught 16896 || B5 .i64 p.ignored p.caught != 0) &&
 (!(p.fds.any fun f=>decide (f<0) || decide (f>12)) &&
 (if p.state=2 then p.pending==0 && decide (p.fds=E89) else p.code==0)))
def hi2 (n:Int):UInt8:=if 0≤n∧n≤65535 then b8 (n / 256) else 0
def lo2 (n:Int):UInt8:=if 0≤n∧n≤65535 then b8 n else 0
abbrev put2 (n:Int):List UInt8:=[hi2 n,lo2 n]
def E84 (p:ProcS):List UInt8:=[b8 p.state,b8 p.parent,b8 p.group,b8 p.code]++(put2 p.pending++(put2 p.mask++(put2 p.ignored++(put2 p.caught++(p.fds.map b8++[167])))))
theorem In4 (n:Int):(put2 n).length=2:=rfl
theorem Ie7 (p:ProcS):(E84 p).length=21:=by simp [E84,In4,p.len]
def Bb4 (p:ProcS):List UInt8:=E84 p++[Bv4 (E84 p),0,0]
theorem El3 (p:ProcS):(Bb4 p).length=24:=by simp [Bb4,Ie7]
theorem Ir3 (n w:Int):CtP A4 Ap3 [int n,int w] [] (.bool (Aq3 n w)):=by
 refine CtP.of Hc4 rfl fun h r=>Tr.eq (Hb1 ..) ?_;refine Je ?_
 exact Jz
instance {n w:Int} {l:List HP}:PCi A4 Ap3 [.int .i64 n,.int .i64 w] l (.bool (Aq3 n w)):=PCi.of (Ir3 n w)
theorem Iu5 (f:Int):CtP A4 Bn4 [int f] [] (.bool (decide (f<0) || decide (f>12))):=by
 refine CtP.of Hj6 rfl fun h r=>Tr.eq (Hk9 ..) ?_;refine Je ?_
 exact Jz
theorem Gi4 (p:HP) (a:Option Addr) (ro:Bool) (c:Nat) (l:List Int) (g:FuncId) (f:Int→Bool) {e:TypeId} [ks:IsSl p a ro e 1 l.length c (l.map int)] (hl:l.length≤A8) (hf:∀ x,CtP A4 g [int x] [] (.bool (f x))):∀ (m i:Nat),l.length-i=m→i≤l.length →
  S8 E9 E0 N0 [(0,.slice a l.length c),(1,.func (.func g) ⟨[]⟩ ⟨[]⟩),(7,int l.length),(8,int i)] [p] (int (B01 f i (l.drop i))):=by
 intro m
 induction m with
 | zero =>
  intro i hm hi
  refine S8.of L5 fun h r=>Tr.eq (U4 ..) ?_;refine Je ?_
  refine Yf (by simp;omega) ?_
  refine Ys fun o=>?_
  rw [List.drop_eq_nil_of_le (by omega)];exact ⟨rfl,rfl⟩
 | succ m ih =>
  intro i hm hi
  have hlt:i<l.length:=by omega
  have hp:l[i]?=some l[i]:=List.getElem?_eq_getElem hlt
  have hd:l.drop i=l[i]::l.drop (i+1):=List.drop_eq_getElem_cons hlt
  generalize l[i]=x at hp hd
  have e1:IntKind.wrap .i64 ((i:Int)+1)=((i+1:Nat):Int):=by rw [B0];simp only [A8] at hl;omega
  refine S8.of L5 fun h r=>Tr.eq (U4 ..) ?_;refine Je ?_
  refine Yt (by simp;omega) ?_
  (refine Ja ?_;unhygienic intros;repeat(refine Gw ?_;rintro px rfl;refine Ja ?_;unhygienic intros))
  refine Tr.xIntS (v:=x) (by simp [hp]) ?_
  (refine Ja ?_;unhygienic intros)
  refine Tr.pcall (hf x) ?_
  cases hx:f x with
  | true =>
   (refine Ja ?_;unhygienic intros)
   refine Ys fun o=>?_
   rw [hd,B01,if_pos hx];exact ⟨by first|rfl|trivial,by first|rfl|trivial⟩
  | false =>
   (refine Ja ?_;unhygienic intros)
   rw [e1]
   refine Aa7 (ih (i+1) (by omega) (by omega)) (r:=r) (by simp) fun o=>?_
   rw [hd,B01,if_neg (by simp [hx])];exact ⟨by first|rfl|trivial,by first|rfl|trivial⟩
theorem Gi9 (p:HP) (a:Option Addr) (ro:Bool) (c:Nat) (l:List Int) (g:FuncId) (f:Int→Bool) {e:TypeId} [ks:IsSl p a ro e 1 l.length c (l.map int)] (hl:l.length≤A8) (hf:∀ x,CtP A4 g [int x] [] (.bool (f x))) :
  CtP A4 E7 [.slice a l.length c,.func (.func g) ⟨[]⟩ ⟨[]⟩] [p] (.bool (l.any f)):=by
 have j:CtP A4 E0 [.slice a l.length c,.func (.func g) ⟨[]⟩ ⟨[]⟩] [p] (int (B01 f 0 l)):=by
  refine CtP.of L5 rfl fun h r=>Tr.eq (Ba6 ..) ?_;refine Je ?_
  exact Aa7 (Gi4 p a ro c l g f hl hf _ 0 rfl (by omega)) (r:=r) (by simp) fun o=>⟨rfl,rfl⟩
 refine CtP.of A02 rfl fun h r=>Tr.eq (A01 ..) ?_;refine Je ?_
 refine B45 j (r:=r) (by simp) ?_
 (refine Ja ?_;unhygienic intros)
 refine Ys fun o=>?_
 rw [E45];exact ⟨by first|rfl|trivial,by first|rfl|trivial⟩
theorem Hf1:∀ (l m:List Int),l.length=m.length→eqs (l.map int) (m.map int)=some (decide (l=m))
 | [],[],_=>rfl
 | [],_::_,h=>by simp at h
 | _::_,[],h=>by simp at h
 | a::l,b::m,h=>by
  have ih:=Hf1 l m (by simpa using h)
  simp only [List.map_cons,eqs,eq1,decide_true,ih]
  by_cases h1:a=b<;>by_cases h2:l=m<;>simp [h1,h2]
theorem Em5:∀ (l:List Int),E4 (List.replicate l.length (TypeDesc.int .i64)) (l.map int)=true
 | []=>rfl
 | a::l=>by
  have:=Em5 l
  simp only [List.length_cons,List.replicate_succ,List.map_cons,E4,decide_true,this,Bool.and_self]
theorem eq8 {α:Type} (l m:List Int) (hl:l.length=8) (hm:m.length=8) (k:Bool→Option α):Af8 PR Gu2 (l.map int) (m.map int) k=k (decide (l=m)):=by
 have e:Ad7 PR 8 Gu2=some (List.replicate 8 (TypeDesc.int .i64)):=by kernel_rfl
 have f1:=Em5 l;have f2:=Em5 m
 rw [hl] at f1;rw [hm] at f2
 rw [Af8,e]
 simp only [f1,f2,Hf1 l m (by omega),Bool.and_self,ckB,cond_true,eqK]
theorem Iv9 (p:ProcS):Ct A4 Dt2 [.agg ⟨B9 p⟩] [] fun v own=>v=.bool (okS p)∧own []:=by
 have h8:=p.len
 refine Ct.of Hz7 rfl fun h r=>Tr.eq (H66 ..) ?_;refine Je ?_
 (refine Ja ?_;unhygienic intros)
 refine Tr.cond (fun h1=>?_) fun h1=>?_
 ·refine Ys fun o=>?_
  refine ⟨?_,o.sub⟩
  unfold okS;rw [h1];rfl
 (refine Ja ?_;unhygienic intros)
 refine Tr.cond (fun h2=>?_) fun h2=>?_
 ·refine Ys fun o=>?_
  refine ⟨?_,o.sub⟩
  unfold okS;rw [h1,h2];rfl
 (refine Ja ?_;unhygienic intros)
 refine Gv7 0 rfl [int p.state,int p.parent,int p.group,int p.code,int p.pending,int p.mask,int p.ignored,int p.caught] (p.fds.map int) [] (by simp [B9]) 1 8 8 8 ⟨by simp [h8],by omega,by simp,by simp [B9],by omega,by omega⟩ ?_
 refine Je ?_
 have J:=Gi9 (e:=B6) (slX false B6 1 (some ⟨b,8,none⟩) p.fds.length 8 ([int p.state,int p.parent,int p.group,int p.code,int p.pending,int p.mask,int p.ignored,int p.caught],[]) (p.fds.map int)) (some ⟨b,8,none⟩) false 8 p.fds Bn4 (fun f=>decide (f<0) || decide (f>12)) (by rw [h8];simp [A8]) Iu5
 rw [h8] at J
 refine Tr.pcall (J) ?_;refine Je ?_;(refine Ja ?_;unhygienic intros)
 refine E07 0 rfl (B9 p) (by simp [B9]) ?_
 refine Je ?_
 cases h3:p.fds.any fun f=>decide (f<0) || decide (f>12) with
 | true =>
  (refine Ja ?_;unhygienic intros)
  refine Ys fun o=>?_
  refine ⟨?_,o.sub⟩
  unfold okS;rw [h1,h2,h3];rfl
 | false =>
  (refine Ja ?_;unhygienic intros)
  have e:okS p=if p.state=2 then p.pending==0 && decide (p.fds=E89) else p.code==0:=by unfold okS;rw [h1,h2,h3];rfl
  rw [e]
  by_cases h4:p.state=2
  ·refine Yt (by simpa using h4) ?_
   rw [if_pos h4]
   (repeat' first|refine Gu ?_|(with_reducible first|refine Gn fun b h=>?_|apply Gx|apply Gy|rintro px rfl|apply Gw|refine fun(h:H)=>?_|intro hb)|refine Gs ?_|refine Gt ?_|exact Gz rfl|fail)
   rw [show ([int 0,int 0,int 0,int 0,int 0,int 0,int 0,int 0]:List Value)=E89.map int from rfl,eq8 _ _ h8 rfl]
   (repeat' first|refine Gu ?_|(with_reducible first|refine Gn fun b h=>?_|apply Gx|apply Gy|rintro px rfl|apply Gw|refine fun(h:H)=>?_|intro hb)|refine Gs ?_|refine Gt ?_|exact Gz rfl|fail)
   refine Ys fun o=>?_
   exact ⟨rfl,o.sub⟩
  ·refine Yf (by simpa using h4) ?_
   rw [if_neg h4]
   (refine Ja ?_;unhygienic intros)
   refine Ys fun o=>?_
   exact ⟨rfl,o.sub⟩
theorem It6 (a:Option Addr) (c:Nat) (cs:List Value) (j:Nat) (n:Int) (hj:j+2≤cs.length) (hm:cs.length≤A8):Ct A4 Bn8 [.slice a cs.length c,int j,int n] [slC false A2 1 a cs.length c cs] fun v own =>
  (∃ ok,v=.bool ok)∧own [slC false A2 1 a cs.length c (if 0≤n∧n≤65535 then (cs.set j (.int .u8 ((b8 (n / 256)).toNat:Int))).set (j+1) (.int .u8 ((b8 n).toNat:Int)) else cs)]:=by
 simp only [A8] at hm
 have e1:IntKind.wrap .i64 ((cs.length:Int)-2)=(cs.length:Int)-2:=by rw [B0];omega
 have e2:=wN j
 refine Ct.of Hb3 rfl fun h r=>Tr.eq (Hh9 ..) ?_;refine Je ?_
 rw [e1,e2]
 (refine Ja ?_;unhygienic intros)
 by_cases h:0≤n∧n≤65535
 ·refine Yf (by simp;omega) ?_
  rw [if_pos h]
  (refine Ja ?_;unhygienic intros;repeat(refine Gw ?_;rintro px rfl;refine Ja ?_;unhygienic intros))
  rw [Int.toNat_natCast,show Int.fdiv n (2 ^ 8)=n / 256 by rw [Int.fdiv_eq_ediv_of_nonneg _ (by omega)];rfl,B62,B62]
  refine Je ?_
  refine Tr.xVS (cs':=cs.set j (.int .u8 ((b8 (n / 256)).toNat:Int))) ⟨by omega,rfl,rfl⟩ fun h=>?_
  (refine Ja ?_;unhygienic intros)
  rw [Int.toNat_natCast]
  refine Je ?_
  refine Tr.xVS (cs':=(cs.set j (.int .u8 ((b8 (n / 256)).toNat:Int))).set (j+1) (.int .u8 ((b8 n).toNat:Int))) ⟨by simp;omega,rfl,rfl⟩ fun h=>?_
  refine Ys fun o=>?_
  exact ⟨⟨_,rfl⟩,o.sub⟩
 ·refine Yt (by simp;omega) ?_
  rw [if_neg h]
  refine Ys fun o=>?_
  exact ⟨⟨_,rfl⟩,o.sub⟩
theorem Ee9 (l:List UInt8) (j:Nat) (x:UInt8):(A0 l).set j (.int .u8 (x.toNat:Int))=A0 (l.set j x):=by simp [A0,List.map_set]
theorem El4 (a:Option Addr) (c m:Nat) (l:List UInt8) (j:Nat) (n:Int) (hm:l.length=m) (hj:j+2≤m) (h1:l[j]?=some 0) (h2:l[j+1]?=some 0) (hl:m≤A8):Ct A4 Bn8 [.slice a m c,int j,int n] [slC false A2 1 a m c (A0 l)] fun v own =>
  (∃ ok,v=.bool ok)∧own [slC false A2 1 a m c (A0 ((l.set j (hi2 n)).set (j+1) (lo2 n)))]:=by
 subst hm
 have J:=It6 a c (A0 l) j n (by rw [Am5];omega) (by rw [Am5];omega)
 rw [Am5] at J
 have e:(if 0≤n∧n≤65535 then ((A0 l).set j (.int .u8 ((b8 (n / 256)).toNat:Int))).set (j+1) (.int .u8 ((b8 n).toNat:Int)) else A0 l)=A0 ((l.set j (hi2 n)).set (j+1) (lo2 n)):=by
  unfold hi2 lo2
  split
  ·rw [Ee9,Ee9]
  ·rw [Ez1 h1,Ez1 h2]
 rw [e] at J
 exact J
def two (l:List UInt8) (j:Nat):Int:=byI l j*256+byI l (j+1)
theorem Ib2 (x y:UInt8):Dw8 .i64 (IntKind.wrap .i64 (IntKind.wrap .i64 (x.toNat:Int)*2 ^ 8)) (IntKind.wrap .i64 (y.toNat:Int))=(x.toNat:Int)*256+y.toNat:=by
 have hx:=x.toNat_lt;have hy:=y.toNat_lt
 have e1:IntKind.wrap .i64 (IntKind.wrap .i64 (x.toNat:Int)*2 ^ 8)=((x.toNat*256:Nat):Int):=by rw [Ac7,B0];omega
 rw [e1,Ac7]
 unfold Dw8
 have e0:IntKind.bits .i64=64:=rfl
 rw [e0,BitVec.ofInt_natCast,BitVec.ofInt_natCast,BitVec.toNat_or,BitVec.toNat_ofNat,BitVec.toNat_ofNat,Nat.mod_eq_of_lt (by omega),Nat.mod_eq_of_lt (by omega)]
 have e2:x.toNat*256 ||| y.toNat=x.toNat*256+y.toNat:=by
  have:=Nat.two_pow_add_eq_or_of_lt (i:=8) (b:=y.toNat) (by omega) x.toNat
  rw [show 2 ^ 8*x.toNat=x.toNat*256 by omega] at this
  exact this.symm
 rw [e2,B0];omega
theorem E85 (a:Option Addr) (c n:Nat) (l:List UInt8) (j:Nat) (hn:l.length=n) (hj:j+2≤n) (hm:n≤A8):CtP A4 B61 [.slice a n c,int j] [slC false A2 1 a n c (A0 l)] (.tuple ⟨[int (two l j),.bool true]⟩):=by
 simp only [A8] at hm
 have e1:IntKind.wrap .i64 ((n:Int)-2)=(n:Int)-2:=by rw [B0];omega
 have e2:=wN j
 refine CtP.of Hd9 rfl fun h r=>Tr.eq (Hj8 ..) ?_;refine Je ?_
 rw [e1,e2]
 (refine Ja ?_;unhygienic intros)
 refine Yf (by simp;omega) ?_
 (refine Ja ?_;unhygienic intros;repeat(refine Gw ?_;rintro px rfl;refine Ja ?_;unhygienic intros))
 rw [Int.toNat_natCast]
 refine Je ?_
 refine Tr.xIntS (v:=byI l j) (Af4 (by omega)) ?_
 (refine Ja ?_;unhygienic intros)
 rw [Int.toNat_natCast]
 refine Je ?_
 refine Tr.xIntS (v:=byI l (j+1)) (Af4 (by omega)) ?_
 refine Ys fun o=>?_
 rw [Ib2];exact ⟨rfl,rfl⟩
theorem Ir2 (a:Option Addr) (c:Nat) (p:ProcS):Ct A4 O3 [.agg ⟨B9 p⟩,.slice a 24 c] [slC false A2 1 a 24 c (A0 (List.replicate 24 0))] fun v own=>v=.bool (okS p)∧own [slC false A2 1 a 24 c (A0 (if okS p then Bb4 p else List.replicate 24 0))]:=by
 refine Ct.of I2 rfl fun h r=>Tr.eq (Ht8 ..) ?_;refine Je ?_
 refine Yn fun b1 h=>?_
 (refine Ja ?_;intros)
 refine Yc (Iv9 p) ?_;rintro _ h ⟨rfl,o⟩<;>(refine Jf o ?_;intros)
 cases hk:okS p with
 | false =>
  (refine Ja ?_;intros)
  refine Ys fun o=>?_
  rw [if_neg (by simp)]
  exact ⟨rfl,o.sub⟩
 | true =>
  simp only [if_true]
  obtain ⟨st,pa,gr,co,pe,ma,ig,ca,fds,len⟩:=p
  match fds,len with
  | [f0,f1,f2,f3,f4,f5,f6,f7],len =>
  (refine Ja ?_;intros)
  rename_i b2 h2
  refine Af0 2 rfl fun hl hc _=>?_
  simp only [List.map]
  refine Tr.jmp I2 (Tr.eq (Ba8 ..) ?_);(try simp only[Nr,Nl,wl,Nat.reduceAdd,Nat.reduceMul,Int.reduceToNat])
  (refine Jd ?_;intros;repeat(refine Gw ?_;rintro px rfl;refine Jd ?_;intros))
  refine Tr.jmp I2 (Tr.eq (Ba8 ..) ?_);(try simp only[Nr,Nl,wl,Nat.reduceAdd,Nat.reduceMul,Int.reduceToNat])
  (refine Jd ?_;intros)
  refine Tr.jmp I2 (Tr.eq (Ba8 ..) ?_);(try simp only[Nr,Nl,wl,Nat.reduceAdd,Nat.reduceMul,Int.reduceToNat])
  (refine Jd ?_;intros)
  refine Tr.jmp I2 (Tr.eq (Ba8 ..) ?_);(try simp only[Nr,Nl,wl,Nat.reduceAdd,Nat.reduceMul,Int.reduceToNat])
  (refine Jd ?_;intros)
  refine Tr.jmp I2 (Tr.eq (Ba8 ..) ?_);(try simp only[Nr,Nl,wl,Nat.reduceAdd,Nat.reduceMul,Int.reduceToNat])
  (refine Jd ?_;intros)
  simp only [B62,Ee9,List.replicate,List.set_cons_zero,List.set_cons_succ,Nat.mul_one]
  refine Tr.jmp I2 (Tr.eq (A95 ..) ?_);(try simp only[Nr,Nl,wl,Nat.reduceAdd,Nat.reduceMul,Int.reduceToNat])
  (refine Jd ?_;intros)
  refine Yc (El4 (some px) c 24 [b8 st,b8 pa,b8 gr,b8 co,0,0,0,0,0,0,0,0,0,0,0,0,0,0,0,0,0,0,0,0] 4 pe rfl (by omega) rfl rfl (by simp [A8])) ?_;rintro _ h ⟨⟨_,rfl⟩,o⟩<;>(refine Jf o ?_;intros)
  refine Tr.jmp I2 (Tr.eq (A95 ..) ?_);(try simp only[Nr,Nl,wl,Nat.reduceAdd,Nat.reduceMul,Int.reduceToNat])
  (refine Jd ?_;intros)
  refine Yc (El4 (some px) c 24 [b8 st,b8 pa,b8 gr,b8 co,hi2 pe,lo2 pe,0,0,0,0,0,0,0,0,0,0,0,0,0,0,0,0,0,0] 6 ma rfl (by omega) rfl rfl (by simp [A8])) ?_;rintro _ h ⟨⟨_,rfl⟩,o⟩<;>(refine Jf o ?_;intros)
  refine Tr.jmp I2 (Tr.eq (A95 ..) ?_);(try simp only[Nr,Nl,wl,Nat.reduceAdd,Nat.reduceMul,Int.reduceToNat])
  (refine Jd ?_;intros)
  refine Yc (El4 (some px) c 24 [b8 st,b8 pa,b8 gr,b8 co,hi2 pe,lo2 pe,hi2 ma,lo2 ma,0,0,0,0,0,0,0,0,0,0,0,0,0,0,0,0] 8 ig rfl (by omega) rfl rfl (by simp [A8])) ?_;rintro _ h ⟨⟨_,rfl⟩,o⟩<;>(refine Jf o ?_;intros)
  refine Tr.jmp I2 (Tr.eq (A95 ..) ?_);(try simp only[Nr,Nl,wl,Nat.reduceAdd,Nat.reduceMul,Int.reduceToNat])
  (refine Jd ?_;intros)
  refine Yc (El4 (some px) c 24 [b8 st,b8 pa,b8 gr,b8 co,hi2 pe,lo2 pe,hi2 ma,lo2 ma,hi2 ig,lo2 ig,0,0,0,0,0,0,0,0,0,0,0,0,0,0] 10 ca rfl (by omega) rfl rfl (by simp [A8])) ?_;rintro _ h ⟨⟨_,rfl⟩,o⟩<;>(refine Jf o ?_;intros)
  refine Tr.jmp I2 (Tr.eq (A95 ..) ?_);(try simp only[Nr,Nl,wl,Nat.reduceAdd,Nat.reduceMul,Int.reduceToNat])
  (refine Jd ?_;intros)
  refine Tr.jmp I2 (Tr.eq (Aa1 ..) ?_);(try simp only[Nr,Nl,wl,Nat.reduceAdd,Nat.reduceMul,Int.reduceToNat])
  (refine Jd ?_;intros)
  refine Tr.jmp I2 (Tr.eq (Aa1 ..) ?_);(try simp only[Nr,Nl,wl,Nat.reduceAdd,Nat.reduceMul,Int.reduceToNat])
  (refine Jd ?_;intros)
  refine Tr.jmp I2 (Tr.eq (Aa1 ..) ?_);(try simp only[Nr,Nl,wl,Nat.reduceAdd,Nat.reduceMul,Int.reduceToNat])
  (refine Jd ?_;intros)
  refine Tr.jmp I2 (Tr.eq (Aa1 ..) ?_);(try simp only[Nr,Nl,wl,Nat.reduceAdd,Nat.reduceMul,Int.reduceToNat])
  (refine Jd ?_;intros)
  refine Tr.jmp I2 (Tr.eq (Aa1 ..) ?_);(try simp only[Nr,Nl,wl,Nat.reduceAdd,Nat.reduceMul,Int.reduceToNat])
  (refine Jd ?_;intros)
  refine Tr.jmp I2 (Tr.eq (Aa1 ..) ?_);(try simp only[Nr,Nl,wl,Nat.reduceAdd,Nat.reduceMul,Int.reduceToNat])
  (refine Jd ?_;intros)
  refine Tr.jmp I2 (Tr.eq (Aa1 ..) ?_);(try simp only[Nr,Nl,wl,Nat.reduceAdd,Nat.reduceMul,Int.reduceToNat])
  (refine Jd ?_;intros)
  refine Tr.jmp I2 (Tr.eq (Aa1 ..) ?_);(try simp only[Nr,Nl,wl,Nat.reduceAdd,Nat.reduceMul,Int.reduceToNat])
  (refine Jd ?_;intros)
  refine Tr.jmp I2 (Tr.eq (Aa1 ..) ?_);(try simp only[Nr,Nl,wl,Nat.reduceAdd,Nat.reduceMul,Int.reduceToNat])
  (refine Jd ?_;intros)
  simp only [B62,Ee9,List.set_cons_zero,List.set_cons_succ,Nat.mul_one]
  rw [show (.int .u8 167:Value)=.int .u8 ((167:UInt8).toNat:Int) from rfl,Ee9]
  simp only [List.set_cons_zero,List.set_cons_succ]
  refine Tr.pcall (Gn6 (slC false A2 1 (some px) 24 c (A0 [b8 st,b8 pa,b8 gr,b8 co,hi2 pe,lo2 pe,hi2 ma,lo2 ma,hi2 ig,lo2 ig,hi2 ca,lo2 ca,b8 f0,b8 f1,b8 f2,b8 f3,b8 f4,b8 f5,b8 f6,b8 f7,167,0,0,0])) (some px) false 24 c c [b8 st,b8 pa,b8 gr,b8 co,hi2 pe,lo2 pe,hi2 ma,lo2 ma,hi2 ig,lo2 ig,hi2 ca,lo2 ca,b8 f0,b8 f1,b8 f2,b8 f3,b8 f4,b8 f5,b8 f6,b8 f7,167,0,0,0] 21 (by simp) (by simp [A8])) ?_
  refine Je ?_
  (refine Ja ?_;intros)
  rw [Dy3]
  (refine Jd ?_;intros)
  refine Ys fun o=>?_
  rw [Ee9] at o
  simp only [List.set_cons_zero,List.set_cons_succ] at o
  simp only [Bb4,E84,put2,List.map,List.cons_append,List.nil_append]
  exact ⟨trivial,o.sub⟩
abbrev Gf7 (k:Nat):HP:=pt k (.cells By2 false [int 24,.func (.func O3) ⟨[]⟩ ⟨[]⟩,.func (.func Z0) ⟨[]⟩ ⟨[]⟩])
theorem Hp1 (k:Nat) (f:ProcS):Ct A4 W3 [P0 k,.agg ⟨B9 f⟩] [Gf7 k] fun v own=>(okS f=true∧∃ a,v=.tuple ⟨[.slice a 24 24,.bool true]⟩∧own [Gf7 k,slC false A2 1 a 24 24 (A0 (Bb4 f))])∨(okS f=false∧v=.tuple ⟨[.slice none 0 0,.bool false]⟩∧own [Gf7 k]):=by
 refine Ct.of Dc2 rfl fun h r=>Tr.eq (Dc7 ..) ?_;refine Je ?_
 (refine Ja ?_;intros)
 refine Tr.ck ⟨by omega,by omega,by simp [A8]⟩ ?_
 refine Yn fun b1 h=>?_
 rw [show G9 (Int.toNat 24) [.int .u8 0]=A0 (List.replicate 24 0) from rfl]
 refine Ak1 0 rfl 1 24 rfl (by omega) ?_
 simp only [List.set_cons_zero]
 refine Je ?_
 (refine Jb ?_;intros)
 refine Yb (Yf rfl ?_)
 (refine Jb ?_;intros)
 refine Yc (Ir2 (some ⟨b1,0,none⟩) 24 f) ?_;rintro _ h ⟨rfl,o⟩<;>(refine Jg o ?_;intros)
 refine Ys fun o=>(?_:Tr _ _ _ _) o;refine Je ?_
 cases hk:okS f with
 | false =>
  (refine Ja ?_;intros)
  refine Ys fun o=>?_
  exact .inr ⟨rfl,rfl,o.sub⟩
 | true =>
  (refine Ja ?_;intros)
  refine Ys fun o=>?_
  simp only [if_true] at o
  exact .inl ⟨rfl,_,rfl,o.sub⟩
theorem Is7:Ct A4 As9 [int 24,.func (.func O3) ⟨[]⟩ ⟨[]⟩,.func (.func Z0) ⟨[]⟩ ⟨[]⟩] [] fun v own=>∃ k,v=P0 k∧own [Gf7 k]:=by
 refine Ct.of Ep9 rfl fun h r=>Tr.eq (Ek2 ..) ?_;refine Je ?_
 rw [show mm2 false (mm2 true 24 0) 64=24 from rfl]
 (refine Ja ?_;intros)
 refine Ys fun o=>?_
 exact ⟨_,rfl,o.sub⟩
theorem G08:Ct A4 Bh4 [] [] fun v own=>∃ k,v=P0 k∧own [Gf7 k]:=by
 refine Ct.of G51 rfl fun h r=>Tr.eq (G71 ..) ?_;refine Je ?_
 refine Yc (Is7) ?_;rintro _ h ⟨k,rfl,o⟩<;>(refine Jf o ?_;intros)
 refine Ys fun o=>?_
 exact ⟨_,rfl,o.sub⟩
theorem Gr0 (f:ProcS):Ct A4 Bb9 [.agg ⟨B9 f⟩] [] fun v own=>(okS f=true∧∃ a,v=.tuple ⟨[.slice a 24 24,.bool true]⟩∧own [slC false A2 1 a 24 24 (A0 (Bb4 f))])∨(okS f=false∧v=.tuple ⟨[.slice none 0 0,.bool false]⟩∧own []):=by
 refine Ct.of Gt6 rfl fun h r=>Tr.eq (Gw8 ..) ?_;refine Je ?_
 (refine Ja ?_;intros)
 refine Yc (G08) ?_;rintro _ h ⟨k,rfl,o⟩<;>(refine Jg o ?_;intros)
 refine Yc (Hp1 k f) ?_
 rintro v h (⟨hk,a,rfl,o⟩|⟨hk,rfl,o⟩)
 ·refine (?_:Tr _ _ _ _) o
  refine Je ?_
  (refine Ja ?_;intros)
  refine Ys fun o=>?_
  exact .inl ⟨hk,a,rfl,o.sub⟩
 ·refine (?_:Tr _ _ _ _) o
  refine Je ?_
  (refine Ja ?_;intros)
  refine Ys fun o=>?_
  exact .inr ⟨hk,rfl,o.sub⟩
def Aw9 (l:List UInt8):ProcS:=⟨byI l 0,byI l 1,byI l 2,byI l 3,two l 4,two l 6,two l 8,two l 10,[byI l 12,byI l 13,byI l 14,byI l 15,byI l 16,byI l 17,byI l 18,byI l 19],rfl⟩
def isS (l:List UInt8):Bool:=okS (Aw9 l) && decide (Bb4 (Aw9 l)=l)
theorem Iv0 (a:Option Addr) (c:Nat) (l:List UInt8) (hl:l.length=24):Ct A4 Z0 [.slice a 24 c] [slC false A2 1 a 24 c (A0 l)] fun v own=>v=.tuple ⟨[.agg ⟨B9 (Aw9 l)⟩,.bool (isS l)]⟩∧own [slC false A2 1 a 24 c (A0 l)]:=by
 have key:∀ a1:Option Addr,CtP A4 D2 [.slice a1 24 24,.slice a 24 c] [slC false A2 1 a1 24 24 (A0 (Bb4 (Aw9 l))),slC false A2 1 a 24 c (A0 l)] (.bool (decide (Bb4 (Aw9 l)=l))):=fun a1=>by
  have e:=El3 (Aw9 l)
  have J:=E53 (slC false A2 1 a1 (Bb4 (Aw9 l)).length 24 (A0 (Bb4 (Aw9 l)))) (slC false A2 1 a l.length c (A0 l)) a1 false 24 a false c (Bb4 (Aw9 l)) l (by rw [e];simp [A8])
  rwa [hl,e] at J
 refine Ct.of O4 rfl fun h r=>Tr.eq (Hq3 ..) ?_;refine Je ?_
 refine Yn fun b1 h=>?_
 refine Af0 1 rfl fun hl2 hc2 _=>?_
 (refine Ja ?_;intros;repeat(refine Gw ?_;rintro px rfl;refine Ja ?_;intros))
 refine Tr.xIntS (v:=byI l 0) (Af4 (by omega)) ?_
 (refine Ja ?_;intros)
 refine Tr.xIntS (v:=byI l 1) (Af4 (by omega)) ?_
 (refine Ja ?_;intros)
 refine Tr.xIntS (v:=byI l 2) (Af4 (by omega)) ?_
 (refine Ja ?_;intros)
 refine Tr.xIntS (v:=byI l 3) (Af4 (by omega)) ?_
 (refine Ja ?_;intros)
 simp only [byI,Ac7]
 refine Tr.jmp O4 (Tr.eq (Bc2 ..) ?_);(try simp only[Nr,Nl,wl,Nat.reduceAdd,Nat.reduceMul,Int.reduceToNat])
 (refine Jd ?_;intros)
 refine Tr.pcall (E85 (some px) c 24 l 4 hl (by omega) (by simp [A8])) ?_;refine Je ?_;(refine Ja ?_;intros)
 refine Tr.jmp O4 (Tr.eq (Bc2 ..) ?_);(try simp only[Nr,Nl,wl,Nat.reduceAdd,Nat.reduceMul,Int.reduceToNat])
 (refine Jd ?_;intros)
 refine Tr.pcall (E85 (some px) c 24 l 6 hl (by omega) (by simp [A8])) ?_;refine Je ?_;(refine Ja ?_;intros)
 refine Tr.jmp O4 (Tr.eq (Bc2 ..) ?_);(try simp only[Nr,Nl,wl,Nat.reduceAdd,Nat.reduceMul,Int.reduceToNat])
 (refine Jd ?_;intros)
 refine Tr.pcall (E85 (some px) c 24 l 8 hl (by omega) (by simp [A8])) ?_;refine Je ?_;(refine Ja ?_;intros)
 refine Tr.jmp O4 (Tr.eq (Bc2 ..) ?_);(try simp only[Nr,Nl,wl,Nat.reduceAdd,Nat.reduceMul,Int.reduceToNat])
 (refine Jd ?_;intros)
 refine Tr.pcall (E85 (some px) c 24 l 10 hl (by omega) (by simp [A8])) ?_;refine Je ?_;(refine Ja ?_;intros)
 refine Tr.jmp O4 (Tr.eq (Bc2 ..) ?_);(try simp only[Nr,Nl,wl,Nat.reduceAdd,Nat.reduceMul,Int.reduceToNat])
 (refine Jd ?_;intros)
 refine Tr.jmp O4 (Tr.eq (Z3 ..) ?_);(try simp only[Nr,Nl,wl,Nat.reduceAdd,Nat.reduceMul,Int.reduceToNat])
 (refine Jd ?_;intros)
 refine Tr.xIntS (v:=byI l 12) (Af4 (by omega)) ?_
 (refine Jd ?_;intros)
 simp only [byI,Ac7]
 refine Tr.jmp O4 (Tr.eq (Z3 ..) ?_);(try simp only[Nr,Nl,wl,Nat.reduceAdd,Nat.reduceMul,Int.reduceToNat])
 (refine Jd ?_;intros)
 refine Tr.xIntS (v:=byI l 13) (Af4 (by omega)) ?_
 (refine Jd ?_;intros)
 simp only [byI,Ac7]
 refine Tr.jmp O4 (Tr.eq (Z3 ..) ?_);(try simp only[Nr,Nl,wl,Nat.reduceAdd,Nat.reduceMul,Int.reduceToNat])
 (refine Jd ?_;intros)
 refine Tr.xIntS (v:=byI l 14) (Af4 (by omega)) ?_
 (refine Jd ?_;intros)
 simp only [byI,Ac7]
 refine Tr.jmp O4 (Tr.eq (Z3 ..) ?_);(try simp only[Nr,Nl,wl,Nat.reduceAdd,Nat.reduceMul,Int.reduceToNat])
 (refine Jd ?_;intros)
 refine Tr.xIntS (v:=byI l 15) (Af4 (by omega)) ?_
 (refine Jd ?_;intros)
 simp only [byI,Ac7]
 refine Tr.jmp O4 (Tr.eq (Z3 ..) ?_);(try simp only[Nr,Nl,wl,Nat.reduceAdd,Nat.reduceMul,Int.reduceToNat])
 (refine Jd ?_;intros)
 refine Tr.xIntS (v:=byI l 16) (Af4 (by omega)) ?_
 (refine Jd ?_;intros)
 simp only [byI,Ac7]
 refine Tr.jmp O4 (Tr.eq (Z3 ..) ?_);(try simp only[Nr,Nl,wl,Nat.reduceAdd,Nat.reduceMul,Int.reduceToNat])
 (refine Jd ?_;intros)
 refine Tr.xIntS (v:=byI l 17) (Af4 (by omega)) ?_
 (refine Jd ?_;intros)
 simp only [byI,Ac7]
 refine Tr.jmp O4 (Tr.eq (Z3 ..) ?_);(try simp only[Nr,Nl,wl,Nat.reduceAdd,Nat.reduceMul,Int.reduceToNat])
 (refine Jd ?_;intros)
 refine Tr.xIntS (v:=byI l 18) (Af4 (by omega)) ?_
 (refine Jd ?_;intros)
 simp only [byI,Ac7]
 refine Tr.jmp O4 (Tr.eq (Z3 ..) ?_);(try simp only[Nr,Nl,wl,Nat.reduceAdd,Nat.reduceMul,Int.reduceToNat])
 (refine Jd ?_;intros)
 refine Tr.xIntS (v:=byI l 19) (Af4 (by omega)) ?_
 (refine Jd ?_;intros)
 simp only [byI,Ac7]
 refine Tr.jmp O4 (Tr.eq (Z3 ..) ?_);(try simp only[Nr,Nl,wl,Nat.reduceAdd,Nat.reduceMul,Int.reduceToNat])
 refine Yf rfl ?_
 refine Tr.xAgg (xs:=B9 (Aw9 l)) ⟨Nat.le_of_ble_eq_true rfl,rfl⟩ ?_
 refine Yc (Gr0 (Aw9 l)) ?_
 rintro v h (⟨hk,a1,rfl,o⟩|⟨hk,rfl,o⟩)
 ·refine (?_:Tr _ _ _ _) o
  refine Je ?_
  refine Tr.dx ?_
  refine Tr.dx ?_
  refine Tr.dx ?_
  refine Tr.xAgg (xs:=B9 (Aw9 l)) ⟨Nat.le_of_ble_eq_true rfl,rfl⟩ ?_
  refine Yb (Yt rfl ?_)
  refine Tr.pcall (key a1) ?_
  refine Tr.dx ?_
  refine Tr.xAgg (xs:=B9 (Aw9 l)) ⟨Nat.le_of_ble_eq_true rfl,rfl⟩ ?_
  (refine Ja ?_;intros)
  refine Ys fun o=>(?_:Tr _ _ _ _) o;refine Je ?_
  (refine Ja ?_;intros)
  refine Ys fun o=>?_
  exact ⟨by unfold isS;rw [hk,Bool.true_and],o.sub⟩
 ·refine (?_:Tr _ _ _ _) o
  refine Je ?_
  refine Tr.dx ?_
  refine Tr.dx ?_
  refine Tr.dx ?_
  refine Tr.xAgg (xs:=B9 (Aw9 l)) ⟨Nat.le_of_ble_eq_true rfl,rfl⟩ ?_
  (refine Ja ?_;intros)
  refine Ys fun o=>?_
  exact ⟨by unfold isS;rw [hk];rfl,o.sub⟩
theorem He2 (k:Nat) (pb:HP) (ro:Bool) (a:Option Addr) (c:Nat) (l:List UInt8) (hl:l.length=24) [ks:IsSl pb a ro A2 1 24 c (A0 l)]:Ct A4 W8 [P0 k,.slice a 24 c] [Gf7 k,pb] fun v own=>v=.tuple ⟨[.agg ⟨B9 (if isS l then Aw9 l else .zero)⟩,.bool (isS l)]⟩∧own [Gf7 k,pb]:=by
 refine Ct.of Dc4 rfl fun h r=>Tr.eq (Dc6 ..) ?_;refine Je ?_
 (refine Ja ?_;intros)
 refine Yf rfl ?_
 (refine Jb ?_;intros)
 refine Yc (Eo8 24 pb ro a c l hl (by simp [A8])) ?_;rintro _ h ⟨a1,c1,rfl,o⟩<;>(refine Jg o ?_;intros)
 refine Yc (Iv0 a1 c1 l hl) ?_;rintro _ h ⟨rfl,o⟩<;>(refine Jg o ?_;intros)
 cases hk:isS l with
 | false =>
  (refine Ja ?_;intros)
  refine Ys fun o=>?_
  exact ⟨rfl,o.sub⟩
 | true =>
  (refine Ja ?_;intros)
  refine Ys fun o=>?_
  exact ⟨rfl,o.sub⟩
def Q4 (l:List UInt8):ProcS × Int:=if l.all (·==0) then (.zero,0) else if isS l then (Aw9 l,1) else (.zero,2)
theorem Hq7 (pb:HP) (ro:Bool) (a:Option Addr) (c:Nat) (l:List UInt8) (hl:l.length=24) [ks:IsSl pb a ro A2 1 24 c (A0 l)]:Ct A4 Aw6 [.slice a 24 c] [pb] fun v own=>v=.tuple ⟨[.agg ⟨B9 (Q4 l).1⟩,int (Q4 l).2]⟩∧own [pb]:=by
 refine Ct.of Gw4 rfl fun h r=>Tr.eq (Gz4 ..) ?_;refine Je ?_
 refine Yn fun b1 h=>?_
 refine Yb (Yt rfl ?_)
 refine Tr.pcall (El2 24 pb ro a c l hl (by simp [A8])) ?_;refine Je ?_;(refine Jb ?_;intros)
 refine Ys fun o=>(?_:Tr _ _ _ _) o;refine Je ?_
 cases hb:l.all (·==0) with
 | true =>
  (refine Ja ?_;intros)
  refine Ys fun o=>?_
  exact ⟨by unfold Q4;rw [hb];rfl,o.sub⟩
 | false =>
  (refine Jb ?_;intros)
  refine Yc (G08) ?_;rintro _ h ⟨k,rfl,o⟩<;>(refine Jg o ?_;intros)
  refine Yc (He2 k pb ro a c l hl) ?_;rintro _ h ⟨rfl,o⟩<;>(refine Jg o ?_;intros)
  cases hk:isS l with
  | false =>
   (refine Ja ?_;intros)
   refine Ys fun o=>?_
   exact ⟨by unfold Q4;rw [hb,hk];rfl,o.sub⟩
  | true =>
   (refine Ja ?_;intros)
   refine Ys fun o=>?_
   exact ⟨by unfold Q4;rw [hb,hk];rfl,o.sub⟩
theorem Hz9 (a:Option Addr) (c:Nat) (l:List UInt8) (hl:l.length=24):Ct A4 Aw6 [.slice a 24 c] [slC false A2 1 a 24 c (A0 l)] fun v own=>v=.tuple ⟨[.agg ⟨B9 (Q4 l).1⟩,int (Q4 l).2]⟩∧own [slC false A2 1 a 24 c (A0 l)]:=Hq7 (slC false A2 1 a 24 c (A0 l)) false a c l hl
def Q5 (l:List UInt8) (a:Nat) (b:List UInt8):List UInt8:=l.take a++b++l.drop (a+b.length)
theorem Bd3 {l b:List UInt8} {a:Nat} (h:a+b.length≤l.length):(Q5 l a b).length=l.length:=by simp [Q5];omega
theorem Dq5 {l b:List UInt8} {a:Nat} (h:a+b.length≤l.length) (i:Nat):(Q5 l a b)[i]?=if a≤i∧i<a+b.length then b[i-a]? else l[i]?:=by
 unfold Q5
 by_cases h1:i<a
 ·rw [if_neg (by omega),List.append_assoc,List.getElem?_append_left (by simp;omega),List.getElem?_take,if_pos h1]
 ·rw [List.append_assoc,List.getElem?_append_right (by simp;omega),List.length_take,Nat.min_eq_left (by omega)]
  by_cases h2:i<a+b.length
  ·rw [if_pos ⟨by omega,h2⟩,List.getElem?_append_left (by omega)]
  ·rw [if_neg (by omega),List.getElem?_append_right (by omega),List.getElem?_drop];congr 1;omega
def slice (l:List UInt8) (a n:Nat):List UInt8:=(l.drop a).take n
theorem E22 (l:List UInt8) (a n i:Nat):(slice l a n)[i]?=if i<n then l[a+i]? else none:=by
 unfold slice;rw [List.getElem?_take];split
 ·rw [List.getElem?_drop]
 ·rfl
theorem D65 {l:List UInt8} {a n:Nat} (h:a+n≤l.length):(slice l a n).length=n:=by simp [slice];omega
abbrev Rg:=List (Nat × Nat)
def U2:List UInt8→Rg→List (List UInt8)→List UInt8
 | l,(lo,_)::rg,x::m=>U2 (Q5 l lo x) rg m
 | l,_,_=>l
structure Fit (size:Nat) (rg:Rg) (m:List (List UInt8)):Prop where
 len:m.length=rg.length
 each:∀ (j lo n:Nat),rg[j]?=some (lo,n)→lo+n≤size∧∃ x,m[j]?=some x∧x.length=n
def RgOk (rg:Rg):Prop:=∀ (i j lo n lo' n':Nat),i≠j→rg[i]?=some (lo,n)→rg[j]?=some (lo',n')→lo+n≤lo'∨lo'+n'≤lo
theorem Fit.tail {size:Nat} {p:Nat × Nat} {rg:Rg} {x:List UInt8} {m:List (List UInt8)} (f:Fit size (p::rg) (x::m)):Fit size rg m:=⟨by simpa using f.len,fun j lo n h=>by simpa using f.each (j+1) lo n (by simpa using h)⟩
theorem Fit.head {size lo n:Nat} {rg:Rg} {x:List UInt8} {m:List (List UInt8)} (f:Fit size ((lo,n)::rg) (x::m)):lo+n≤size∧x.length=n:=by
 obtain ⟨h,y,hy,hl⟩:=f.each 0 lo n rfl
 simp at hy;subst hy;exact ⟨h,hl⟩
theorem RgOk.tail {p:Nat × Nat} {rg:Rg} (k:RgOk (p::rg)):RgOk rg:=fun i j lo n lo' n' hij hi hj=>k (i+1) (j+1) lo n lo' n' (by omega) (by simpa using hi) (by simpa using hj)
theorem Bg4:∀ {rg:Rg} {m:List (List UInt8)} {l:List UInt8},Fit l.length rg m→(U2 l rg m).length=l.length
 | [],m,l,f=>by simp [U2]
 | (lo,n)::rg,[],l,f=>by simp [U2]
 | (lo,n)::rg,x::m,l,f=>by
  have h:=f.head
  have e:=Bd3 (l:=l) (b:=x) (a:=lo) (by omega)
  unfold U2
  rw [Bg4 (by rw [e];exact f.tail),e]
theorem Dz0:∀ {rg:Rg} {m:List (List UInt8)} {l:List UInt8},Fit l.length rg m→∀ i,(∀ (j lo n:Nat),rg[j]?=some (lo,n)→i<lo∨lo+n≤i)→(U2 l rg m)[i]?=l[i]?
 | [],m,l,f,i,h=>by simp [U2]
 | (lo,n)::rg,[],l,f,i,h=>by simp [U2]
 | (lo,n)::rg,x::m,l,f,i,h=>by
  have h0:=f.head
  have e:=Bd3 (l:=l) (b:=x) (a:=lo) (by omega)
  unfold U2
  rw [Dz0 (by rw [e];exact f.tail) i (fun j lo' n' hj=>h (j+1) lo' n' (by simpa using hj)),Dq5 (by omega),if_neg]
  have:=h 0 lo n rfl;omega
theorem Df1:∀ {rg:Rg} {m:List (List UInt8)} {l:List UInt8},Fit l.length rg m→RgOk rg→∀ (j lo n:Nat) (x:List UInt8),rg[j]?=some (lo,n)→m[j]?=some x→∀ i,i<n→(U2 l rg m)[lo+i]?=x[i]?
 | [],m,l,f,k,j,lo,n,x,h,hx,i,hi=>by simp at h
 | (lo0,n0)::rg,[],l,f,k,j,lo,n,x,h,hx,i,hi=>by simp at hx
 | (lo0,n0)::rg,x0::m,l,f,k,j,lo,n,x,h,hx,i,hi=>by
  have h0:=f.head
  have e:=Bd3 (l:=l) (b:=x0) (a:=lo0) (by omega)
  unfold U2
  cases j with
  | zero =>
   simp at h hx
   obtain ⟨rfl,rfl⟩:=h;subst hx
   rw [Dz0 (by rw [e];exact f.tail) (lo0+i) (fun j lo' n' hj=>by
    have:=k 0 (j+1) lo0 n0 lo' n' (by omega) rfl (by simpa using hj)
    omega),Dq5 (by omega),if_pos (by omega)]
   congr 1;omega
  | succ j=>exact Df1 (by rw [e];exact f.tail) k.tail j lo n x (by simpa using h) (by simpa using hx) i hi
theorem Dq6 {rg:Rg} {m:List (List UInt8)} {l:List UInt8} (f:Fit l.length rg m) (k:RgOk rg) {j lo n:Nat} {x:List UInt8} (h:rg[j]?=some (lo,n)) (hx:m[j]?=some x) {a c:Nat} (hc:a+c≤n):slice (U2 l rg m) (lo+a) c=slice x a c:=by
 refine List.ext_getElem? fun i=>?_
 rw [E22,E22]
 split
 ·rw [Nat.add_assoc,Df1 f k j lo n x h hx (a+i) (by omega)]
 ·rfl
theorem Fit.set {size:Nat} {rg:Rg} {m:List (List UInt8)} (f:Fit size rg m) {j lo n:Nat} (h:rg[j]?=some (lo,n)) {y:List UInt8} (hy:y.length=n):Fit size rg (m.set j y):=⟨by simpa using f.len,fun i lo' n' hi=>by
 obtain ⟨h1,z,hz,hl⟩:=f.each i lo' n' hi
 refine ⟨h1,?_⟩
 by_cases hij:j=i
 ·subst hij
  rw [h] at hi;cases hi
  exact ⟨y,by simp [(List.getElem?_eq_some_iff.1 hz).1],hy⟩
 ·exact ⟨z,by rw [List.getElem?_set_ne hij];exact hz,hl⟩⟩
theorem Di6 {rg:Rg} {m:List (List UInt8)} {l:List UInt8} (f:Fit l.length rg m) (k:RgOk rg) {j lo n:Nat} {x:List UInt8} (h:rg[j]?=some (lo,n)) (hx:m[j]?=some x) {a:Nat} {b:List UInt8} (hc:a+b.length≤n):Q5 (U2 l rg m) (lo+a) b=U2 l rg (m.set j (Q5 x a b)):=by
 obtain ⟨h1,y,hy,hl⟩:=f.each j lo n h
 rw [hx] at hy;cases hy
 have e:=Bd3 (l:=x) (b:=b) (a:=a) (by omega)
 have f2:=f.set h (y:=Q5 x a b) (by omega)
 have lp:=Bg4 f
 refine List.ext_getElem? fun i=>?_
 rw [Dq5 (by omega)]
 by_cases hi:lo≤i∧i<lo+n
 ·obtain ⟨i',rfl⟩:∃ i',i=lo+i':=⟨i-lo,by omega⟩
  rw [Df1 f2 k j lo n (Q5 x a b) h (by simp [(List.getElem?_eq_some_iff.1 hx).1]) i' (by omega),Dq5 (by omega),Df1 f k j lo n x h hx i' (by omega)]
  by_cases h2:a≤i'∧i'<a+b.length
  ·rw [if_pos (by omega),if_pos h2];congr 1;omega
  ·rw [if_neg (by omega),if_neg h2]
 ·rw [if_neg (by omega)]
  by_cases ho:∃ (j' lo' n':Nat),rg[j']?=some (lo',n')∧lo'≤i∧i<lo'+n'
  ·obtain ⟨j',lo',n',hj',h3,h4⟩:=ho
   have hne:j≠j':=fun e=>by subst e;rw [h] at hj';cases hj';omega
   obtain ⟨_,z,hz,_⟩:=f.each j' lo' n' hj'
   obtain ⟨i',rfl⟩:∃ i',i=lo'+i':=⟨i-lo',by omega⟩
   rw [Df1 f k j' lo' n' z hj' hz i' (by omega),Df1 f2 k j' lo' n' z hj' (by rw [List.getElem?_set_ne hne];exact hz) i' (by omega)]
  ·have hall:∀ (j' lo' n':Nat),rg[j']?=some (lo',n')→i<lo'∨lo'+n'≤i:=fun j' lo' n' hj'=>by
    by_cases hh:lo'≤i∧i<lo'+n'
    ·exact absurd ⟨j',lo',n',hj',hh.1,hh.2⟩ ho
    ·omega
   rw [Dz0 f i hall,Dz0 f2 i hall]
structure RecS where
 kind:Int
 index:Int
deriving DecidableEq
abbrev E2 (r:RecS):List Value:=[int r.kind,int r.index]
structure Fr where
 S:KS
 N:Nat
 env:Int
 caps:List Int
 rg:Rg
structure FrOk (F:Fr):Prop where
 ok:KOk F.N F.S
 hN:F.N+1<1000000000
 ne:0<F.caps.length
 small:F.caps.length≤40
 len:F.rg.length=F.caps.length
 env:¬ (F.env<0∨F.env≥(F.S.envs.length:Int))
 pl:∀ (j:Nat) (cap:Int) (lo n:Nat),F.caps[j]?=some cap→F.rg[j]?=some (lo,n)→∀ (a m:Nat) (right:Int),right=1∨right=2→a+m≤n→I8 F.S.tabs F.S.regs F.env cap right a m=(((lo+a:Nat):Int),0)
 dj:RgOk F.rg
 own:∃ lo,F.rg[0]?=some (lo,492)
 brs:∀ (j lo n:Nat),0<j→F.rg[j]?=some (lo,n)→n=40
def Fr.at (F:Fr) (m:List (List UInt8)):KS:=Eg1 F.S (U2 F.S.mem F.rg m)
structure CX where
 m:List (List UInt8)
 bad:List RecS
def Al2:Nat→List RecS→List MapEntry
 | _,[]=>[]
 | i,r::l=>{ key:=.agg ⟨E2 r⟩,val:=int 1,born:=i }::Al2 (i+1) l
abbrev Iy6 (c k:Nat) (env:Int) (caps:List Int) (bad:List RecS) (x:Option Addr × Nat × Nat):List HP :=
 [pt c (.cells Dq3 false [P0 k,int env,.slice x.1 caps.length x.2.1,.map (some x.2.2)]),slC false B2 1 x.1 caps.length x.2.1 (caps.map int),pt x.2.2 (.map (Al2 0 bad) bad.length)]
def N5 (c k:Nat) (env:Int) (caps:List Int) (bad:List RecS):HP:=hex fun x=>sl (Iy6 c k env caps bad x)
instance {c k:Nat} {env:Int} {caps:List Int} {bad:List RecS}:Chk (N5 c k env caps bad) (Iy6 c k env caps bad):=⟨rfl⟩
abbrev cmF (c k:Nat) (F:Fr) (x:CX):List HP:=[E5 k (F.at x.m),N5 c k F.env F.caps x.bad,pu (Fit F.S.mem.length F.rg x.m)]
def cmC (c k:Nat) (F:Fr) (x:CX):HP:=hex fun _:Unit=>sl (cmF c k F x)
instance {c k:Nat} {F:Fr} {x:CX}:Chk (cmC c k F x) (fun _:Unit=>cmF c k F x):=⟨rfl⟩
def N1 (nc:Nat) (kind:Int):Int:=if kind=1 then 8 else if kind=2 then 12 else if kind=3 then 3+nc else 1
def H4 (nc:Nat) (r:RecS):Option (Nat × Nat × Nat) :=
 if r.index<0∨r.index≥N1 nc r.kind then none
 else if r.kind=1 then some (0,24*r.index.toNat,24)
 else if r.kind=2 then some (0,192+8*r.index.toNat,8)
 else if r.kind=3 then if r.index<4 then some (0,288+40*r.index.toNat,40) else some (r.index.toNat-3,0,40)
 else if r.kind=4 then some (0,448,40)
 else some (0,488,4)
def Hb4 (caps:List Int):Option (Nat × Nat × Nat)→List Value
 | some (j,a,n)=>[int (caps.getD j 0),int a,int n]
 | none=>[int 0,int 0,int 0]
theorem Gh0 (c k:Nat) (env:Int) (caps:List Int) (bad:List RecS) (kind:Int) (hs:caps.length≤40):CtP A4 U9 [P0 c,int kind] [N5 c k env caps bad] (int (N1 caps.length kind)):=by
 have e:IntKind.wrap .i64 (IntKind.wrap .i64 (4+(caps.length:Int))-1)=3+(caps.length:Int):=by rw [B0,B0];omega
 refine CtP.of Eb6 rfl fun h r=>Tr.eq (Eb9 ..) ?_;refine Je ?_
 refine A7 (N5 c k env caps bad) fun ⟨a,n,mb⟩=>?_;refine Je ?_
 unfold N1
 by_cases h1:kind=1
 ·refine Yt (by simpa using h1) ?_
  rw [if_pos h1];exact Jz
 refine Yf (by simpa using h1) ?_
 rw [if_neg h1]
 by_cases h2:kind=2
 ·refine Yt (by simpa using h2) ?_
  rw [if_pos h2];exact Jz
 refine Yf (by simpa using h2) ?_
 rw [if_neg h2]
 by_cases h3:kind=3
 ·refine Yt (by simpa using h3) ?_
  rw [if_pos h3];(refine Ja ?_;intros)
  refine Ys fun o=>?_
  rw [e];exact ⟨by first|rfl|trivial,by first|rfl|trivial⟩
 refine Yf (by simpa using h3) ?_
 rw [if_neg h3];exact Jz
theorem E11 (c k:Nat) (env:Int) (caps:List Int) (bad:List RecS) (rc:RecS) (hs:caps.length≤40) (hn:0<caps.length):Ct A4 S4 [P0 c,.agg ⟨E2 rc⟩] [N5 c k env caps bad] fun v own =>
  v=.tuple ⟨[.agg ⟨Hb4 caps (H4 caps.length rc)⟩,.bool (H4 caps.length rc).isSome]⟩∧own [N5 c k env caps bad]:=by
 have hg:∀ j,j<caps.length→(caps.map int)[j]?=some (int (caps.getD j 0)):=fun j hj=>by rw [List.getElem?_map,J7 0 hj];rfl
 refine Ct.of D35 rfl fun h r=>Tr.eq (D29 ..) ?_;refine Je ?_
 (refine Jb ?_;intros)
 refine Tr.orG (c:=decide (rc.index≥N1 caps.length rc.kind)) (fun hb=>?_) ?_
 ·(refine Ja ?_;intros)
  refine Tr.pcall (Gh0 c k env caps bad rc.kind hs) ?_;refine Je ?_;exact Jz
 by_cases hi:rc.index<0∨rc.index≥N1 caps.length rc.kind
 ·refine Yt (by simp only [Bool.or_eq_true,decide_eq_true_eq];exact hi) ?_
  have e:H4 caps.length rc=none:=by unfold H4;rw [if_pos hi]
  rw [e]
  (refine Ja ?_;intros)
  refine Ys fun o=>?_
  exact ⟨rfl,o.sub⟩
 refine Yf (by simp only [Bool.or_eq_false_iff,decide_eq_false_iff_not];omega) ?_
 refine A7 (N5 c k env caps bad) fun ⟨a,n,mb⟩=>?_;refine Je ?_
 (refine Ja ?_;intros;repeat(refine Gw ?_;rintro px rfl;refine Ja ?_;intros))
 refine Tr.xIntS (v:=caps.getD 0 0) (hg 0 hn) ?_
 (refine Ja ?_;intros)
 by_cases h1:rc.kind=1
 ·refine Yt (by simpa using h1) ?_
  have e:H4 caps.length rc=some (0,24*rc.index.toNat,24):=by unfold H4;rw [if_neg hi,if_pos h1]
  have hm:N1 caps.length rc.kind=8:=by unfold N1;rw [if_pos h1]
  have e1:IntKind.wrap .i64 (24*rc.index)=((24*rc.index.toNat:Nat):Int):=by rw [B0];omega
  rw [e,e1]
  (refine Ja ?_;intros)
  refine A5 (N5 c k env caps bad) ⟨some px,n,mb⟩ ?_;refine Je ?_
  refine Ys fun o=>?_
  exact ⟨rfl,o.sub⟩
 refine Yf (by simpa using h1) ?_
 by_cases h2:rc.kind=2
 ·(refine Ja ?_;intros)
  refine Yt (by simpa using h2) ?_
  have e:H4 caps.length rc=some (0,192+8*rc.index.toNat,8):=by unfold H4;rw [if_neg hi,if_neg h1,if_pos h2]
  have hm:N1 caps.length rc.kind=12:=by unfold N1;rw [if_neg h1,if_pos h2]
  have e1:IntKind.wrap .i64 (192+IntKind.wrap .i64 (8*rc.index))=((192+8*rc.index.toNat:Nat):Int):=by rw [B0,B0];omega
  rw [e,e1]
  (refine Ja ?_;intros)
  refine A5 (N5 c k env caps bad) ⟨some px,n,mb⟩ ?_;refine Je ?_
  refine Ys fun o=>?_
  exact ⟨rfl,o.sub⟩
 (refine Ja ?_;intros)
 refine Yf (by simpa using h2) ?_
 (refine Jb ?_;intros)
 refine Tr.andG (c:=decide (rc.index<4)) (fun hb=>?_) ?_
 ·exact Jz
 by_cases h3:rc.kind=3
 ·have hm:N1 caps.length rc.kind=3+caps.length:=by unfold N1;rw [if_neg h1,if_neg h2,if_pos h3]
  by_cases h4:rc.index<4
  ·refine Yt (by simp [h3,h4]) ?_
   have e:H4 caps.length rc=some (0,288+40*rc.index.toNat,40):=by unfold H4;rw [if_neg hi,if_neg h1,if_neg h2,if_pos h3,if_pos h4]
   have e1:IntKind.wrap .i64 (288+IntKind.wrap .i64 (40*rc.index))=((288+40*rc.index.toNat:Nat):Int):=by rw [B0,B0];omega
   rw [e,e1]
   (refine Ja ?_;intros)
   refine A5 (N5 c k env caps bad) ⟨some px,n,mb⟩ ?_;refine Je ?_
   refine Ys fun o=>?_
   exact ⟨rfl,o.sub⟩
  ·refine Yf (by simp [h4]) ?_
   have e:H4 caps.length rc=some (rc.index.toNat-3,0,40):=by unfold H4;rw [if_neg hi,if_neg h1,if_neg h2,if_pos h3,if_neg h4]
   have e1:IntKind.wrap .i64 (IntKind.wrap .i64 (rc.index-4)+1)=((rc.index.toNat-3:Nat):Int):=by rw [B0,B0];omega
   rw [e,e1]
   (refine Ja ?_;intros)
   refine Yt (by simpa using h3) ?_
   (refine Ja ?_;intros)
   rw [Int.toNat_natCast]
   refine Je ?_
   refine Tr.xIntS (v:=caps.getD (rc.index.toNat-3) 0) (hg _ (by omega)) ?_
   (refine Ja ?_;intros)
   refine A5 (N5 c k env caps bad) ⟨some px,n,mb⟩ ?_;refine Je ?_
   refine Ys fun o=>?_
   exact ⟨rfl,o.sub⟩
 refine Yf (by simp [h3]) ?_
 (refine Ja ?_;intros)
 refine Yf (by simpa using h3) ?_
 (refine Ja ?_;intros)
 by_cases h4:rc.kind=4
 ·refine Yt (by simpa using h4) ?_
  have e:H4 caps.length rc=some (0,448,40):=by unfold H4;rw [if_neg hi,if_neg h1,if_neg h2,if_neg h3,if_pos h4]
  rw [e]
  (refine Ja ?_;intros)
  refine A5 (N5 c k env caps bad) ⟨some px,n,mb⟩ ?_;refine Je ?_
  refine Ys fun o=>?_
  exact ⟨rfl,o.sub⟩
 refine Yf (by simpa using h4) ?_
 have e:H4 caps.length rc=some (0,488,4):=by unfold H4;rw [if_neg hi,if_neg h1,if_neg h2,if_neg h3,if_neg h4]
 rw [e]
 (refine Ja ?_;intros)
 refine A5 (N5 c k env caps bad) ⟨some px,n,mb⟩ ?_;refine Je ?_
 refine Ys fun o=>?_
 exact ⟨rfl,o.sub⟩
theorem Ia6:Ad7 PR 8 A6=some [TypeDesc.int .i64,TypeDesc.int .i64]:=by kernel_rfl
theorem Iq1:Ei9 PR A6=some true:=by kernel_rfl
instance {a b:Int}:KeyC PR A6 (.agg ⟨[.int .i64 a,.int .i64 b]⟩):=⟨fun x=>by
 unfold NN.keyN;rw [Ia6,Iq1];rfl⟩
theorem Ev7 (r:RecS):∀ (l:List RecS) (i j:Nat),Al8 (.agg ⟨E2 r⟩) (Al2 j l) i=some (if r ∈ l then some (i+l.idxOf r) else none)
 | [],i,j=>by simp [Al2,Al8]
 | q::l,i,j=>by
  have ih:=Ev7 r l (i+1) (j+1)
  obtain ⟨qk,qi⟩:=q
  obtain ⟨rk,ri⟩:=r
  simp only [Al2,Al8,Bl0,E2,eqs,eq1,decide_true,List.mem_cons] at ih ⊢
  by_cases h:rk=qk∧ri=qi
  ·obtain ⟨rfl,rfl⟩:=h
   simp
  ·have e:(rk==qk && (ri==qi && true))=false:=by
    rw [Bool.and_eq_false_iff]
    by_cases h1:rk=qk
    ·right;simp;intro h2;exact h ⟨h1,h2⟩
    ·left;simpa using h1
   have hne:¬ (({ kind:=rk,index:=ri }:RecS)={ kind:=qk,index:=qi }):=fun e=>by
    rw [RecS.mk.injEq] at e;exact h e
   rw [e]
   simp only [hne,false_or]
   rw [ih,List.idxOf_cons]
   have:(({ kind:=qk,index:=qi }:RecS)=={ kind:=rk,index:=ri })=false:=by
    rw [beq_eq_false_iff_ne];exact fun e=>hne e.symm
   rw [this,cond_false]
   split<;>simp;omega
theorem D17:∀ (l:List RecS) (j:Nat),(Al2 j l).length=l.length
 | [],_=>rfl
 | _::l,j=>by simp [Al2,D17 l]
theorem Hb8:∀ (l:List RecS) (j i:Nat) (r:RecS),l[i]?=some r→(Al2 j l)[i]?=some { key:=.agg ⟨E2 r⟩,val:=int 1,born:=j+i }
 | [],_,i,r,h=>by simp at h
 | q::l,j,0,r,h=>by simp at h;subst h;rfl
 | q::l,j,i+1,r,h=>by
  have:=Hb8 l (j+1) i r (by simpa using h)
  rw [Al2,List.getElem?_cons_succ,this];congr 2;omega
theorem Bp5 (r:RecS) (l:List RecS):Ao1 (int 0) (.agg ⟨E2 r⟩) (Al2 0 l)=some (if r ∈ l then (int 1,true) else (int 0,false)):=by
 unfold Ao1
 rw [Ev7]
 by_cases h:r ∈ l
 ·rw [if_pos h,if_pos h]
  have hi:=List.idxOf_lt_length_of_mem h
  have hg:l[l.idxOf r]?=some r:=by rw [List.getElem?_eq_getElem hi,List.getElem_idxOf]
  simp only [Nat.zero_add]
  rw [Hb8 l 0 _ r hg]
 ·rw [if_neg h,if_neg h]
theorem Ha2:∀ (l m:List RecS) (j:Nat),Al2 j (l++m)=Al2 j l++Al2 (j+l.length) m
 | [],m,j=>by simp [Al2]
 | q::l,m,j=>by simp only [List.cons_append,Al2,Ha2 l m (j+1),List.length_cons];congr 2;congr 1;omega
theorem Ei1 {r:RecS} {l:List RecS} (h:¬ r ∈ l):Ea8 (int 0) (.agg ⟨E2 r⟩) (Al2 0 l) l.length=some (int 0,l.length,.map (Al2 0 l++[{ key:=.agg ⟨E2 r⟩,val:=int 0,born:=l.length }]) (l.length+1)):=by
 unfold Ea8;rw [Ev7,if_neg h]
theorem G27 (r:RecS) (e:MapEntry):∀ (l:List RecS) (i j:Nat),¬ r ∈ l→Al8 (.agg ⟨E2 r⟩) (Al2 j l++[e]) i=Al8 (.agg ⟨E2 r⟩) [e] (i+l.length)
 | [],i,j,h=>by simp [Al2]
 | q::l,i,j,h=>by
  have ih:=G27 r e l (i+1) (j+1) (fun hm=>h (List.mem_cons_of_mem _ hm))
  have hq:Bl0 (.agg ⟨E2 r⟩) (.agg ⟨E2 q⟩)=some false:=by
   obtain ⟨qk,qi⟩:=q
   obtain ⟨rk,ri⟩:=r
   simp only [Bl0,E2,eqs,eq1,decide_true]
   congr 1
   rw [Bool.and_eq_false_iff]
   by_cases h1:rk=qk
   ·right;simp;intro h2;exact h (by subst h1 h2;exact List.mem_cons_self ..)
   ·left;simpa using h1
  show (match Bl0 (.agg ⟨E2 r⟩) (.agg ⟨E2 q⟩) with
   | some true=>some (some i)
   | some false=>Al8 (.agg ⟨E2 r⟩) (Al2 (j+1) l++[e]) (i+1)
   | none=>none)=_
  rw [hq]
  simp only
  rw [ih];congr 1;simp;omega
theorem D47 {r:RecS} {l:List RecS} (h:¬ r ∈ l):Ao1 (int 0) (.agg ⟨E2 r⟩) (Al2 0 l++[{ key:=.agg ⟨E2 r⟩,val:=int 0,born:=l.length }])=some (int 0,true):=by
 unfold Ao1
 rw [G27 r _ l 0 0 h]
 obtain ⟨rk,ri⟩:=r
 simp only [Al8,Bl0,E2,eqs,eq1,decide_true,BEq.rfl,Bool.and_self,Nat.zero_add]
 rw [List.getElem?_append_right (by rw [D17];exact Nat.le_refl _),D17];simp
theorem Dj8:∀ (l:List RecS) (j:Nat) (n:Nat) (e:MapEntry) (i:Nat),e.born=n→j+l.length≤n→Br3 (n:Int) (Al2 j l++[e]) i=some (i+l.length)
 | [],j,n,e,i,h,hl=>by simp [Al2,Br3,h]
 | q::l,j,n,e,i,h,hl=>by
  have ih:=Dj8 l (j+1) n e (i+1) h (by simp at hl;omega)
  simp only [Al2,List.cons_append,Br3]
  have:(((j:Nat):Int)==(n:Int))=false:=by simp at hl ⊢;omega
  rw [this,cond_false,ih];congr 1;simp;omega
theorem G03 (f:MapEntry→MapEntry) (e:MapEntry):∀ (l:List MapEntry),modN f l.length (l++[e])=l++[f e]
 | []=>rfl
 | q::l=>by simp [modN,G03 f e l]
theorem Ep5 (r:RecS) (l:List RecS):modN (fun e=>{ e with val:=int (IntKind.wrap .i64 (0+1)) }) l.length (Al2 0 l++[{ key:=.agg ⟨E2 r⟩,val:=int 0,born:=l.length }])=Al2 0 (l++[r]):=by
 rw [show l.length=(Al2 0 l).length from (D17 l 0).symm,G03,Ha2]
 simp [Al2,D17];decide
theorem Fr.mem_at (F:Fr) (m:List (List UInt8)):(F.at m).mem=U2 F.S.mem F.rg m:=rfl
theorem Fr.at_ok {F:Fr} (k:FrOk F) {m:List (List UInt8)} (f:Fit F.S.mem.length F.rg m):KOk F.N (F.at m):=by
 have:=k.ok
 exact ⟨this.envs,this.tabs,this.space,this.quota,by rw [Fr.mem_at,Bg4 f];exact this.mem,this.regs,this.may,this.mayl,this.nsect,this.sects,this.now⟩
theorem In9 {F:Fr} (k:FrOk F) {r:RecS} {j a n:Nat} (h:H4 F.caps.length r=some (j,a,n)):∃ lo z,F.rg[j]?=some (lo,z)∧a+n≤z∧j<F.caps.length:=by
 obtain ⟨lo0,h0⟩:=k.own
 have hl:=k.len;have hn:=k.ne
 unfold H4 at h
 split at h;· cases h
 rename_i hi
 split at h
 ·rename_i h1
  have hm:N1 F.caps.length r.kind=8:=by unfold N1;rw [if_pos h1]
  cases h;exact ⟨lo0,492,h0,by omega,hn⟩
 rename_i h1
 split at h
 ·rename_i h2
  have hm:N1 F.caps.length r.kind=12:=by unfold N1;rw [if_neg h1,if_pos h2]
  cases h;exact ⟨lo0,492,h0,by omega,hn⟩
 rename_i h2
 split at h
 ·rename_i h3
  have hm:N1 F.caps.length r.kind=3+F.caps.length:=by unfold N1;rw [if_neg h1,if_neg h2,if_pos h3]
  split at h
  ·cases h;exact ⟨lo0,492,h0,by omega,hn⟩
  ·cases h
   have hlt:r.index.toNat-3<F.rg.length:=by omega
   have hg:=List.getElem?_eq_getElem hlt
   generalize hx:F.rg[r.index.toNat-3]=x at hg
   obtain ⟨lo,z⟩:=x
   have:=k.brs _ lo z (by omega) hg
   exact ⟨lo,z,hg,by omega,by omega⟩
 split at h<;>(cases h;exact ⟨lo0,492,h0,by omega,hn⟩)
def Q3 (kind:Int):Nat:=if kind=1 then 24 else if kind=2 then 8 else if kind=3 then 40 else if kind=4 then 40 else 4
theorem Bf9 {nc:Nat} {r:RecS} {j a n:Nat} (h:H4 nc r=some (j,a,n)):n=Q3 r.kind:=by
 unfold H4 at h;unfold Q3
 split at h;· cases h
 split at h
 ·rename_i h1;cases h;rw [if_pos h1]
 rename_i h1
 rw [if_neg h1]
 split at h
 ·rename_i h2;cases h;rw [if_pos h2]
 rename_i h2
 rw [if_neg h2]
 split at h
 ·rename_i h3;rw [if_pos h3];split at h<;>(cases h;rfl)
 rename_i h3
 rw [if_neg h3]
 split at h
 ·rename_i h4;cases h;rw [if_pos h4]
 ·rename_i h4;cases h;rw [if_neg h4]
def rdX (X:CX) (r:RecS):Option (List UInt8) :=
 match H4 X.m.length r with
 | some (j,a,n)=>if r ∈ X.bad then none else some (slice (X.m.getD j []) a n)
 | none=>none
def wrX (X:CX) (r:RecS) (b:List UInt8) (ok:Bool):Bool × CX :=
 match H4 X.m.length r with
 | some (j,a,n)=>if ok=true∧¬ r ∈ X.bad then (true,{ X with m:=X.m.set j (Q5 (X.m.getD j []) a b) }) else (false,X)
 | none=>(false,X)
theorem Fit.mlen {F:Fr} (k:FrOk F) {m:List (List UInt8)} (f:Fit F.S.mem.length F.rg m):m.length=F.caps.length:=by rw [f.len,k.len]
theorem Eh7 {F:Fr} (k:FrOk F) {m:List (List UInt8)} (f:Fit F.S.mem.length F.rg m) {r:RecS} {j a n:Nat} (h:H4 F.caps.length r=some (j,a,n)) :
  ∃ lo z cap,F.caps[j]?=some cap∧F.rg[j]?=some (lo,z)∧a+n≤z∧m[j]?=some (m.getD j [])∧(m.getD j []).length=z∧lo+z≤F.S.mem.length∧cap=F.caps.getD j 0:=by
 obtain ⟨lo,z,hr,ha,hj⟩:=In9 k h
 obtain ⟨h1,x,hx,hl⟩:=f.each j lo z hr
 have e:m.getD j []=x:=by rw [List.getD_eq_getElem?_getD,hx];rfl
 exact ⟨lo,z,F.caps.getD j 0,J7 0 hj,hr,ha,by rw [e];exact hx,by rw [e];exact hl,h1,rfl⟩
theorem Iv2 {F:Fr} (k:FrOk F) {X:CX} (f:Fit F.S.mem.length F.rg X.m) {r:RecS} {l:List UInt8} (h:rdX X r=some l):l.length=Q3 r.kind:=by
 unfold rdX at h
 rw [f.mlen k] at h
 cases hp:H4 F.caps.length r with
 | none=>rw [hp] at h;cases h
 | some p =>
  obtain ⟨j,a,n⟩:=p
  rw [hp] at h
  obtain ⟨lo,z,cap,_,_,ha,hx,hl,_⟩:=Eh7 k f hp
  simp only at h
  split at h
  ·cases h
  ·cases h;rw [D65 (by omega),Bf9 hp]
theorem I29 {F:Fr} (k:FrOk F) {m:List (List UInt8)} (f:Fit F.S.mem.length F.rg m) {r:RecS} {j a n:Nat} (h:H4 F.caps.length r=some (j,a,n)) :
  Y8 (F.at m) F.env ⟨1,F.caps.getD j 0,(a:Int),(n:Int),0,0,[]⟩=((0,0,slice (m.getD j []) a n),F.at m):=by
 obtain ⟨lo,z,cap,hc,hr,ha,hx,hl,hz,rfl⟩:=Eh7 k f h
 have hp:=k.pl j _ lo z hc hr a n 1 (.inl rfl) ha
 have lp:=Bg4 f
 have hb:Bq9 (U2 F.S.mem F.rg m) ((lo+a:Nat):Int) (n:Int)=some (slice (m.getD j []) a n):=by
  unfold Bq9
  rw [if_pos (by rw [lp];omega),Int.toNat_natCast,Int.toNat_natCast]
  rw [← Dq6 f k.dj hr hx ha];rfl
 have e:Ao6 (F.at m).tabs (F.at m).regs (F.at m).mem F.env (F.caps.getD j 0) (a:Int) (n:Int)=(slice (m.getD j []) a n,0):=by
  unfold Ao6
  rw [show I8 (F.at m).tabs (F.at m).regs F.env (F.caps.getD j 0) 1 (a:Int) (n:Int)=(((lo+a:Nat):Int),0) from hp]
  rw [if_neg (by simp),show Bq9 (F.at m).mem _ _=_ from hb]
 unfold Y8
 rw [if_neg (show ¬ (F.env<0∨F.env≥((F.at m).envs.length:Int)) from k.env)]
 unfold kDo
 rw [if_pos rfl,e]
theorem Iy7 {F:Fr} (k:FrOk F) {m:List (List UInt8)} (f:Fit F.S.mem.length F.rg m) {r:RecS} {j a n:Nat} (h:H4 F.caps.length r=some (j,a,n)) {b:List UInt8} (hb:b.length=n) :
  Y8 (F.at m) F.env ⟨2,F.caps.getD j 0,(a:Int),0,0,0,b⟩=((0,0,[]),F.at (m.set j (Q5 (m.getD j []) a b))):=by
 obtain ⟨lo,z,cap,hc,hr,ha,hx,hl,hz,rfl⟩:=Eh7 k f h
 have hp:=k.pl j _ lo z hc hr a n 2 (.inr rfl) ha
 have lp:=Bg4 f
 have hs:Bb1 (U2 F.S.mem F.rg m) ((lo+a:Nat):Int) b=some (U2 F.S.mem F.rg (m.set j (Q5 (m.getD j []) a b))):=by
  unfold Bb1
  rw [if_pos (by rw [lp];omega),Int.toNat_natCast]
  rw [← Di6 f k.dj hr hx (by omega)];rfl
 have e:Ac9 (F.at m).tabs (F.at m).regs (F.at m).mem F.env (F.caps.getD j 0) (a:Int) b=(0,U2 F.S.mem F.rg (m.set j (Q5 (m.getD j []) a b))):=by
  unfold Ac9
  rw [hb,show I8 (F.at m).tabs (F.at m).regs F.env (F.caps.getD j 0) 2 (a:Int) (n:Int)=(((lo+a:Nat):Int),0) from hp]
  rw [if_neg (by simp),show Bb1 (F.at m).mem _ _=_ from hs]
 unfold Y8
 rw [if_neg (show ¬ (F.env<0∨F.env≥((F.at m).envs.length:Int)) from k.env)]
 unfold kDo
 rw [if_neg (show ¬ ((2:Int)=1) by decide),if_pos rfl,e];rfl
theorem Ip3 {F:Fr} (k:FrOk F) {X:CX} (f:Fit F.S.mem.length F.rg X.m) {r:RecS} {b:List UInt8} {ok:Bool} (hb:ok=true→b.length=Q3 r.kind):Fit F.S.mem.length F.rg (wrX X r b ok).2.m:=by
 unfold wrX
 rw [f.mlen k]
 cases hp:H4 F.caps.length r with
 | none=>exact f
 | some p =>
  obtain ⟨j,a,n⟩:=p
  obtain ⟨lo,z,cap,hc,hr,ha,hx,hl,hz,_⟩:=Eh7 k f hp
  simp only
  split
  ·rename_i hk
   exact f.set hr (by rw [Bd3 (by rw [hb hk.1,← Bf9 hp];omega)];exact hl)
  ·exact f
instance {caps:List Int} {o:Option (Nat × Nat × Nat)}:LenC (Hb4 caps o) 3:=⟨by cases o<;>rfl⟩
theorem Il0 (caps:List Int) (o:Option (Nat × Nat × Nat)):(Hb4 caps o).all Value.oneCell=true:=by cases o<;>rfl
instance {caps:List Int} {o:Option (Nat × Nat × Nat)} {cs:List Value} [k:LenC cs 3]:SetsC cs 0 (Hb4 caps o) (Hb4 caps o):=⟨B38 k.ok LenC.ok (Il0 caps o)⟩
instance {rc:RecS}:PartC (E2 rc) 0 2 (E2 rc):=⟨rfl⟩
theorem Hw7 (r:RecS) (l:List RecS):(if r ∈ l then (int 1,true) else (int 0,false))=(int (if r ∈ l then 1 else 0),decide (r ∈ l)):=by split<;>simp [*]
theorem Hv2 (r:RecS) (l:List RecS):decide ((if r ∈ l then (1:Int) else 0)>0)=decide (r ∈ l):=by split<;>simp [*]
theorem Gz6 (k:Nat) (S:KS) (N:Nat) (ok:KOk N S) (hN:N+1<1000000000) (env:Int) (c:CallS) (ba:Option Addr) (bc:Nat) (ro:Bool) (h5:c.op≠5) :
  Ct A4 Q6 [P0 k,int env,.agg ⟨Bs6 c ba bc⟩] [E5 k S,slC ro A2 1 ba c.b.length bc (A0 c.b)] fun v own=>∃ x d,v=.agg ⟨[int (Y8 S env c).1.1,int (Y8 S env c).1.2.1,.slice x (Y8 S env c).1.2.2.length d]⟩ ∧
    own [slC false A2 1 x (Y8 S env c).1.2.2.length d (A0 (Y8 S env c).1.2.2),E5 k (Y8 S env c).2,slC ro A2 1 ba c.b.length bc (A0 c.b)]:=by
 intro h r o
 obtain ⟨pq,o1⟩:=Own.ex (f:=fun pq=>slX ro A2 1 ba c.b.length bc pq (A0 c.b)) (o.perm (.swap _ _ _))
 obtain ⟨v,h',e,x,d,rfl,o2⟩:=H70 k S N ok hN env c ba bc ro pq h5 h r (o1.perm (.swap _ _ _))
 refine ⟨_,h',e,x,d,rfl,?_⟩
 have o3:=o2.picks [2] rfl
 exact (Own.inex (f:=fun pq=>slX ro A2 1 ba c.b.length bc pq (A0 c.b)) pq o3).picks [1,1,0] rfl
theorem Ej0 (c k:Nat) (F:Fr) (X:CX) (rc:RecS) (ok:FrOk F):Ct A4 O5 [P0 c,.agg ⟨E2 rc⟩] [cmC c k F X] fun v own =>
  (∃ l a cp,rdX X rc=some l∧l.length=Q3 rc.kind∧v=.tuple ⟨[.slice a l.length cp,.bool true]⟩∧own [slC false A2 1 a l.length cp (A0 l),cmC c k F X]) ∨
  (rdX X rc=none∧v=.tuple ⟨[.slice none 0 0,.bool false]⟩∧own [cmC c k F X]):=by
 refine Ct.of Ec1 rfl fun h r=>Tr.eq (D89 ..) ?_;refine Je ?_
 refine A7 (cmC c k F X) fun u=>?_;refine Je ?_
 refine H2 2 rfl fun f=>?_
 (refine Ja ?_;intros)
 refine Yc (E11 c k F.env F.caps X.bad rc ok.small ok.ne) ?_;rintro _ h ⟨rfl,o⟩<;>(refine Jg o ?_;intros)
 have em:=f.mlen ok
 cases hp:H4 F.caps.length rc with
 | none =>
  (refine Jb ?_;intros)
  refine Yb (Yt rfl ?_)
  refine Ys fun o=>(?_:Tr _ _ _ _) o;refine Je ?_
  (refine Ja ?_;intros)
  refine A5 (cmC c k F X) () ?_;refine Je ?_
  refine Ys fun o=>?_
  exact .inr ⟨by unfold rdX;rw [em,hp],rfl,o.sub⟩
 | some p =>
  obtain ⟨j,a,n⟩:=p
  refine A7 (N5 c k F.env F.caps X.bad) fun ⟨ca,cn,mb⟩=>?_;refine Je ?_
  (refine Jb ?_;intros)
  refine Tr.orG (c:=decide (rc ∈ X.bad)) (fun _=>?_) ?_
  ·(refine Ja ?_;intros)
   rw [Bp5,Hw7]
   (refine Ja ?_;intros)
   refine Ys fun o=>?_
   rw [Hv2];exact ⟨by first|rfl|trivial,by first|rfl|trivial⟩
  by_cases hb:rc ∈ X.bad
  ·rw [decide_eq_true hb]
   (refine Ja ?_;intros)
   refine A5 (N5 c k F.env F.caps X.bad) ⟨ca,cn,mb⟩ ?_;refine Je ?_
   refine A5 (cmC c k F X) () ?_;refine Je ?_
   refine Ys fun o=>?_
   exact .inr ⟨by unfold rdX;rw [em,hp];exact if_pos hb,rfl,o.sub⟩
  ·rw [decide_eq_false hb]
   refine Yf rfl ?_
   (refine Ja ?_;intros)
   refine A5 (N5 c k F.env F.caps X.bad) ⟨ca,cn,mb⟩ ?_;refine Je ?_
   have J:=Hx5 k (F.at X.m) F.N (F.at_ok ok f) ok.hN F.env 1 (F.caps.getD j 0) (a:Int) (n:Int) 0 0 (by decide)
   rw [I29 ok f hp] at J
   refine Yc (J) ?_;rintro _ h ⟨y,d,rfl,o⟩<;>(refine Jf o ?_;intros)
   refine Yf rfl ?_
   (refine Ja ?_;intros)
   refine A5 (cmC c k F X) () ?_;refine Je ?_
   refine Ys fun o=>?_
   have e:rdX X rc=some (slice (X.m.getD j []) a n):=by unfold rdX;rw [em,hp];exact if_neg hb
   exact .inl ⟨_,y,d,e,Iv2 ok f e,rfl,o.sub⟩
theorem Bc5 (c k:Nat) (F:Fr) (X:CX) (rc:RecS) (ok:FrOk F) (bs:List UInt8) (g:Bool) (ba:Option Addr) (bc:Nat) (hb:g=true→bs.length=Q3 rc.kind) :
  Ct A4 H1 [P0 c,.agg ⟨E2 rc⟩,.slice ba bs.length bc,.bool g] [cmC c k F X,slC false A2 1 ba bs.length bc (A0 bs)] fun v own =>
   v=.bool (wrX X rc bs g).1∧own [cmC c k F (wrX X rc bs g).2,slC false A2 1 ba bs.length bc (A0 bs)]:=by
 refine Ct.of D36 rfl fun h r=>Tr.eq (D22 ..) ?_;refine Je ?_
 refine A7 (cmC c k F X) fun u=>?_;refine Je ?_
 refine H2 2 rfl fun f=>?_
 (refine Ja ?_;intros)
 refine Yc (E11 c k F.env F.caps X.bad rc ok.small ok.ne) ?_;rintro _ h ⟨rfl,o⟩<;>(refine Jg o ?_;intros)
 have em:=f.mlen ok
 cases hp:H4 F.caps.length rc with
 | none =>
  (refine Jb ?_;intros)
  refine Yb (Yt rfl ?_)
  refine Ys fun o=>(?_:Tr _ _ _ _) o;refine Je ?_
  refine Yb (Yt rfl ?_)
  refine Ys fun o=>(?_:Tr _ _ _ _) o;refine Je ?_
  (refine Ja ?_;intros)
  refine A5 (cmC c k F X) () ?_;refine Je ?_
  refine Ys fun o=>?_
  have e:wrX X rc bs g=(false,X):=by unfold wrX;rw [em,hp]
  rw [e]
  exact ⟨by first|rfl|trivial,o.sub⟩
 | some p =>
  obtain ⟨j,a,n⟩:=p
  refine A7 (N5 c k F.env F.caps X.bad) fun ⟨ca,cn,mb⟩=>?_;refine Je ?_
  (refine Jb ?_;intros)
  refine Yb (Yf rfl ?_)
  refine Ys fun o=>(?_:Tr _ _ _ _) o;refine Je ?_
  (refine Jb ?_;intros)
  refine Tr.orG (c:=decide (rc ∈ X.bad)) (fun _=>?_) ?_
  ·(refine Ja ?_;intros)
   rw [Bp5,Hw7]
   (refine Ja ?_;intros)
   refine Ys fun o=>?_
   rw [Hv2];exact ⟨by first|rfl|trivial,by first|rfl|trivial⟩
  by_cases hg:g=true∧¬ rc ∈ X.bad
  ·have e:wrX X rc bs g=(true,{ X with m:=X.m.set j (Q5 (X.m.getD j []) a bs) }):=by unfold wrX;rw [em,hp];exact if_pos hg
   have f2:=Ip3 (r:=rc) (b:=bs) (ok:=g) ok f hb
   rw [e] at f2
   obtain ⟨rfl,hg2⟩:=hg
   rw [e,decide_eq_false hg2]
   refine Yf rfl ?_
   (refine Ja ?_;intros)
   refine A5 (N5 c k F.env F.caps X.bad) ⟨ca,cn,mb⟩ ?_;refine Je ?_
   have hl:bs.length=n:=by rw [hb rfl,Bf9 hp]
   have J:=Gz6 k (F.at X.m) F.N (F.at_ok ok f) ok.hN F.env ⟨2,F.caps.getD j 0,(a:Int),0,0,0,bs⟩ ba bc false (show ((2:Int)≠5) by decide)
   rw [Iy7 ok f hp hl] at J
   refine Yc (J) ?_;rintro _ h ⟨y,d,rfl,o⟩<;>(refine Jf o ?_;intros)
   refine Ao2 (show Fit F.S.mem.length F.rg (X.m.set j (Q5 (X.m.getD j []) a bs)) from f2) ?_
   refine A5 (cmC c k F { X with m:=X.m.set j (Q5 (X.m.getD j []) a bs) }) () ?_;refine Je ?_
   refine Ys fun o=>?_
   exact ⟨rfl,o.sub⟩
  ·have e:wrX X rc bs g=(false,X):=by unfold wrX;rw [em,hp];exact if_neg hg
   rw [e]
   refine Yt ?_ ?_
   ·cases g with
    | false=>rfl
    | true=>simpa using hg
   refine A5 (N5 c k F.env F.caps X.bad) ⟨ca,cn,mb⟩ ?_;refine Je ?_
   refine A5 (cmC c k F X) () ?_;refine Je ?_
   refine Ys fun o=>?_
   exact ⟨by first|rfl|trivial,o.sub⟩
def W1 {α:Type} (dec:List UInt8→α × Int) (z:α) (X:CX) (rc:RecS):(α × Int) × CX :=
 match rdX X rc with
 | some l=>(dec l,if (dec l).2=2 then { X with bad:=X.bad++[rc] } else X)
 | none=>((z,2),X)
theorem Dy6 {X:CX} {rc:RecS} {l:List UInt8} (h:rdX X rc=some l):¬ rc ∈ X.bad:=by
 unfold rdX at h
 split at h
 ·split at h
  ·cases h
  ·assumption
 ·cases h
theorem Ic6 (l:List UInt8) (h:(Q4 l).2≠1):(Q4 l).1=.zero:=by
 unfold Q4 at *;split<;>first|rfl|(split<;>first|rfl|(simp_all;done))
theorem Ic9 (l:List UInt8) (h:(V3 l).2≠1):(V3 l).1=.zero:=by
 unfold V3 at *;split<;>first|rfl|(split<;>first|rfl|(simp_all;done))
theorem H89 (l:List UInt8) (h:(H7 l).2≠1):(H7 l).1=.zero:=by
 unfold H7 at *;split<;>first|rfl|(split<;>first|rfl|(simp_all;done))
theorem Iu6 (c k:Nat) (F:Fr) (X:CX) (rc:RecS) (ok:FrOk F) (hk:Q3 rc.kind=24):Ct A4 L0 [P0 c,.agg ⟨E2 rc⟩,.func (.func Aw6) ⟨[]⟩ ⟨[]⟩] [cmC c k F X] fun v own =>
  v=.tuple ⟨[.agg ⟨B9 (W1 Q4 .zero X rc).1.1⟩,int (W1 Q4 .zero X rc).1.2]⟩∧own [cmC c k F (W1 Q4 .zero X rc).2]:=by
 refine Ct.of Au8 rfl fun h r=>Tr.eq (Dr4 ..) ?_;refine Je ?_
 (refine Ja ?_;intros)
 refine Yc (Ej0 c k F X rc ok) ?_
 rintro v h (⟨l,a,cp,hr,hl,rfl,o⟩|⟨hr,rfl,o⟩)
 ·refine (?_:Tr _ _ _ _) o
  refine Je ?_
  have e:W1 Q4 .zero X rc=(Q4 l,if (Q4 l).2=2 then { X with bad:=X.bad++[rc] } else X):=by unfold W1;rw [hr]
  have hb:=Dy6 hr
  rw [e]
  rw [hk] at hl
  rw [hl]
  (refine Ja ?_;intros)
  refine Yc (Hz9 a cp l hl) ?_;rintro _ h ⟨rfl,o⟩<;>(refine Jf o ?_;intros)
  by_cases h2:(Q4 l).2=2
  ·refine Yt (by simpa using h2) ?_
   have hz:=Ic6 l (by omega)
   simp only [if_pos h2]
   refine A7 (cmC c k F X) fun u=>?_;refine Je ?_
   refine A7 (N5 c k F.env F.caps X.bad) fun ⟨ca,cn,mb⟩=>?_;refine Je ?_
   (refine Ja ?_;intros)
   rw [Bp5,if_neg hb]
   (refine Ja ?_;intros)
   rw [Ei1 hb]
   (refine Ja ?_;intros)
   rw [D47 hb]
   (refine Ja ?_;intros)
   rw [Dj8 X.bad 0 X.bad.length _ 0 rfl (by omega),Nat.zero_add]
   (refine Ja ?_;intros)
   rw [Ep5]
   refine Tr.jmp Au8 (Tr.eq (Bb7 ..) ?_);(try simp only[Nr,Nl,wl,Nat.reduceAdd,Nat.reduceMul,Int.reduceToNat])
   refine Yt (by rw [bne_iff_ne];omega) ?_
   (refine Ja ?_;intros)
   rw [show X.bad.length+1=(X.bad++[rc]).length by simp]
   refine A5 (N5 c k F.env F.caps (X.bad++[rc])) ⟨ca,cn,mb⟩ ?_;refine Je ?_
   refine A5 (cmC c k F { X with bad:=X.bad++[rc] }) () ?_;refine Je ?_
   refine Ys fun o=>?_
   exact ⟨by rw [hz]<;>rfl,o.sub⟩
  ·refine Yf (by simpa using h2) ?_
   simp only [if_neg h2]
   refine Tr.jmp Au8 (Tr.eq (Bb7 ..) ?_);(try simp only[Nr,Nl,wl,Nat.reduceAdd,Nat.reduceMul,Int.reduceToNat])
   by_cases h1:(Q4 l).2=1
   ·refine Yf (by simpa using h1) ?_
    (refine Ja ?_;intros)
    refine Ys fun o=>?_
    exact ⟨rfl,o.sub⟩
   ·refine Yt (by simpa using h1) ?_
    (refine Ja ?_;intros)
    refine Ys fun o=>?_
    exact ⟨by rw [Ic6 l h1]<;>rfl,o.sub⟩
 ·refine (?_:Tr _ _ _ _) o
  refine Je ?_
  have e:W1 Q4 .zero X rc=((.zero,2),X):=by unfold W1;rw [hr]
  rw [e]
  (refine Ja ?_;intros)
  refine Ys fun o=>?_
  exact ⟨rfl,o.sub⟩
theorem Iu0 (c k:Nat) (F:Fr) (X:CX) (rc:RecS) (ok:FrOk F) (hk:Q3 rc.kind=8):Ct A4 J8 [P0 c,.agg ⟨E2 rc⟩,.func (.func Aw7) ⟨[]⟩ ⟨[]⟩] [cmC c k F X] fun v own =>
  v=.tuple ⟨[.agg ⟨Z6 (W1 V3 .zero X rc).1.1⟩,int (W1 V3 .zero X rc).1.2]⟩∧own [cmC c k F (W1 V3 .zero X rc).2]:=by
 refine Ct.of As5 rfl fun h r=>Tr.eq (Ds8 ..) ?_;refine Je ?_
 (refine Ja ?_;intros)
 refine Yc (Ej0 c k F X rc ok) ?_
 rintro v h (⟨l,a,cp,hr,hl,rfl,o⟩|⟨hr,rfl,o⟩)
 ·refine (?_:Tr _ _ _ _) o
  refine Je ?_
  have e:W1 V3 .zero X rc=(V3 l,if (V3 l).2=2 then { X with bad:=X.bad++[rc] } else X):=by unfold W1;rw [hr]
  have hb:=Dy6 hr
  rw [e]
  rw [hk] at hl
  rw [hl]
  (refine Ja ?_;intros)
  refine Yc (H50 a cp l hl) ?_;rintro _ h ⟨rfl,o⟩<;>(refine Jf o ?_;intros)
  by_cases h2:(V3 l).2=2
  ·refine Yt (by simpa using h2) ?_
   have hz:=Ic9 l (by omega)
   simp only [if_pos h2]
   refine A7 (cmC c k F X) fun u=>?_;refine Je ?_
   refine A7 (N5 c k F.env F.caps X.bad) fun ⟨ca,cn,mb⟩=>?_;refine Je ?_
   (refine Ja ?_;intros)
   rw [Bp5,if_neg hb]
   (refine Ja ?_;intros)
   rw [Ei1 hb]
   (refine Ja ?_;intros)
   rw [D47 hb]
   (refine Ja ?_;intros)
   rw [Dj8 X.bad 0 X.bad.length _ 0 rfl (by omega),Nat.zero_add]
   (refine Ja ?_;intros)
   rw [Ep5]
   refine Tr.jmp As5 (Tr.eq (Bc1 ..) ?_);(try simp only[Nr,Nl,wl,Nat.reduceAdd,Nat.reduceMul,Int.reduceToNat])
   refine Yt (by rw [bne_iff_ne];omega) ?_
   (refine Ja ?_;intros)
   rw [show X.bad.length+1=(X.bad++[rc]).length by simp]
   refine A5 (N5 c k F.env F.caps (X.bad++[rc])) ⟨ca,cn,mb⟩ ?_;refine Je ?_
   refine A5 (cmC c k F { X with bad:=X.bad++[rc] }) () ?_;refine Je ?_
   refine Ys fun o=>?_
   exact ⟨by rw [hz]<;>rfl,o.sub⟩
  ·refine Yf (by simpa using h2) ?_
   simp only [if_neg h2]
   refine Tr.jmp As5 (Tr.eq (Bc1 ..) ?_);(try simp only[Nr,Nl,wl,Nat.reduceAdd,Nat.reduceMul,Int.reduceToNat])
   by_cases h1:(V3 l).2=1
   ·refine Yf (by simpa using h1) ?_
    (refine Ja ?_;intros)
    refine Ys fun o=>?_
    exact ⟨rfl,o.sub⟩
   ·refine Yt (by simpa using h1) ?_
    (refine Ja ?_;intros)
    refine Ys fun o=>?_
    exact ⟨by rw [Ic9 l h1]<;>rfl,o.sub⟩
 ·refine (?_:Tr _ _ _ _) o
  refine Je ?_
  have e:W1 V3 .zero X rc=((.zero,2),X):=by unfold W1;rw [hr]
  rw [e]
  (refine Ja ?_;intros)
  refine Ys fun o=>?_
  exact ⟨rfl,o.sub⟩
theorem Hw1 (c k:Nat) (F:Fr) (X:CX) (rc:RecS) (ok:FrOk F) (hk:Q3 rc.kind=40):Ct A4 I6 [P0 c,.agg ⟨E2 rc⟩,.func (.func Aq6) ⟨[]⟩ ⟨[]⟩] [cmC c k F X] fun v own =>
  v=.tuple ⟨[.agg ⟨D0 (W1 H7 .zero X rc).1.1⟩,int (W1 H7 .zero X rc).1.2]⟩∧own [cmC c k F (W1 H7 .zero X rc).2]:=by
 refine Ct.of Au1 rfl fun h r=>Tr.eq (Ds2 ..) ?_;refine Je ?_
 (refine Ja ?_;intros)
 refine Yc (Ej0 c k F X rc ok) ?_
 rintro v h (⟨l,a,cp,hr,hl,rfl,o⟩|⟨hr,rfl,o⟩)
 ·refine (?_:Tr _ _ _ _) o
  refine Je ?_
  have e:W1 H7 .zero X rc=(H7 l,if (H7 l).2=2 then { X with bad:=X.bad++[rc] } else X):=by unfold W1;rw [hr]
  have hb:=Dy6 hr
  rw [e]
  rw [hk] at hl
  rw [hl]
  (refine Ja ?_;intros)
  refine Yc (H26 a cp l hl) ?_;rintro _ h ⟨rfl,o⟩<;>(refine Jf o ?_;intros)
  by_cases h2:(H7 l).2=2
  ·refine Yt (by simpa using h2) ?_
   have hz:=H89 l (by omega)
   simp only [if_pos h2]
   refine A7 (cmC c k F X) fun u=>?_;refine Je ?_
   refine A7 (N5 c k F.env F.caps X.bad) fun ⟨ca,cn,mb⟩=>?_;refine Je ?_
   (refine Ja ?_;intros)
   rw [Bp5,if_neg hb]
   (refine Ja ?_;intros)
   rw [Ei1 hb]
   (refine Ja ?_;intros)
   rw [D47 hb]
   (refine Ja ?_;intros)
   rw [Dj8 X.bad 0 X.bad.length _ 0 rfl (by omega),Nat.zero_add]
   (refine Ja ?_;intros)
   rw [Ep5]
   refine Tr.jmp Au1 (Tr.eq (Ba7 ..) ?_);(try simp only[Nr,Nl,wl,Nat.reduceAdd,Nat.reduceMul,Int.reduceToNat])
   refine Yt (by rw [bne_iff_ne];omega) ?_
   (refine Ja ?_;intros)
   rw [show X.bad.length+1=(X.bad++[rc]).length by simp]
   refine A5 (N5 c k F.env F.caps (X.bad++[rc])) ⟨ca,cn,mb⟩ ?_;refine Je ?_
   refine A5 (cmC c k F { X with bad:=X.bad++[rc] }) () ?_;refine Je ?_
   refine Ys fun o=>?_
   exact ⟨by rw [hz]<;>rfl,o.sub⟩
  ·refine Yf (by simpa using h2) ?_
   simp only [if_neg h2]
   refine Tr.jmp Au1 (Tr.eq (Ba7 ..) ?_);(try simp only[Nr,Nl,wl,Nat.reduceAdd,Nat.reduceMul,Int.reduceToNat])
   by_cases h1:(H7 l).2=1
   ·refine Yf (by simpa using h1) ?_
    (refine Ja ?_;intros)
    refine Ys fun o=>?_
    exact ⟨rfl,o.sub⟩
   ·refine Yt (by simpa using h1) ?_
    (refine Ja ?_;intros)
    refine Ys fun o=>?_
    exact ⟨by rw [H89 l h1]<;>rfl,o.sub⟩
 ·refine (?_:Tr _ _ _ _) o
  refine Je ?_
  have e:W1 H7 .zero X rc=((.zero,2),X):=by unfold W1;rw [hr]
  rw [e]
  (refine Ja ?_;intros)
  refine Ys fun o=>?_
  exact ⟨rfl,o.sub⟩
def Bz1 (g:Int):List UInt8:=[b8 g,211,Bv4 [b8 g,211],0]
def V9 (l:List UInt8):Int × Int:=if byI l 0<8∧Bz1 (byI l 0)=l then (byI l 0,1) else (0,2)
theorem Er9 (g:Int):Ct A4 Ah9 [int g] [] fun v own =>
  (0≤g∧g<8∧∃ a c,v=.tuple ⟨[.slice a 4 c,.bool true]⟩∧own [slC false A2 1 a 4 c (A0 (Bz1 g))])∨(¬ (0≤g∧g<8)∧v=.tuple ⟨[.slice none 0 0,.bool false]⟩∧own []):=by
 refine Ct.of Ej5 rfl fun h r=>Tr.eq (El1 ..) ?_;refine Je ?_
 (refine Ja ?_;intros)
 by_cases hg:0≤g∧g<8
 ·refine Yf (by simp;omega) ?_
  rw [B62]
  refine Yn fun b h=>?_
  rw [show ([.int .u8 ((b8 g).toNat:Int),.int .u8 211]:List Value)=A0 [b8 g,211] from rfl]
  refine Ak1 0 rfl 1 2 rfl (by omega) ?_
  refine Je ?_
  refine Tr.pcall (Gn6 (slC false A2 1 (some ⟨b,0,none⟩) 2 2 (A0 [b8 g,211])) (some ⟨b,0,none⟩) false 2 2 2 [b8 g,211] 2 (by simp) (by simp [A8])) ?_
  (refine Ja ?_;intros)
  rw [show List.take 2 [b8 g,211]=[b8 g,211] from rfl,Dy3]
  refine Tr.xApd ⟨rfl,rfl,by simp [A8]⟩ fun a' c' h'=>?_
  refine Je ?_
  refine Ys fun o=>?_
  exact .inl ⟨hg.1,hg.2,a',c',rfl,(show Own h' (_::slC false A2 1 a' 4 c' (A0 (Bz1 g))::_) from o).sub⟩
 ·refine Yt (by simp;omega) ?_
  refine Ys fun o=>?_
  exact .inr ⟨hg,rfl,o.sub⟩
theorem It0 (l:List UInt8):∀ (m i:Nat) (r:List UInt8),l.length-i=m→ByteArray.toList.loop ⟨⟨l⟩⟩ i r=r.reverse++l.drop i:=by
 intro m
 induction m with
 | zero =>
  intro i r hm
  unfold ByteArray.toList.loop
  rw [if_neg (show ¬ i<(ByteArray.mk ⟨l⟩).size by show ¬ i<l.length;omega),List.drop_eq_nil_of_le (by omega)];simp
 | succ m ih =>
  intro i r hm
  have hlt:i<l.length:=by omega
  unfold ByteArray.toList.loop
  rw [if_pos (show i<(ByteArray.mk ⟨l⟩).size from hlt),ih (i+1) _ (by omega),List.drop_eq_getElem_cons hlt]
  have:(ByteArray.mk ⟨l⟩).get! i=l[i]:=by
   show (Array.mk l)[i]! = l[i]
   simp [hlt]
  rw [this];simp
theorem Ak3 (l:List UInt8):(ByteArray.mk ⟨l⟩).toList=l:=by
 unfold ByteArray.toList
 rw [It0 l _ 0 [] rfl];simp
theorem Hs0 (pb:HP) (ro:Bool) (a:Option Addr) (c:Nat) (l:List UInt8) (hl:l.length=4) [ks:IsSl pb a ro A2 1 4 c (A0 l)]:Ct A4 Ak2 [.slice a 4 c] [pb] fun v own=>v=.tuple ⟨[int (V9 l).1,int (V9 l).2]⟩∧own [pb]:=by
 refine Ct.of Gb9 rfl fun h r=>Tr.eq (Gb3 ..) ?_;refine Je ?_
 refine Yf rfl ?_
 (refine Ja ?_;intros;repeat(refine Gw ?_;rintro px rfl;refine Ja ?_;intros))
 refine Tr.xIntS (v:=byI l 0) (Af4 (by omega)) ?_
 simp only [byI,Ac7]
 refine Yc (Er9 (byI l 0)) ?_
 rintro v h (⟨h1,h2,a1,c1,rfl,o⟩|⟨hn,rfl,o⟩)
 ·refine (?_:Tr _ _ _ _) o
  refine Je ?_
  (refine Ja ?_;intros)
  rw [Ak3,Ak3]
  by_cases he:Bz1 (byI l 0)=l
  ·have e:V9 l=(byI l 0,1):=by unfold V9;rw [if_pos ⟨h2,he⟩]
   refine Yf (by simp [he]) ?_
   (refine Ja ?_;intros)
   refine Tr.xIntS (v:=byI l 0) (Af4 (by omega)) ?_
   refine Ys fun o=>?_
   rw [e];exact ⟨by simp only [byI,Ac7],o.sub⟩
  ·have e:V9 l=(0,2):=by unfold V9;rw [if_neg (fun hh=>he hh.2)]
   refine Yt (by simp [he]) ?_
   refine Ys fun o=>?_
   rw [e];exact ⟨rfl,o.sub⟩
 ·refine (?_:Tr _ _ _ _) o
  refine Je ?_
  (refine Jb ?_;intros)
  refine Yb (Yt rfl ?_)
  refine Ys fun o=>(?_:Tr _ _ _ _) o;refine Je ?_
  (refine Ja ?_;intros)
  refine Ys fun o=>?_
  exact ⟨by unfold V9;rw [if_neg (by simp only [byI] at *;omega)],o.sub⟩
theorem H05 (a:Option Addr) (c:Nat) (l:List UInt8) (hl:l.length=4):Ct A4 Ak2 [.slice a 4 c] [slC false A2 1 a 4 c (A0 l)] fun v own=>v=.tuple ⟨[int (V9 l).1,int (V9 l).2]⟩∧own [slC false A2 1 a 4 c (A0 l)]:=Hs0 (slC false A2 1 a 4 c (A0 l)) false a c l hl
theorem H83 (l:List UInt8) (h:(V9 l).2≠1):(V9 l).1=0:=by
 unfold V9 at *;split<;>simp_all
theorem Ip6 (c k:Nat) (F:Fr) (X:CX) (rc:RecS) (ok:FrOk F) (hk:Q3 rc.kind=4):Ct A4 U1 [P0 c,.agg ⟨E2 rc⟩,.func (.func Ak2) ⟨[]⟩ ⟨[]⟩] [cmC c k F X] fun v own =>
  v=.tuple ⟨[int (W1 V9 0 X rc).1.1,int (W1 V9 0 X rc).1.2]⟩∧own [cmC c k F (W1 V9 0 X rc).2]:=by
 refine Ct.of Bh0 rfl fun h r=>Tr.eq (Ej1 ..) ?_;refine Je ?_
 (refine Ja ?_;intros)
 refine Yc (Ej0 c k F X rc ok) ?_
 rintro v h (⟨l,a,cp,hr,hl,rfl,o⟩|⟨hr,rfl,o⟩)
 ·refine (?_:Tr _ _ _ _) o
  refine Je ?_
  have e:W1 V9 0 X rc=(V9 l,if (V9 l).2=2 then { X with bad:=X.bad++[rc] } else X):=by unfold W1;rw [hr]
  have hb:=Dy6 hr
  rw [e]
  rw [hk] at hl
  rw [hl]
  (refine Ja ?_;intros)
  refine Yc (H05 a cp l hl) ?_;rintro _ h ⟨rfl,o⟩<;>(refine Jf o ?_;intros)
  by_cases h2:(V9 l).2=2
  ·refine Yt (by simpa using h2) ?_
   have hz:=H83 l (by omega)
   simp only [if_pos h2]
   refine A7 (cmC c k F X) fun u=>?_;refine Je ?_
   refine A7 (N5 c k F.env F.caps X.bad) fun ⟨ca,cn,mb⟩=>?_;refine Je ?_
   (refine Ja ?_;intros)
   rw [Bp5,if_neg hb]
   (refine Ja ?_;intros)
   rw [Ei1 hb]
   (refine Ja ?_;intros)
   rw [D47 hb]
   (refine Ja ?_;intros)
   rw [Dj8 X.bad 0 X.bad.length _ 0 rfl (by omega),Nat.zero_add]
   (refine Ja ?_;intros)
   rw [Ep5]
   refine Tr.jmp Bh0 (Tr.eq (Bu8 ..) ?_);(try simp only[Nr,Nl,wl,Nat.reduceAdd,Nat.reduceMul,Int.reduceToNat])
   refine Yt (by rw [bne_iff_ne];omega) ?_
   rw [show X.bad.length+1=(X.bad++[rc]).length by simp]
   refine A5 (N5 c k F.env F.caps (X.bad++[rc])) ⟨ca,cn,mb⟩ ?_;refine Je ?_
   refine A5 (cmC c k F { X with bad:=X.bad++[rc] }) () ?_;refine Je ?_
   refine Ys fun o=>?_
   exact ⟨by rw [hz],o.sub⟩
  ·refine Yf (by simpa using h2) ?_
   simp only [if_neg h2]
   refine Tr.jmp Bh0 (Tr.eq (Bu8 ..) ?_);(try simp only[Nr,Nl,wl,Nat.reduceAdd,Nat.reduceMul,Int.reduceToNat])
   by_cases h1:(V9 l).2=1
   ·refine Yf (by simpa using h1) ?_
    refine Ys fun o=>?_
    exact ⟨rfl,o.sub⟩
   ·refine Yt (by simpa using h1) ?_
    refine Ys fun o=>?_
    exact ⟨by rw [H83 l h1],o.sub⟩
 ·refine (?_:Tr _ _ _ _) o
  refine Je ?_
  have e:W1 V9 0 X rc=((0,2),X):=by unfold W1;rw [hr]
  rw [e]
  (refine Ja ?_;intros)
  refine Ys fun o=>?_
  exact ⟨rfl,o.sub⟩
abbrev D44 (X:CX) (i:Int):(ProcS × Int) × CX:=W1 Q4 .zero X ⟨1,i⟩
abbrev E73 (X:CX) (i:Int):(FileS × Int) × CX:=W1 V3 .zero X ⟨2,i⟩
abbrev E90 (X:CX) (i:Int):(PipeS × Int) × CX:=W1 H7 .zero X ⟨3,i⟩
abbrev Eq8 (X:CX):(PipeS × Int) × CX:=W1 H7 .zero X ⟨4,0⟩
abbrev Ee5 (X:CX):(Int × Int) × CX:=W1 V9 0 X ⟨5,0⟩
abbrev B19 (X:CX) (i:Int) (p:ProcS):Bool × CX:=wrX X ⟨1,i⟩ (Bb4 p) (okS p)
abbrev B29 (X:CX) (i:Int) (p:FileS):Bool × CX:=wrX X ⟨2,i⟩ (Bf2 p) (okF p)
abbrev Dh1 (X:CX) (i:Int) (p:PipeS):Bool × CX:=wrX X ⟨3,i⟩ (Al3 p) (okP p)
abbrev Df8 (X:CX) (p:PipeS):Bool × CX:=wrX X ⟨4,0⟩ (Al3 p) (okP p)
abbrev Bp7 (X:CX) (g:Int):Bool × CX:=wrX X ⟨5,0⟩ (Bz1 g) (decide (0≤g∧g<8))
abbrev Ap7 (X:CX) (rc:RecS):Bool × CX:=wrX X rc (List.replicate (Q3 rc.kind) 0) true
theorem Bh7 (X:CX) (rc:RecS) (b:List UInt8):wrX X rc b false=(false,X):=by
 unfold wrX;split<;>simp
theorem E43 (c k:Nat) (F:Fr) (X:CX) (rc:RecS) (ok:FrOk F):Ct A4 S5 [P0 c,.agg ⟨E2 rc⟩] [cmC c k F X] fun v own =>
  v=.bool (Ap7 X rc).1∧own [cmC c k F (Ap7 X rc).2]:=by
 refine Ct.of D24 rfl fun h r=>Tr.eq (D39 ..) ?_;refine Je ?_
 refine A7 (cmC c k F X) fun u=>?_;refine Je ?_
 refine H2 2 rfl fun f=>?_
 (repeat' first|refine Gu ?_|(with_reducible first|refine Gn fun b h=>?_|apply Gx|apply Gy|rintro px rfl|apply Gw|refine fun(h:H)=>?_|intro hb)|refine Gs ?_|refine Gt ?_|exact Gz rfl|fail)
 refine Yc (E11 c k F.env F.caps X.bad rc ok.small ok.ne) ?_;rintro _ h ⟨rfl,o⟩<;>(refine (?_:Tr _ _ _ _) o;refine Je ?_;(repeat' first|refine Gu ?_|(with_reducible first|refine Gn fun b h=>?_|apply Gx|apply Gy|rintro px rfl|apply Gw|refine fun(h:H)=>?_|intro hb)|refine Gs ?_|refine Gt ?_|exact Gz rfl|fail))
 have em:=f.mlen ok
 cases hp:H4 F.caps.length rc with
 | none =>
  (repeat' first|refine Gu ?_|(with_reducible first|refine Gn fun b h=>?_|apply Gx|apply Gy|rintro px rfl|apply Gw|refine fun(h:H)=>?_|intro hb)|refine Gs ?_|refine Gt ?_|exact Gz rfl|fail)
  rw [show G9 (Int.toNat 0) [.int .u8 0]=A0 [] from rfl]
  refine Ak1 0 rfl 1 0 rfl (by omega) ?_
  refine Je ?_
  refine A5 (cmC c k F X) () ?_;refine Je ?_
  refine Yc (Bc5 c k F X rc ok [] false (some ⟨b,0,none⟩) 0 (by simp)) ?_;rintro _ h ⟨rfl,o⟩<;>(refine (?_:Tr _ _ _ _) o;refine Je ?_;(repeat' first|refine Gu ?_|(with_reducible first|refine Gn fun b h=>?_|apply Gx|apply Gy|rintro px rfl|apply Gw|refine fun(h:H)=>?_|intro hb)|refine Gs ?_|refine Gt ?_|exact Gz rfl|fail))
  refine Ys fun o=>?_
  have e:Ap7 X rc=(false,X):=by unfold Ap7 wrX;rw [em,hp]
  rw [Bh7] at o
  rw [e,Bh7]
  exact ⟨by first|rfl|trivial,o.sub⟩
 | some p =>
  obtain ⟨j,a,n⟩:=p
  have hn:=Bf9 hp
  subst hn
  have h40:Q3 rc.kind≤40:=by unfold Q3;(repeat' split)<;>omega
  (repeat' first|refine Gu ?_|(with_reducible first|refine Gn fun b h=>?_|apply Gx|apply Gy|rintro px rfl|apply Gw|refine fun(h:H)=>?_|intro hb)|refine Gs ?_|refine Gt ?_|exact Gz rfl|fail)
  refine Tr.ck ⟨by omega,by omega,by simp only [A8];omega⟩ ?_
  refine Yn fun b1 h=>?_
  rw [Int.toNat_natCast,show G9 (Q3 rc.kind) [.int .u8 0]=A0 (List.replicate (Q3 rc.kind) 0) by simp [G9,A0]]
  refine Ak1 0 rfl 1 (Q3 rc.kind) (by simp [A0]) (by omega) ?_
  refine Je ?_
  refine A5 (cmC c k F X) () ?_;refine Je ?_
  have J:=Bc5 c k F X rc ok (List.replicate (Q3 rc.kind) 0) true (some ⟨b1,0,none⟩) (Q3 rc.kind) (by simp)
  rw [List.length_replicate] at J
  refine Yc (J) ?_;rintro _ h ⟨rfl,o⟩<;>(refine (?_:Tr _ _ _ _) o;refine Je ?_;(repeat' first|refine Gu ?_|(with_reducible first|refine Gn fun b h=>?_|apply Gx|apply Gy|rintro px rfl|apply Gw|refine fun(h:H)=>?_|intro hb)|refine Gs ?_|refine Gt ?_|exact Gz rfl|fail))
  refine Ys fun o=>?_
  exact ⟨rfl,o.sub⟩
theorem B55 (c k:Nat) (F:Fr) (X:CX) (rc:RecS) (ok:FrOk F):Ct A4 H1 [P0 c,.agg ⟨E2 rc⟩,.slice none 0 0,.bool false] [cmC c k F X] fun v own=>v=.bool false∧own [cmC c k F X]:=by
 intro h r o
 have o1:Own h (slC false A2 1 none 0 0 (A0 [])::cmC c k F X::r):=o.slNil false A2 (by omega)
 obtain ⟨v,h',e,rfl,o2⟩:=Bc5 c k F X rc ok [] false none 0 (by simp) h r (o1.perm (.swap _ _ _))
 rw [Bh7] at e o2
 exact ⟨_,h',e,rfl,o2.sub⟩
theorem Eo4 (i:Int):Ct A4 Aw5 [int i] [] fun v own=>v=.agg ⟨E2 ⟨1,i⟩⟩∧own []:=by
 refine Ct.of Gy1 rfl fun h r=>Tr.eq (Gu7 ..) ?_;refine Je ?_
 (refine Ja ?_;intros)
 refine Ys fun o=>?_
 exact ⟨rfl,o.sub⟩
theorem Eo6 (i:Int):Ct A4 Aw4 [int i] [] fun v own=>v=.agg ⟨E2 ⟨2,i⟩⟩∧own []:=by
 refine Ct.of Gz5 rfl fun h r=>Tr.eq (Gw1 ..) ?_;refine Je ?_
 (refine Ja ?_;intros)
 refine Ys fun o=>?_
 exact ⟨rfl,o.sub⟩
theorem Er3 (i:Int):Ct A4 Aw8 [int i] [] fun v own=>v=.agg ⟨E2 ⟨3,i⟩⟩∧own []:=by
 refine Ct.of Gx6 rfl fun h r=>Tr.eq (Gv5 ..) ?_;refine Je ?_
 (refine Ja ?_;intros)
 refine Ys fun o=>?_
 exact ⟨rfl,o.sub⟩
theorem Gh5 (c k:Nat) (F:Fr) (X:CX) (ok:FrOk F) (i:Int):Ct A4 V0 [P0 c,int i] [cmC c k F X] fun v own=>v=.tuple ⟨[.agg ⟨B9 (D44 X i).1.1⟩,int (D44 X i).1.2]⟩∧own [cmC c k F (D44 X i).2]:=by
 refine Ct.of Eb1 rfl fun h r=>Tr.eq (D91 ..) ?_;refine Je ?_
 (refine Ja ?_;intros)
 refine Yc (Eo4 i) ?_;rintro _ h ⟨rfl,o⟩<;>(refine Jf o ?_;intros)
 refine Yc (Iu6 c k F X ⟨1,i⟩ ok rfl) ?_;rintro _ h ⟨rfl,o⟩<;>(refine Jf o ?_;intros)
 refine Ys fun o=>?_
 exact ⟨rfl,o.sub⟩
theorem G94 (c k:Nat) (F:Fr) (X:CX) (ok:FrOk F) (i:Int):Ct A4 Ac3 [P0 c,int i] [cmC c k F X] fun v own=>v=.tuple ⟨[.agg ⟨Z6 (E73 X i).1.1⟩,int (E73 X i).1.2]⟩∧own [cmC c k F (E73 X i).2]:=by
 refine Ct.of Eb8 rfl fun h r=>Tr.eq (D90 ..) ?_;refine Je ?_
 (refine Ja ?_;intros)
 refine Yc (Eo6 i) ?_;rintro _ h ⟨rfl,o⟩<;>(refine Jf o ?_;intros)
 refine Yc (Iu0 c k F X ⟨2,i⟩ ok rfl) ?_;rintro _ h ⟨rfl,o⟩<;>(refine Jf o ?_;intros)
 refine Ys fun o=>?_
 exact ⟨rfl,o.sub⟩
theorem Hn1 (c k:Nat) (F:Fr) (X:CX) (ok:FrOk F) (i:Int):Ct A4 Ac5 [P0 c,int i] [cmC c k F X] fun v own=>v=.tuple ⟨[.agg ⟨D0 (E90 X i).1.1⟩,int (E90 X i).1.2]⟩∧own [cmC c k F (E90 X i).2]:=by
 refine Ct.of D94 rfl fun h r=>Tr.eq (D87 ..) ?_;refine Je ?_
 (refine Ja ?_;intros)
 refine Yc (Er3 i) ?_;rintro _ h ⟨rfl,o⟩<;>(refine Jf o ?_;intros)
 refine Yc (Hw1 c k F X ⟨3,i⟩ ok rfl) ?_;rintro _ h ⟨rfl,o⟩<;>(refine Jf o ?_;intros)
 refine Ys fun o=>?_
 exact ⟨rfl,o.sub⟩
theorem Gg4 (c k:Nat) (F:Fr) (X:CX) (ok:FrOk F):Ct A4 U7 [P0 c] [cmC c k F X] fun v own=>v=.tuple ⟨[.agg ⟨D0 (Eq8 X).1.1⟩,int (Eq8 X).1.2]⟩∧own [cmC c k F (Eq8 X).2]:=by
 refine Ct.of Ea5 rfl fun h r=>Tr.eq (Ea4 ..) ?_;refine Je ?_
 (refine Ja ?_;intros)
 refine Yc (Hw1 c k F X ⟨4,0⟩ ok rfl) ?_;rintro _ h ⟨rfl,o⟩<;>(refine Jf o ?_;intros)
 refine Ys fun o=>?_
 exact ⟨rfl,o.sub⟩
theorem Ex3 (c k:Nat) (F:Fr) (X:CX) (ok:FrOk F):Ct A4 S1 [P0 c] [cmC c k F X] fun v own=>v=.tuple ⟨[int (Ee5 X).1.1,.bool ((Ee5 X).1.2==1)]⟩∧own [cmC c k F (Ee5 X).2]:=by
 refine Ct.of D33 rfl fun h r=>Tr.eq (D37 ..) ?_;refine Je ?_
 (refine Ja ?_;intros)
 refine Yc (Ip6 c k F X ⟨5,0⟩ ok rfl) ?_;rintro _ h ⟨rfl,o⟩<;>(refine Jf o ?_;intros)
 refine Ys fun o=>?_
 exact ⟨rfl,o.sub⟩
theorem Gf1 (f:FileS):(Bf2 f).length=8:=rfl
theorem Hr1 (c k:Nat) (F:Fr) (X:CX) (ok:FrOk F) (i:Int) (p:ProcS):Ct A4 Af7 [P0 c,int i,.agg ⟨B9 p⟩] [cmC c k F X] fun v own=>v=.bool (B19 X i p).1∧own [cmC c k F (B19 X i p).2]:=by
 refine Ct.of Dr9 rfl fun h r=>Tr.eq (Dt8 ..) ?_;refine Je ?_
 (refine Ja ?_;intros)
 refine Yc (Gr0 p) ?_
 rintro v h (⟨hk,a,rfl,o⟩|⟨hk,rfl,o⟩)
 ·refine (?_:Tr _ _ _ _) o
  refine Je ?_
  (refine Ja ?_;intros)
  refine Yc (Eo4 i) ?_;rintro _ h ⟨rfl,o⟩<;>(refine Jf o ?_;intros)
  have J:=Bc5 c k F X ⟨1,i⟩ ok (Bb4 p) true a 24 (fun _=>El3 p)
  rw [El3] at J
  refine Yc (J) ?_;rintro _ h ⟨rfl,o⟩<;>(refine Jf o ?_;intros)
  refine Ys fun o=>?_
  unfold B19;rw [hk]
  exact ⟨rfl,o.sub⟩
 ·refine (?_:Tr _ _ _ _) o
  refine Je ?_
  (refine Ja ?_;intros)
  refine Yc (Eo4 i) ?_;rintro _ h ⟨rfl,o⟩<;>(refine Jf o ?_;intros)
  refine Yc (B55 c k F X ⟨1,i⟩ ok) ?_;rintro _ h ⟨rfl,o⟩<;>(refine Jf o ?_;intros)
  refine Ys fun o=>?_
  unfold B19;rw [hk,Bh7]
  exact ⟨rfl,o.sub⟩
theorem Hu0 (c k:Nat) (F:Fr) (X:CX) (ok:FrOk F) (i:Int) (p:FileS):Ct A4 Af6 [P0 c,int i,.agg ⟨Z6 p⟩] [cmC c k F X] fun v own=>v=.bool (B29 X i p).1∧own [cmC c k F (B29 X i p).2]:=by
 refine Ct.of Dq9 rfl fun h r=>Tr.eq (Ds1 ..) ?_;refine Je ?_
 (refine Ja ?_;intros)
 refine Yc (Gp9 p) ?_
 rintro v h (⟨hk,a,rfl,o⟩|⟨hk,rfl,o⟩)
 ·refine (?_:Tr _ _ _ _) o
  refine Je ?_
  (refine Ja ?_;intros)
  refine Yc (Eo6 i) ?_;rintro _ h ⟨rfl,o⟩<;>(refine Jf o ?_;intros)
  have J:=Bc5 c k F X ⟨2,i⟩ ok (Bf2 p) true a 8 (fun _=>Gf1 p)
  rw [Gf1] at J
  refine Yc (J) ?_;rintro _ h ⟨rfl,o⟩<;>(refine Jf o ?_;intros)
  refine Ys fun o=>?_
  unfold B29;rw [hk]
  exact ⟨rfl,o.sub⟩
 ·refine (?_:Tr _ _ _ _) o
  refine Je ?_
  (refine Ja ?_;intros)
  refine Yc (Eo6 i) ?_;rintro _ h ⟨rfl,o⟩<;>(refine Jf o ?_;intros)
  refine Yc (B55 c k F X ⟨2,i⟩ ok) ?_;rintro _ h ⟨rfl,o⟩<;>(refine Jf o ?_;intros)
  refine Ys fun o=>?_
  unfold B29;rw [hk,Bh7]
  exact ⟨rfl,o.sub⟩
theorem Hp4 (c k:Nat) (F:Fr) (X:CX) (ok:FrOk F) (i:Int) (p:PipeS):Ct A4 Af9 [P0 c,int i,.agg ⟨D0 p⟩] [cmC c k F X] fun v own=>v=.bool (Dh1 X i p).1∧own [cmC c k F (Dh1 X i p).2]:=by
 refine Ct.of Dr3 rfl fun h r=>Tr.eq (Dq8 ..) ?_;refine Je ?_
 (refine Ja ?_;intros)
 refine Yc (Ep7 p) ?_
 rintro v h (⟨hk,a,rfl,o⟩|⟨hk,rfl,o⟩)
 ·refine (?_:Tr _ _ _ _) o
  refine Je ?_
  (refine Ja ?_;intros)
  refine Yc (Er3 i) ?_;rintro _ h ⟨rfl,o⟩<;>(refine Jf o ?_;intros)
  have J:=Bc5 c k F X ⟨3,i⟩ ok (Al3 p) true a 40 (fun _=>Bo6 p.len)
  rw [Bo6 p.len] at J
  refine Yc (J) ?_;rintro _ h ⟨rfl,o⟩<;>(refine Jf o ?_;intros)
  refine Ys fun o=>?_
  unfold Dh1;rw [hk]
  exact ⟨rfl,o.sub⟩
 ·refine (?_:Tr _ _ _ _) o
  refine Je ?_
  (refine Ja ?_;intros)
  refine Yc (Er3 i) ?_;rintro _ h ⟨rfl,o⟩<;>(refine Jf o ?_;intros)
  refine Yc (B55 c k F X ⟨3,i⟩ ok) ?_;rintro _ h ⟨rfl,o⟩<;>(refine Jf o ?_;intros)
  refine Ys fun o=>?_
  unfold Dh1;rw [hk,Bh7]
  exact ⟨rfl,o.sub⟩
theorem Hi2 (c k:Nat) (F:Fr) (X:CX) (ok:FrOk F) (g:Int):Ct A4 Ad9 [P0 c,int g] [cmC c k F X] fun v own=>v=.bool (Bp7 X g).1∧own [cmC c k F (Bp7 X g).2]:=by
 refine Ct.of Dn3 rfl fun h r=>Tr.eq (Dn4 ..) ?_;refine Je ?_
 refine Yc (Er9 g) ?_
 rintro v h (⟨h1,h2,a,c1,rfl,o⟩|⟨hn,rfl,o⟩)
 ·refine (?_:Tr _ _ _ _) o
  refine Je ?_
  (refine Ja ?_;intros)
  have J:=Bc5 c k F X ⟨5,0⟩ ok (Bz1 g) true a c1 (fun _=>rfl)
  rw [show (Bz1 g).length=4 from rfl] at J
  refine Yc (J) ?_;rintro _ h ⟨rfl,o⟩<;>(refine Jf o ?_;intros)
  refine Ys fun o=>?_
  have e:decide (0≤g∧g<8)=true:=decide_eq_true ⟨h1,h2⟩
  unfold Bp7;rw [e]
  exact ⟨rfl,o.sub⟩
 ·refine (?_:Tr _ _ _ _) o
  refine Je ?_
  (refine Ja ?_;intros)
  refine Yc (B55 c k F X ⟨5,0⟩ ok) ?_;rintro _ h ⟨rfl,o⟩<;>(refine Jf o ?_;intros)
  refine Ys fun o=>?_
  have e:decide (0≤g∧g<8)=false:=decide_eq_false hn
  unfold Bp7;rw [e,Bh7]
  exact ⟨rfl,o.sub⟩
theorem Hj9 (c k:Nat) (F:Fr) (X:CX) (ok:FrOk F) (i:Int):Ct A4 Ad2 [P0 c,int i] [cmC c k F X] fun v own=>v=.bool (Ap7 X ⟨1,i⟩).1∧own [cmC c k F (Ap7 X ⟨1,i⟩).2]:=by
 refine Ct.of Dn5 rfl fun h r=>Tr.eq (Do3 ..) ?_;refine Je ?_
 refine Yc (Eo4 i) ?_;rintro _ h ⟨rfl,o⟩<;>(refine Jf o ?_;intros)
 refine Yc (E43 c k F X ⟨1,i⟩ ok) ?_;rintro _ h ⟨rfl,o⟩<;>(refine Jf o ?_;intros)
 refine Ys fun o=>?_
 exact ⟨rfl,o.sub⟩
theorem Hn6 (c k:Nat) (F:Fr) (X:CX) (ok:FrOk F) (i:Int):Ct A4 Ad3 [P0 c,int i] [cmC c k F X] fun v own=>v=.bool (Ap7 X ⟨2,i⟩).1∧own [cmC c k F (Ap7 X ⟨2,i⟩).2]:=by
 refine Ct.of Dm6 rfl fun h r=>Tr.eq (Do2 ..) ?_;refine Je ?_
 refine Yc (Eo6 i) ?_;rintro _ h ⟨rfl,o⟩<;>(refine Jf o ?_;intros)
 refine Yc (E43 c k F X ⟨2,i⟩ ok) ?_;rintro _ h ⟨rfl,o⟩<;>(refine Jf o ?_;intros)
 refine Ys fun o=>?_
 exact ⟨rfl,o.sub⟩
theorem Hm2 (c k:Nat) (F:Fr) (X:CX) (ok:FrOk F) (i:Int):Ct A4 Ad6 [P0 c,int i] [cmC c k F X] fun v own=>v=.bool (Ap7 X ⟨3,i⟩).1∧own [cmC c k F (Ap7 X ⟨3,i⟩).2]:=by
 refine Ct.of Dm3 rfl fun h r=>Tr.eq (Do0 ..) ?_;refine Je ?_
 refine Yc (Er3 i) ?_;rintro _ h ⟨rfl,o⟩<;>(refine Jf o ?_;intros)
 refine Yc (E43 c k F X ⟨3,i⟩ ok) ?_;rintro _ h ⟨rfl,o⟩<;>(refine Jf o ?_;intros)
 refine Ys fun o=>?_
 exact ⟨rfl,o.sub⟩
def Az9 (f:CX→Int→CX):Nat→Int→CX→CX
 | 0,_,X=>X
 | m+1,i,X=>Az9 f m (i+1) (f X i)
def Hm6 (X:CX):CX:=(Ee5 (Eq8 X).2).2
def Hh3 (nc:Nat) (X:CX):CX:=Hm6 (Az9 (fun X i=>(E90 X i).2) (3+nc) 0 X)
def Hg0 (nc:Nat) (X:CX):CX:=Hh3 nc (Az9 (fun X i=>(E73 X i).2) 12 0 X)
def lookN (nc:Nat) (X:CX):CX:=Hg0 nc (Az9 (fun X i=>(D44 X i).2) 8 0 X)
def Gl6 (X:CX):CX:=lookN X.m.length X
theorem H48 (c k:Nat) (F:Fr) (ok:FrOk F):∀ (m:Nat) (i:Int) (X:CX),0≤i→i+m=3+F.caps.length →
  CtJ E9 D1 Af3 [(0,P0 c),(20,int (3+F.caps.length)),(21,int i)] [cmC c k F X] fun v own=>v=.tuple ⟨[]⟩∧own [cmC c k F (Hm6 (Az9 (fun X i=>(E90 X i).2) m i X))]:=by
 have hs:=ok.small
 intro m
 induction m with
 | zero =>
  intro i X h0 hi
  refine CtJ.of O2 fun h r=>Tr.eq (Bk9 ..) ?_;refine Je ?_
  refine Yf (by simp;omega) ?_
  refine Yc (Gg4 c k F X ok) ?_;rintro _ h ⟨rfl,o⟩<;>(refine Jf o ?_;intros)
  refine Yc (Ex3 c k F (Eq8 X).2 ok) ?_;rintro _ h ⟨rfl,o⟩<;>(refine Jf o ?_;intros)
  refine Ys fun o=>?_
  exact ⟨rfl,o⟩
 | succ m ih =>
  intro i X h0 hi
  have e1:=wI i
  refine CtJ.of O2 fun h r=>Tr.eq (Bk9 ..) ?_;refine Je ?_
  refine Yt (by simp;omega) ?_
  refine Yc (Hn1 c k F X ok i) ?_;rintro _ h ⟨rfl,o⟩<;>(refine Jf o ?_;intros)
  rw [e1]
  refine Yr (ih (i+1) (E90 X i).2 (by omega) (by omega)) ?_
  rintro _ h ⟨rfl,o⟩
  exact ⟨rfl,o⟩
theorem H07 (c k:Nat) (F:Fr) (ok:FrOk F):∀ (m:Nat) (i:Int) (X:CX),0≤i→i+m=12 →
  CtJ E9 D1 Ag1 [(0,P0 c),(12,int i)] [cmC c k F X] fun v own=>v=.tuple ⟨[]⟩∧own [cmC c k F (Hh3 F.caps.length (Az9 (fun X i=>(E73 X i).2) m i X))]:=by
 have hs:=ok.small
 intro m
 induction m with
 | zero =>
  intro i X h0 hi
  refine CtJ.of O2 fun h r=>Tr.eq (Bm6 ..) ?_;refine Je ?_
  refine Yf (by simp;omega) ?_
  refine A7 (cmC c k F X) fun u=>?_;refine Je ?_
  refine Tr.pcall (Gh0 c k F.env F.caps X.bad 3 ok.small) ?_;refine Je ?_;(refine Ja ?_;intros)
  refine A5 (cmC c k F X) () ?_;refine Je ?_
  refine Yr (H48 c k F ok (3+F.caps.length) 0 X (by omega) (by omega)) ?_
  rintro _ h ⟨rfl,o⟩
  exact ⟨rfl,o⟩
 | succ m ih =>
  intro i X h0 hi
  have e1:=wI i
  refine CtJ.of O2 fun h r=>Tr.eq (Bm6 ..) ?_;refine Je ?_
  refine Yt (by simp;omega) ?_
  refine Yc (G94 c k F X ok i) ?_;rintro _ h ⟨rfl,o⟩<;>(refine Jf o ?_;intros)
  rw [e1]
  refine Yr (ih (i+1) (E73 X i).2 (by omega) (by omega)) ?_
  rintro _ h ⟨rfl,o⟩
  exact ⟨rfl,o⟩
theorem Hz4 (c k:Nat) (F:Fr) (ok:FrOk F):∀ (m:Nat) (i:Int) (X:CX),0≤i→i+m=8 →
  CtJ E9 D1 Ag0 [(0,P0 c),(5,int i)] [cmC c k F X] fun v own=>v=.tuple ⟨[]⟩∧own [cmC c k F (Hg0 F.caps.length (Az9 (fun X i=>(D44 X i).2) m i X))]:=by
 intro m
 induction m with
 | zero =>
  intro i X h0 hi
  refine CtJ.of O2 fun h r=>Tr.eq (Bm3 ..) ?_;refine Je ?_
  refine Yf (by simp;omega) ?_
  refine Yr (H07 c k F ok 12 0 X (by omega) (by omega)) ?_
  rintro _ h ⟨rfl,o⟩
  exact ⟨rfl,o⟩
 | succ m ih =>
  intro i X h0 hi
  have e1:=wI i
  refine CtJ.of O2 fun h r=>Tr.eq (Bm3 ..) ?_;refine Je ?_
  refine Yt (by simp;omega) ?_
  refine Yc (Gh5 c k F X ok i) ?_;rintro _ h ⟨rfl,o⟩<;>(refine Jf o ?_;intros)
  rw [e1]
  refine Yr (ih (i+1) (D44 X i).2 (by omega) (by omega)) ?_
  rintro _ h ⟨rfl,o⟩
  exact ⟨rfl,o⟩
theorem Iq3 (c k:Nat) (F:Fr) (X:CX) (ok:FrOk F):Ct A4 D1 [P0 c] [cmC c k F X] fun v own=>v=.tuple ⟨[]⟩∧own [cmC c k F (Gl6 X)]:=by
 refine Ct.of O2 rfl fun h r=>Tr.eq (D92 ..) ?_;refine Je ?_
 intro o
 obtain ⟨u,o1⟩:=Own.unfold (cmC c k F X) o
 have f:=(Own.front o1 (i:=2) rfl).pure
 have e:Gl6 X=lookN F.caps.length X:=by unfold Gl6;rw [f.mlen ok]
 rw [e]
 refine (?_:Tr _ _ _ _) o
 refine Yr (Hz4 c k F ok 8 0 X (by omega) (by omega)) ?_
 rintro _ h ⟨rfl,o⟩
 exact ⟨rfl,o⟩
end Go.EQ
