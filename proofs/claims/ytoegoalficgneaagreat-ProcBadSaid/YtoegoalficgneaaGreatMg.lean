/- A process whose own record is bad is told EIO whatever it asks, and nobody's record is changed by it. -/
import Derived.Test.YtoegoalficgneaaGreatMf
set_option linter.all false
set_option maxRecDepth 10000
namespace Go.EQ
open Go Go.NN
theorem N8 (l:List UInt8):(A0 l).length=l.length:=by simp [A0]
theorem Ej8 {l:List UInt8} {i:Nat} {x:UInt8} (h:l[i]?=some x):(A0 l)[i]?=some (.int .u8 x.toNat):=by
 unfold A0;rw [List.getElem?_map,h];rfl
def Em2 (n:Int) (l:List UInt8):Int:=l.foldl (fun n c=>IntKind.wrap .u8 (n+c.toNat)) n
def G19 (l:List UInt8):Int:=Em2 (IntKind.wrap .u8 l.length) l
theorem Ij3 (p:HP) (a:Option Addr) (ro:Bool) (n c d:Nat) (l:List UInt8) [ks:IsSl p a ro A1 1 n c (A0 l)] (x:Nat) (hx:x≤l.length) (hl:l.length≤A5):∀ (m i:Nat) (acc:Int),x-i=m→i≤x →
  U1 E2 Ac1 Bs3 [(3,.int .u8 acc),(9,.slice a x d),(10,int x),(11,int i)] [p] (.int .u8 (Em2 acc ((l.take x).drop i))):=by
 intro m
 induction m with
 | zero =>
  intro i acc hm hi
  refine U1.of Ea5 fun h r=>Tr.eq (Ei3 ..) ?_;refine Je ?_
  refine Yf (by simp;omega) ?_
  refine Ys fun o=>?_
  rw [List.drop_eq_nil_of_le (by simp;omega)];exact ⟨rfl,rfl⟩
 | succ m ih =>
  intro i acc hm hi
  have hlt:i<(l.take x).length:=by rw [List.length_take];omega
  have hp:l[i]?=some (l.take x)[i]:=by
   rw [List.getElem_take];exact List.getElem?_eq_getElem (by omega)
  have hd:(l.take x).drop i=(l.take x)[i]::(l.take x).drop (i+1):=List.drop_eq_getElem_cons hlt
  generalize (l.take x)[i]=y at hp hd
  have e1:IntKind.wrap .i64 ((i:Int)+1)=((i+1:Nat):Int):=by rw [A8];simp only [A5] at hl;omega
  refine U1.of Ea5 fun h r=>Tr.eq (Ei3 ..) ?_;refine Je ?_
  refine Yt (by simp;omega) ?_
  refine Aa8 0 rfl fun h1 h2 h3=>?_
  rw [N8] at h1
  (refine Ja ?_;intros;repeat(refine Gw ?_;rintro px rfl;refine Ja ?_;intros))
  refine Tr.xIntS (v:=y.toNat) (by simpa using Ej8 hp) ?_
  rw [e1,hd]
  exact Aa3 (ih (i+1) _ (by omega) (by omega)) (r:=r) (by simp) fun o=>⟨rfl,rfl⟩
theorem Gv3 (p:HP) (a:Option Addr) (ro:Bool) (n c d:Nat) (l:List UInt8) [ks:IsSl p a ro A1 1 n c (A0 l)] (x:Nat) (hx:x≤l.length) (hl:l.length≤A5) :
  CtP A3 Ac1 [.slice a x d] [p] (.int .u8 (G19 (l.take x))):=by
 refine CtP.of Ea5 rfl fun h r=>Tr.eq (Hx5 ..) ?_;refine Je ?_
 have e:(l.take x).length=x:=by rw [List.length_take];omega
 have J:=Ij3 p a ro n c d l x hx hl _ 0 (IntKind.wrap .u8 x) rfl (by omega)
 rw [List.drop_zero] at J
 refine Aa3 J (r:=r) (by simp) fun o=>⟨?_,rfl⟩
 unfold G19;rw [e]
def D82:Nat→List UInt8→Int
 | _,[]=>-1
 | i,x::l=>if x≠0 then i else D82 (i+1) l
theorem Hb5:∀ (l:List UInt8) (i:Nat),decide (D82 i l≥0)=!l.all (·==0)
 | [],i=>by simp [D82]
 | x::l,i=>by
  unfold D82
  by_cases h:x=0
  ·rw [if_neg (by simp [h]),Hb5 l (i+1)];simp [h]
  ·rw [if_pos h];simp [h]
theorem Jd6 (x:UInt8):CtP A3 Ah0 [.int .u8 x.toNat] [] (.bool (x != 0)):=by
 refine CtP.of Gw3 rfl fun h r=>Tr.eq (Gv8 ..) ?_;refine Je ?_
 refine Ys fun o=>?_
 refine ⟨?_,rfl⟩
 congr 1
 have:((x.toNat:Int)=0)↔x=0:=by
  constructor
  ·intro h;exact UInt8.toNat.inj (by simpa using (show x.toNat=0 by omega))
  ·rintro rfl;rfl
 by_cases h:x=0
 ·subst h;rfl
 ·rw [bne_iff_ne.2 h,bne_iff_ne];intro h2;exact h (this.1 h2)
theorem Gn4 (p:HP) (a:Option Addr) (ro:Bool) (c:Nat) (l:List UInt8) [ks:IsSl p a ro A1 1 l.length c (A0 l)] (hl:l.length≤A5):∀ (m i:Nat),l.length-i=m→i≤l.length →
  U1 E2 G3 S4 [(0,.slice a l.length c),(1,.func (.func Ah0) ⟨[]⟩ ⟨[]⟩),(7,int l.length),(8,int i)] [p] (int (D82 i (l.drop i))):=by
 intro m
 induction m with
 | zero =>
  intro i hm hi
  refine U1.of Af9 fun h r=>Tr.eq (Av8 ..) ?_;refine Je ?_
  refine Yf (by simp;omega) ?_
  refine Ys fun o=>?_
  rw [List.drop_eq_nil_of_le (by omega)];exact ⟨rfl,rfl⟩
 | succ m ih =>
  intro i hm hi
  have hlt:i<l.length:=by omega
  have hp:l[i]?=some l[i]:=List.getElem?_eq_getElem hlt
  have hd:l.drop i=l[i]::l.drop (i+1):=List.drop_eq_getElem_cons hlt
  generalize l[i]=x at hp hd
  have e1:IntKind.wrap .i64 ((i:Int)+1)=((i+1:Nat):Int):=by rw [A8];simp only [A5] at hl;omega
  refine U1.of Af9 fun h r=>Tr.eq (Av8 ..) ?_;refine Je ?_
  refine Yt (by simp;omega) ?_
  (refine Ja ?_;intros;repeat(refine Gw ?_;rintro px rfl;refine Ja ?_;intros))
  refine Tr.xIntS (v:=x.toNat) (by simpa using Ej8 hp) ?_
  (refine Ja ?_;intros)
  refine B40 (Jd6 x) (r:=p::r) (by simp) ?_
  by_cases hx:x=0
  ·have:(x != 0)=false:=by simp [hx]
   rw [this]
   (refine Ja ?_;intros)
   rw [e1]
   refine Aa3 (ih (i+1) (by omega) (by omega)) (r:=r) (by simp) fun o=>?_
   rw [hd,D82,if_neg (by simp [hx])];exact ⟨by first|rfl|trivial,by first|rfl|trivial⟩
  ·have:(x != 0)=true:=by simp [hx]
   rw [this]
   (refine Ja ?_;intros)
   refine Ys fun o=>?_
   rw [hd,D82,if_pos hx];exact ⟨by first|rfl|trivial,by first|rfl|trivial⟩
theorem Is2 (p:HP) (a:Option Addr) (ro:Bool) (c:Nat) (l:List UInt8) [ks:IsSl p a ro A1 1 l.length c (A0 l)] (hl:l.length≤A5) :
  CtP A3 Aq6 [.slice a l.length c] [p] (.bool (l.all (·==0))):=by
 have j:CtP A3 G3 [.slice a l.length c,.func (.func Ah0) ⟨[]⟩ ⟨[]⟩] [p] (int (D82 0 l)):=by
  refine CtP.of Af9 rfl fun h r=>Tr.eq (B52 ..) ?_;refine Je ?_
  exact Aa3 (Gn4 p a ro c l hl _ 0 rfl (by omega)) (r:=r) (by simp) fun o=>⟨rfl,rfl⟩
 have j2:CtP A3 R0 [.slice a l.length c,.func (.func Ah0) ⟨[]⟩ ⟨[]⟩] [p] (.bool (!l.all (·==0))):=by
  refine CtP.of Bw0 rfl fun h r=>Tr.eq (Bx7 ..) ?_;refine Je ?_
  refine B40 j (r:=r) (by simp) ?_
  (refine Ja ?_;intros)
  refine Ys fun o=>?_
  rw [Hb5];exact ⟨by first|rfl|trivial,by first|rfl|trivial⟩
 refine CtP.of He1 rfl fun h r=>Tr.eq (Hb9 ..) ?_;refine Je ?_
 refine B40 j2 (r:=r) (by simp) ?_
 (refine Ja ?_;intros)
 refine Ys fun o=>?_
 exact ⟨by simp,rfl⟩
theorem Hp2 (p q:HP) (a:Option Addr) (ro:Bool) (c:Nat) (a2:Option Addr) (ro2:Bool) (c2:Nat) (l m:List UInt8) [ks:IsSl p a ro A1 1 l.length c (A0 l)] [ks2:IsSl q a2 ro2 A1 1 m.length c2 (A0 m)] (hl:l.length≤A5) (hlm:m.length=l.length):∀ (k i:Nat),l.length-i=k→i≤l.length →
  U1 E2 B9 W3 [(0,.slice a l.length c),(1,.slice a2 m.length c2),(12,int l.length),(13,int i)] [p,q] (.bool (decide (l.drop i=m.drop i))):=by
 intro k
 induction k with
 | zero =>
  intro i hm hi
  refine U1.of Aq4 fun h r=>Tr.eq (A62 ..) ?_;refine Je ?_
  refine Yf (by simp;omega) ?_
  refine Ys fun o=>?_
  rw [List.drop_eq_nil_of_le (by omega),List.drop_eq_nil_of_le (by omega)];exact ⟨rfl,rfl⟩
 | succ k ih =>
  intro i hm hi
  have hlt:i<l.length:=by omega
  have hp:l[i]?=some l[i]:=List.getElem?_eq_getElem hlt
  have hd:l.drop i=l[i]::l.drop (i+1):=List.drop_eq_getElem_cons hlt
  have hlt2:i<m.length:=by omega
  have hp2:m[i]?=some m[i]:=List.getElem?_eq_getElem hlt2
  have hd2:m.drop i=m[i]::m.drop (i+1):=List.drop_eq_getElem_cons hlt2
  generalize l[i]=x at hp hd
  generalize m[i]=y at hp2 hd2
  have e1:IntKind.wrap .i64 ((i:Int)+1)=((i+1:Nat):Int):=by rw [A8];simp only [A5] at hl;omega
  refine U1.of Aq4 fun h r=>Tr.eq (A62 ..) ?_;refine Je ?_
  refine Yt (by simp;omega) ?_
  (refine Ja ?_;intros;repeat(refine Gw ?_;rintro px rfl;refine Ja ?_;intros))
  refine Tr.xIntS (v:=x.toNat) (by simpa using Ej8 hp) ?_
  (refine Ja ?_;intros;repeat(refine Gw ?_;rintro px rfl;refine Ja ?_;intros))
  refine Tr.xIntS (v:=y.toNat) (by simpa using Ej8 hp2) ?_
  by_cases hx:x=y
  ·subst hx
   refine Yf (by simp) ?_
   rw [e1]
   refine Aa3 (ih (i+1) (by omega) (by omega)) (r:=r) (by simp) fun o=>?_
   rw [hd,hd2];exact ⟨by simp,rfl⟩
  ·refine Yt (by rw [bne_iff_ne];intro h2;exact hx (UInt8.toNat.inj (by omega))) ?_
   refine Ys fun o=>?_
   rw [hd,hd2];exact ⟨by simp [hx],rfl⟩
theorem E97 (p q:HP) (a:Option Addr) (ro:Bool) (c:Nat) (a2:Option Addr) (ro2:Bool) (c2:Nat) (l m:List UInt8) [ks:IsSl p a ro A1 1 l.length c (A0 l)] [ks2:IsSl q a2 ro2 A1 1 m.length c2 (A0 m)] (hl:l.length≤A5) :
  CtP A3 B9 [.slice a l.length c,.slice a2 m.length c2] [p,q] (.bool (decide (l=m))):=by
 refine CtP.of Aq4 rfl fun h r=>Tr.eq (Do3 ..) ?_;refine Je ?_
 by_cases h:m.length=l.length
 ·refine Yf (by simp [h]) ?_
  have J:=Hp2 p q a ro c a2 ro2 c2 l m hl h _ 0 rfl (by omega)
  simp only [List.drop_zero] at J
  exact Aa3 J (r:=r) (by simp) fun o=>⟨rfl,rfl⟩
 ·refine Yt (by rw [bne_iff_ne];omega) ?_
  refine Ys fun o=>?_
  exact ⟨by rw [decide_eq_false (fun e=>h (by rw [e]))],rfl⟩
theorem Io7 (p:HP) (ro:Bool) (a:Option Addr) (c:Nat) (l:List UInt8) [ks:IsSl p a ro A1 1 l.length c (A0 l)] (hn:l.length≤A5) :
  Ct A3 H1 [.slice a l.length c] [p] fun v own=>∃ a' c',v=.slice a' l.length c'∧own [slC false A1 1 a' l.length c' (A0 l),p]:=by
 refine Ct.of Bi1 rfl fun h r=>Tr.eq (Bi8 ..) ?_;refine Je ?_
 refine Aa8 0 rfl fun hl hc _=>?_
 refine Tr.cond (fun hb=>?_) fun hb=>?_
 ·obtain rfl:a=none:=by simpa using hb
  refine H6 false A1 1 (by omega) ?_
  intro o
  have o1:=(o.tail.head ks.en).slNone
  obtain rfl:l=[]:=by
   have:=o1.2.2.1
   cases l with
   | nil=>rfl
   | cons x l=>simp [A0] at this
  obtain rfl:c=0:=o1.2.1
  exact ⟨_,_,rfl,none,0,rfl,o⟩
 ·(refine Ja ?_;intros)
  refine Ai6 0 rfl 1 0 rfl (by omega) ?_;refine Je ?_
  (refine Ja ?_;intros)
  refine Tr.xApd ⟨by simp [A0],by simp [A0,Value.oneCell],by omega⟩ fun a' c' h'=>?_
  refine Je ?_
  refine Ys fun o=>⟨a',c',by simp,by simpa using o⟩
end Go.EQ
namespace Go.NN
section
variable {l:List HP} {h:H} {α:Type} {Q:α→H→Prop} {ro:Bool} {e:TypeId} {cs:List Value}
instance {f:Fn} {a c:Array Value} {k:Option α}:Dx (one (.func f a c) k) k:=⟨rfl⟩
theorem Dl9 {x:Option (α × H)} {p:HP} (i:Nat) {a:Option Addr} {sz n c:Nat} (hi:l[i]?=some p) [k:IsSl p a ro e sz n c cs] (hn:0<n) (t:∀ y,a=some y→Tr l h x Q):Tr l h x Q:=fun ow=>by
 obtain ⟨y,hy⟩:=((ow.front hi).head k.en).slSome hn
 exact t y hy ow
theorem Tr.xPCells {a:Option Addr} {n c sz:Nat} {vs cs':List Value} {l':List HP} {k:H→Option (α × H)} [k1:LkO l a false e sz n c cs] (hn:0<n) (hj:vs≠[]∧vs.length≤cs.length∧vs.all Value.oneCell=true∧vs++cs.drop vs.length=cs') [k2:UpO l a (slC false e sz a n c cs') e sz n c cs l'] (t:∀ h',Tr l' h' (k h') Q):Tr l h (NN.pCells a vs h k) Q:=fun ow=>by
 obtain ⟨i,p,hi,hp⟩:=k1.ix
 obtain ⟨y,rfl⟩:=((ow.front hi).head hp).slSome hn
 have:NN.pCells (Option.some y) vs h k=NN.pAgg ((B0 y).add 0) vs h k:=by
  show NN.pAgg (B0 y) vs h k=_
  congr 1
 rw [this]
 exact Tr.xPAggS (k1:=k1) ⟨hj.1,by omega,hj.2.2.1,by simpa using hj.2.2.2⟩ (k2:=k2) t ow
end
end Go.NN

set_option maxRecDepth 10000
namespace Go.EQ
open Go Go.NN
def b8 (x:Int):UInt8:=UInt8.ofNat (x%256).toNat
theorem B73 (x:Int):IntKind.wrap .u8 x=x%256:=Ix4 x
theorem A13 (x:Int):IntKind.wrap .u8 x=((b8 x).toNat:Int):=by
 rw [B73,b8,UInt8.toNat_ofNat']
 omega
def Bd1 (l:List UInt8):UInt8:=b8 (G19 l)
theorem Hk0:∀ (l:List UInt8) (n:Int),0≤n∧n<256→0≤Em2 n l∧Em2 n l<256
 | [],n,h=>h
 | x::l,n,h=>Hk0 l _ (by show 0≤IntKind.wrap .u8 (n+x.toNat)∧IntKind.wrap .u8 (n+x.toNat)<256;rw [B73];omega)
theorem D18 (l:List UInt8):G19 l=((Bd1 l).toNat:Int):=by
 have:=Hk0 l (IntKind.wrap .u8 l.length) (by rw [B73];omega)
 unfold Bd1
 rw [← A13,B73]
 unfold G19 at *;omega
structure FileS where
 kind:Int
 pipe:Int
 refs:Int
 flags:Int
abbrev FileS.zero:FileS:=⟨0,0,0,0⟩
abbrev A69 (f:FileS):List Value:=[int f.kind,int f.pipe,int f.refs,int f.flags]
def okF (f:FileS):Bool:=decide (f.kind≥1) && decide (f.kind≤3) && decide (f.pipe≥0) && decide (f.pipe≤7) && (f.kind != 3 || f.pipe==0) && decide (f.refs≥1) && decide (f.refs≤64) && (f.flags==0 || f.flags==1)
def Bc5 (f:FileS):List UInt8:=[b8 f.kind,b8 f.pipe,b8 f.refs,b8 f.flags,179]
def Ag6 (f:FileS):List UInt8:=Bc5 f++[Bd1 (Bc5 f),0,0]
theorem Ja5 (f:FileS):Ct A3 Ds6 [.agg ⟨A69 f⟩] [] fun v own=>v=.bool (okF f)∧own []:=by
 refine Ct.of Ic0 rfl fun h r=>Tr.eq (Ic6 ..) ?_;refine Je ?_
 (refine Ja ?_;intros)
 refine Ys fun o=>?_
 refine ⟨?_,o.sub⟩
 rfl
theorem I18 (a:Option Addr) (c:Nat) (f:FileS):Ct A3 Au9 [.agg ⟨A69 f⟩,.slice a 8 c] [slC false A1 1 a 8 c (A0 (List.replicate 8 0))] fun v own=>v=.bool (okF f)∧own [slC false A1 1 a 8 c (A0 (if okF f then Ag6 f else List.replicate 8 0))]:=by
 refine Ct.of Hu7 rfl fun h r=>Tr.eq (Hu9 ..) ?_;refine Je ?_
 (refine Ja ?_;intros)
 refine Yc (Ja5 f) ?_;rintro _ h ⟨rfl,o⟩<;>(refine Jf o ?_;intros)
 cases hk:okF f with
 | false =>
  (refine Ja ?_;intros)
  refine Ys fun o=>?_
  rw [if_neg (by simp)]
  exact ⟨rfl,o.sub⟩
 | true =>
  (refine Ja ?_;intros)
  simp only [A13,List.drop_zero,List.take]
  refine Aa8 2 rfl fun hl hc _=>?_
  refine Tr.xPCells (cs':=A0 (Bc5 f++[0,0,0])) (by omega) ⟨by simp,by simp [A0],by simp [Value.oneCell],rfl⟩ fun h=>?_
  (refine Ja ?_;intros)
  refine Tr.pcall (Gv3 (slC false A1 1 a 8 c (A0 (Bc5 f++[0,0,0]))) a false 8 c c (Bc5 f++[0,0,0]) 5 (by simp [Bc5]) (by simp [Bc5,A5])) ?_
  refine Je ?_
  (refine Ja ?_;intros;repeat(refine Gw ?_;rintro px rfl;refine Ja ?_;intros))
  rw [show List.take 5 (Bc5 f++[0,0,0]:List UInt8)=Bc5 f from rfl,D18]
  refine Tr.xVS (cs':=A0 (Ag6 f)) ⟨by simp [A0,Bc5],rfl,rfl⟩ fun h=>?_
  refine Ys fun o=>?_
  simp only [if_true]
  exact ⟨trivial,o.sub⟩
theorem D75 {l:List Value} (h:l.all (fun v=>match v with|.int _ _=>true|_=>false)=true):As6 (.agg ⟨l⟩) (.agg ⟨l⟩)=true:=by
 show B00 l l=true
 induction l with
 | nil=>rfl
 | cons v l ih =>
  simp only [List.all_cons,Bool.and_eq_true] at h
  show (A81 v v && B00 l l)=true
  rw [ih h.2,Bool.and_true]
  cases v<;>first|(simp [A81];done)|exact absurd h.1 (by simp)
abbrev Ho4 (k:Nat):HP:=pt k (.cells An4 false [int 8,.func (.func Au9) ⟨[]⟩ ⟨[]⟩,.func (.func Av9) ⟨[]⟩ ⟨[]⟩])
theorem Hw8 (k:Nat) (f:FileS):Ct A3 W5 [P0 k,.agg ⟨A69 f⟩] [Ho4 k] fun v own=>(okF f=true∧∃ a,v=.tuple ⟨[.slice a 8 8,.bool true]⟩∧own [Ho4 k,slC false A1 1 a 8 8 (A0 (Ag6 f))])∨(okF f=false∧v=.tuple ⟨[.slice none 0 0,.bool false]⟩∧own [Ho4 k]):=by
 refine Ct.of Dc6 rfl fun h r=>Tr.eq (Dc5 ..) ?_;refine Je ?_
 (refine Ja ?_;intros)
 refine Tr.ck ⟨by omega,by omega,by simp [A5]⟩ ?_
 refine Yn fun b1 h=>?_
 rw [show I0 (Int.toNat 8) [.int .u8 0]=A0 (List.replicate 8 0) from rfl]
 refine Ai6 0 rfl 1 8 rfl (by omega) ?_
 simp only [List.set_cons_zero]
 refine Je ?_
 (refine Jb ?_;intros)
 refine Yb (Yf rfl ?_)
 (refine Jb ?_;intros)
 refine Yc (I18 (some ⟨b1,0,none⟩) 8 f) ?_;rintro _ h ⟨rfl,o⟩<;>(refine Jg o ?_;intros)
 refine Ys fun o=>(?_:Tr _ _ _ _) o;refine Je ?_
 cases hk:okF f with
 | false =>
  (refine Ja ?_;intros)
  refine Ys fun o=>?_
  exact .inr ⟨rfl,rfl,o.sub⟩
 | true =>
  (refine Ja ?_;intros)
  refine Ys fun o=>?_
  simp only [if_true] at o
  exact .inl ⟨rfl,_,rfl,o.sub⟩
theorem I60:Ct A3 At6 [int 8,.func (.func Au9) ⟨[]⟩ ⟨[]⟩,.func (.func Av9) ⟨[]⟩ ⟨[]⟩] [] fun v own=>∃ k,v=P0 k∧own [pt k (.cells An4 false [int 8,.func (.func Au9) ⟨[]⟩ ⟨[]⟩,.func (.func Av9) ⟨[]⟩ ⟨[]⟩])]:=by
 refine Ct.of Ep0 rfl fun h r=>Tr.eq (Et2 ..) ?_;refine Je ?_
 rw [show mm2 false (mm2 true 8 0) 64=8 from rfl]
 (refine Ja ?_;intros)
 refine Ys fun o=>?_
 exact ⟨_,rfl,o.sub⟩
theorem G85:Ct A3 Bh6 [] [] fun v own=>∃ k,v=P0 k∧own [pt k (.cells An4 false [int 8,.func (.func Au9) ⟨[]⟩ ⟨[]⟩,.func (.func Av9) ⟨[]⟩ ⟨[]⟩])]:=by
 refine Ct.of Hb8 rfl fun h r=>Tr.eq (He7 ..) ?_;refine Je ?_
 refine Yc (I60) ?_;rintro _ h ⟨k,rfl,o⟩<;>(refine Jf o ?_;intros)
 refine Ys fun o=>?_
 exact ⟨_,rfl,o.sub⟩
theorem Gz3 (f:FileS):Ct A3 Bb3 [.agg ⟨A69 f⟩] [] fun v own=>(okF f=true∧∃ a,v=.tuple ⟨[.slice a 8 8,.bool true]⟩∧own [slC false A1 1 a 8 8 (A0 (Ag6 f))])∨(okF f=false∧v=.tuple ⟨[.slice none 0 0,.bool false]⟩∧own []):=by
 refine Ct.of G41 rfl fun h r=>Tr.eq (G60 ..) ?_;refine Je ?_
 (refine Ja ?_;intros)
 refine Yc (G85) ?_;rintro _ h ⟨k,rfl,o⟩<;>(refine Jf o ?_;intros)
 refine Tr.same (D75 rfl) ?_
 refine Yc (Hw8 k f) ?_
 rintro v h (⟨hk,a,rfl,o⟩|⟨hk,rfl,o⟩)
 ·refine (?_:Tr _ _ _ _) o
  refine Je ?_
  (refine Ja ?_;intros)
  refine Ys fun o=>?_
  exact .inl ⟨hk,a,rfl,o.sub⟩
 ·refine (?_:Tr _ _ _ _) o
  refine Je ?_
  (refine Ja ?_;intros)
  refine Ys fun o=>?_
  exact .inr ⟨hk,rfl,o.sub⟩
theorem Ac7 {l:List UInt8} {i:Nat} (h:i<l.length):(A0 l)[i]?=some (.int .u8 ((l.getD i 0).toNat:Int)):=by
 rw [List.getD_eq_getElem?_getD,List.getElem?_eq_getElem h];exact Ej8 (List.getElem?_eq_getElem h)
theorem Ab6 (x:UInt8):IntKind.wrap .i64 (x.toNat:Int)=(x.toNat:Int):=by
 have:=x.toNat_lt;rw [A8];omega
abbrev byI (l:List UInt8) (i:Nat):Int:=((l.getD i 0).toNat:Int)
def Bj5 (l:List UInt8):FileS:=⟨byI l 0,byI l 1,byI l 2,byI l 3⟩
def isF (l:List UInt8):Bool:=okF (Bj5 l) && decide (Ag6 (Bj5 l)=l)
theorem I32 (a:Option Addr) (c:Nat) (l:List UInt8) (hl:l.length=8):Ct A3 Av9 [.slice a 8 c] [slC false A1 1 a 8 c (A0 l)] fun v own=>v=.tuple ⟨[.agg ⟨A69 (Bj5 l)⟩,.bool (isF l)]⟩∧own [slC false A1 1 a 8 c (A0 l)]:=by
 have key:∀ a1:Option Addr,CtP A3 B9 [.slice a1 8 8,.slice a 8 c] [slC false A1 1 a1 8 8 (A0 (Ag6 (Bj5 l))),slC false A1 1 a 8 c (A0 l)] (.bool (decide (Ag6 (Bj5 l)=l))):=fun a1=>by
  have J:=E97 (slC false A1 1 a1 8 8 (A0 (Ag6 (Bj5 l)))) (slC false A1 1 a l.length c (A0 l)) a1 false 8 a false c (Ag6 (Bj5 l)) l (by simp [Ag6,Bc5,A5])
  rwa [hl,show (Ag6 (Bj5 l)).length=8 from rfl] at J
 refine Ct.of Hx2 rfl fun h r=>Tr.eq (H02 ..) ?_;refine Je ?_
 refine Yn fun b1 h=>?_
 (refine Ja ?_;intros;repeat(refine Gw ?_;rintro px rfl;refine Ja ?_;intros))
 refine Tr.xIntS (v:=byI l 0) (Ac7 (by omega)) ?_
 (refine Ja ?_;intros)
 refine Tr.xIntS (v:=byI l 1) (Ac7 (by omega)) ?_
 (refine Ja ?_;intros)
 refine Tr.xIntS (v:=byI l 2) (Ac7 (by omega)) ?_
 (refine Ja ?_;intros)
 refine Tr.xIntS (v:=byI l 3) (Ac7 (by omega)) ?_
 simp only [byI,Ab6]
 refine Yn fun b2 h=>?_
 (refine Jb ?_;intros)
 refine Yc (Gz3 (Bj5 l)) ?_
 rintro v h (⟨hk,a1,rfl,o⟩|⟨hk,rfl,o⟩)
 ·refine (?_:Tr _ _ _ _) o
  refine Je ?_
  (refine Jb ?_;intros)
  refine Yb (Yt rfl ?_)
  refine Tr.pcall (key a1) ?_;refine Je ?_;(refine Jb ?_;intros)
  refine Tr.same (D75 rfl) ?_
  refine Ys fun o=>(?_:Tr _ _ _ _) o;refine Je ?_
  (refine Ja ?_;intros)
  refine Ys fun o=>?_
  exact ⟨by unfold isF;rw [hk,Bool.true_and];rfl,o.sub⟩
 ·refine (?_:Tr _ _ _ _) o
  refine Je ?_
  (refine Ja ?_;intros)
  refine Ys fun o=>?_
  exact ⟨by unfold isF;rw [hk];rfl,o.sub⟩
theorem Ep6 (n:Nat) (pb:HP) (ro:Bool) (a:Option Addr) (c:Nat) (l:List UInt8) (hl:l.length=n) (hn:n≤A5) [ks:IsSl pb a ro A1 1 n c (A0 l)]:Ct A3 H1 [.slice a n c] [pb] fun v own=>∃ a' c',v=.slice a' n c'∧own [slC false A1 1 a' n c' (A0 l),pb]:=by
 subst hl;exact Io7 pb ro a c l hn
theorem Em0 (n:Nat) (pb:HP) (ro:Bool) (a:Option Addr) (c:Nat) (l:List UInt8) (hl:l.length=n) (hn:n≤A5) [ks:IsSl pb a ro A1 1 n c (A0 l)]:CtP A3 Aq6 [.slice a n c] [pb] (.bool (l.all (·==0))):=by
 subst hl;exact Is2 pb a ro c l hn
theorem Hh0 (k:Nat) (pb:HP) (ro:Bool) (a:Option Addr) (c:Nat) (l:List UInt8) (hl:l.length=8) [ks:IsSl pb a ro A1 1 8 c (A0 l)]:Ct A3 W2 [P0 k,.slice a 8 c] [Ho4 k,pb] fun v own=>v=.tuple ⟨[.agg ⟨A69 (if isF l then Bj5 l else .zero)⟩,.bool (isF l)]⟩∧own [Ho4 k,pb]:=by
 refine Ct.of Dc8 rfl fun h r=>Tr.eq (Dc4 ..) ?_;refine Je ?_
 (refine Ja ?_;intros)
 refine Yf rfl ?_
 (refine Jb ?_;intros)
 refine Yc (Ep6 8 pb ro a c l hl (by simp [A5])) ?_;rintro _ h ⟨a1,c1,rfl,o⟩<;>(refine Jg o ?_;intros)
 refine Yc (I32 a1 c1 l hl) ?_;rintro _ h ⟨rfl,o⟩<;>(refine Jg o ?_;intros)
 cases hk:isF l with
 | false =>
  (refine Ja ?_;intros)
  refine Ys fun o=>?_
  exact ⟨rfl,o.sub⟩
 | true =>
  (refine Ja ?_;intros)
  refine Ys fun o=>?_
  exact ⟨rfl,o.sub⟩
def J7 (l:List UInt8):FileS × Int:=if l.all (·==0) then (.zero,0) else if isF l then (Bj5 l,1) else (.zero,2)
theorem Hw2 (pb:HP) (ro:Bool) (a:Option Addr) (c:Nat) (l:List UInt8) (hl:l.length=8) [ks:IsSl pb a ro A1 1 8 c (A0 l)]:Ct A3 Aw4 [.slice a 8 c] [pb] fun v own=>v=.tuple ⟨[.agg ⟨A69 (J7 l).1⟩,int (J7 l).2]⟩∧own [pb]:=by
 refine Ct.of G24 rfl fun h r=>Tr.eq (G16 ..) ?_;refine Je ?_
 refine Yn fun b1 h=>?_
 refine Yb (Yt rfl ?_)
 refine Tr.pcall (Em0 8 pb ro a c l hl (by simp [A5])) ?_;refine Je ?_;(refine Jb ?_;intros)
 refine Ys fun o=>(?_:Tr _ _ _ _) o;refine Je ?_
 cases hb:l.all (·==0) with
 | true =>
  (refine Ja ?_;intros)
  refine Ys fun o=>?_
  exact ⟨by unfold J7;rw [hb];rfl,o.sub⟩
 | false =>
  (refine Jb ?_;intros)
  refine Yc (G85) ?_;rintro _ h ⟨k,rfl,o⟩<;>(refine Jg o ?_;intros)
  refine Yc (Hh0 k pb ro a c l hl) ?_;rintro _ h ⟨rfl,o⟩<;>(refine Jg o ?_;intros)
  cases hk:isF l with
  | false =>
   (refine Ja ?_;intros)
   refine Ys fun o=>?_
   exact ⟨by unfold J7;rw [hb,hk];rfl,o.sub⟩
  | true =>
   (refine Ja ?_;intros)
   refine Ys fun o=>?_
   exact ⟨by unfold J7;rw [hb,hk];rfl,o.sub⟩
theorem Ic9 (a:Option Addr) (c:Nat) (l:List UInt8) (hl:l.length=8):Ct A3 Aw4 [.slice a 8 c] [slC false A1 1 a 8 c (A0 l)] fun v own=>v=.tuple ⟨[.agg ⟨A69 (J7 l).1⟩,int (J7 l).2]⟩∧own [slC false A1 1 a 8 c (A0 l)]:=Hw2 (slC false A1 1 a 8 c (A0 l)) false a c l hl
structure PipeS where
 head:Int
 count:Int
 readers:Int
 writers:Int
 data:List UInt8
 len:data.length=32
abbrev PipeS.zero:PipeS:=⟨0,0,0,0,List.replicate 32 0,rfl⟩
abbrev E9 (p:PipeS):List Value:=int p.head::int p.count::int p.readers::int p.writers::A0 p.data
theorem Ai7 {p:PipeS} (hd:p.data.length=32):(E9 p).length=36:=by simp [E9,N8,hd]
theorem Ib9 {p:PipeS} (hd:p.data.length=32):4+32≤(E9 p).length∧((E9 p).drop 4).take 32=A0 p.data:=⟨by rw [Ai7 hd];exact Nat.le_refl _,by
 rw [show (E9 p).drop 4=A0 p.data from rfl,List.take_of_length_le (by rw [N8,hd];exact Nat.le_refl _)]⟩
theorem G90 (p:PipeS):(E9 p).all Value.oneCell=true:=by simp [E9,Ad2,Value.oneCell]
theorem Ie7 (p:PipeS):As6 (.agg ⟨E9 p⟩) (.agg ⟨E9 p⟩)=true:=D75 (by simp [E9,A0])
instance {p:PipeS}:LenC (E9 p) 36:=⟨Ai7 p.len⟩
instance {p:PipeS}:PartC (E9 p) 0 36 (E9 p):=⟨B42 (Ai7 p.len)⟩
instance {p:PipeS} {cs:List Value} [k:LenC cs 36]:SetsC cs 0 (E9 p) (E9 p):=⟨A16 k.ok (Ai7 p.len) (G90 p)⟩
instance {p:PipeS}:SameC (.agg ⟨E9 p⟩):=⟨Ie7 p⟩
def okP (p:PipeS):Bool:=decide (0≤p.head∧p.head≤31) && decide (0≤p.count∧p.count≤32) && decide (0≤p.readers∧p.readers≤8) && decide (0≤p.writers∧p.writers≤8)
def Ak9 (p:PipeS):List UInt8:=[1,b8 p.head,b8 p.count,b8 p.readers,b8 p.writers,197]
def D3 (p:PipeS):List UInt8:=Ak9 p++Bd1 (Ak9 p)::0::p.data
theorem D10 {p:PipeS} (hd:p.data.length=32):(D3 p).length=40:=by simp [D3,Ak9,hd]
theorem Jb9 (n m:Int):CtP A3 Av4 [int n,int m] [] (.bool (decide (0≤n∧n≤m))):=by
 refine CtP.of Hu8 rfl fun h r=>Tr.eq (H04 ..) ?_;refine Je ?_
 (refine Ja ?_;intros)
 refine Ys fun o=>?_
 refine ⟨?_,rfl⟩
 refine congrArg Value.bool ?_;rw [Bool.eq_iff_iff];simp only [Bool.and_eq_true,Bool.or_eq_true,Bool.not_eq_true',Bool.not_eq_false',decide_eq_true_eq,decide_eq_false_iff_not,bne_iff_ne,beq_iff_eq,ne_eq,A8,Ab3,Ab4,ge_iff_le,gt_iff_lt];first|done|omega
instance {n m:Int} {l:List HP}:PCi A3 Av4 [.int .i64 n,.int .i64 m] l (.bool (decide (0≤n∧n≤m))):=PCi.of (Jb9 n m)
theorem I99 (p:PipeS):Ct A3 D66 [.agg ⟨E9 p⟩] [] fun v own=>v=.bool (okP p)∧own []:=by
 refine Ct.of Ih7 rfl fun h r=>Tr.eq (In0 ..) ?_;refine Je ?_
 (refine Ja ?_;intros)
 refine Ys fun o=>?_
 exact ⟨rfl,o.sub⟩
theorem I42 (a:Option Addr) (c:Nat) (p:PipeS):Ct A3 Bt2 [.agg ⟨E9 p⟩,.slice a 40 c] [slC false A1 1 a 40 c (A0 (List.replicate 40 0))] fun v own=>v=.bool (okP p)∧own [slC false A1 1 a 40 c (A0 (if okP p then D3 p else List.replicate 40 0))]:=by
 have hd:=p.len
 refine Ct.of Id8 rfl fun h r=>Tr.eq (H77 ..) ?_;refine Je ?_
 refine Yn fun b1 h=>?_
 (refine Ja ?_;intros)
 refine Yc (I99 p) ?_;rintro _ h ⟨rfl,o⟩<;>(refine Jg o ?_;intros)
 cases hk:okP p with
 | false =>
  (refine Ja ?_;intros)
  refine Ys fun o=>?_
  rw [if_neg (by simp)]
  exact ⟨rfl,o.sub⟩
 | true =>
  (refine Ja ?_;intros)
  simp only [A13,List.drop_zero,List.take]
  refine Aa8 2 rfl fun hl hc _=>?_
  refine Tr.xPCells (cs':=A0 (Ak9 p++List.replicate 34 0)) (by omega) ⟨by simp,by simp [A0],by simp [Value.oneCell],rfl⟩ fun h=>?_
  (refine Ja ?_;intros)
  refine Tr.pcall (Gv3 (slC false A1 1 a 40 c (A0 (Ak9 p++List.replicate 34 0))) a false 40 c c (Ak9 p++List.replicate 34 0) 6 (by simp [Ak9]) (by simp [Ak9,A5])) ?_
  refine Je ?_
  (refine Ja ?_;intros;repeat(refine Gw ?_;rintro px rfl;refine Ja ?_;intros))
  rw [show List.take 6 (Ak9 p++List.replicate 34 0:List UInt8)=Ak9 p from rfl,D18]
  refine Tr.xVS (cs':=A0 (Ak9 p++Bd1 (Ak9 p)::List.replicate 33 0)) ⟨by simp [A0,Ak9],rfl,rfl⟩ fun h=>?_
  (refine Ja ?_;intros)
  refine Tr.xCellsB (xs:=A0 p.data) (Ib9 p.len) ?_
  rw [Gd7 (by omega),D06]
  refine Tr.xPAggS (cs':=A0 (D3 p)) ⟨?_,?_,Ad2 _,?_⟩ fun h=>?_
  ·intro e;have:=congrArg List.length e;simp [A0,hd] at this
  ·simp [A0,hd,Ak9]
  ·rw [N8,hd]
   simp [A0,D3,Ak9]
  refine Ys fun o=>?_
  simp only [if_true]
  exact ⟨trivial,o.sub⟩
abbrev Go6 (k:Nat):HP:=pt k (.cells Bw6 false [int 40,.func (.func Bt2) ⟨[]⟩ ⟨[]⟩,.func (.func Bs7) ⟨[]⟩ ⟨[]⟩])
theorem Hv4 (k:Nat) (f:PipeS):Ct A3 W4 [P0 k,.agg ⟨E9 f⟩] [Go6 k] fun v own=>(okP f=true∧∃ a,v=.tuple ⟨[.slice a 40 40,.bool true]⟩∧own [Go6 k,slC false A1 1 a 40 40 (A0 (D3 f))])∨(okP f=false∧v=.tuple ⟨[.slice none 0 0,.bool false]⟩∧own [Go6 k]):=by
 refine Ct.of Dc2 rfl fun h r=>Tr.eq (Dc0 ..) ?_;refine Je ?_
 (refine Ja ?_;intros)
 refine Tr.ck ⟨by omega,by omega,by simp [A5]⟩ ?_
 refine Yn fun b1 h=>?_
 rw [show I0 (Int.toNat 40) [.int .u8 0]=A0 (List.replicate 40 0) from rfl]
 refine Ai6 0 rfl 1 40 rfl (by omega) ?_
 simp only [List.set_cons_zero]
 refine Je ?_
 (refine Jb ?_;intros)
 refine Yb (Yf rfl ?_)
 (refine Jb ?_;intros)
 refine Yc (I42 (some ⟨b1,0,none⟩) 40 f) ?_;rintro _ h ⟨rfl,o⟩<;>(refine Jg o ?_;intros)
 refine Ys fun o=>(?_:Tr _ _ _ _) o;refine Je ?_
 cases hk:okP f with
 | false =>
  (refine Ja ?_;intros)
  refine Ys fun o=>?_
  exact .inr ⟨rfl,rfl,o.sub⟩
 | true =>
  (refine Ja ?_;intros)
  refine Ys fun o=>?_
  simp only [if_true] at o
  exact .inl ⟨rfl,_,rfl,o.sub⟩
theorem I65:Ct A3 Au4 [int 40,.func (.func Bt2) ⟨[]⟩ ⟨[]⟩,.func (.func Bs7) ⟨[]⟩ ⟨[]⟩] [] fun v own=>∃ k,v=P0 k∧own [Go6 k]:=by
 refine Ct.of Et0 rfl fun h r=>Tr.eq (El5 ..) ?_;refine Je ?_
 rw [show mm2 false (mm2 true 40 0) 64=40 from rfl]
 (refine Ja ?_;intros)
 refine Ys fun o=>?_
 exact ⟨_,rfl,o.sub⟩
theorem G81:Ct A3 Bo6 [] [] fun v own=>∃ k,v=P0 k∧own [Go6 k]:=by
 refine Ct.of Hh1 rfl fun h r=>Tr.eq (Hg7 ..) ?_;refine Je ?_
 refine Yc (I65) ?_;rintro _ h ⟨k,rfl,o⟩<;>(refine Jf o ?_;intros)
 refine Ys fun o=>?_
 exact ⟨_,rfl,o.sub⟩
theorem Ig3 (f:PipeS):Ct A3 B01 [.agg ⟨E9 f⟩] [] fun v own=>(okP f=true∧∃ a,v=.tuple ⟨[.slice a 40 40,.bool true]⟩∧own [slC false A1 1 a 40 40 (A0 (D3 f))])∨(okP f=false∧v=.tuple ⟨[.slice none 0 0,.bool false]⟩∧own []):=by
 refine Ct.of Hc5 rfl fun h r=>Tr.eq (Hc8 ..) ?_;refine Je ?_
 refine Yn fun b1 h=>?_
 (refine Ja ?_;intros)
 refine Yc (G81) ?_;rintro _ h ⟨k,rfl,o⟩<;>(refine Jg o ?_;intros)
 (refine Ja ?_;intros)
 refine Yc (Hv4 k f) ?_
 rintro v h (⟨hk,a,rfl,o⟩|⟨hk,rfl,o⟩)
 ·refine (?_:Tr _ _ _ _) o
  refine Je ?_
  (refine Ja ?_;intros)
  refine Ys fun o=>?_
  exact .inl ⟨hk,a,rfl,o.sub⟩
 ·refine (?_:Tr _ _ _ _) o
  refine Je ?_
  (refine Ja ?_;intros)
  refine Ys fun o=>?_
  exact .inr ⟨hk,rfl,o.sub⟩
def Dr6 (l:List UInt8):List UInt8:=(l++List.replicate 32 0).take 32
theorem Il7 (l:List UInt8):(Dr6 l).length=32:=by simp [Dr6]
theorem D23 {l:List UInt8} (h:l.length=32):Dr6 l=l:=by simp [Dr6,← h]
def An7 (l:List UInt8):PipeS:=⟨byI l 1,byI l 2,byI l 3,byI l 4,Dr6 (l.drop 8),Il7 _⟩
def isP (l:List UInt8):Bool:=okP (An7 l) && decide (D3 (An7 l)=l)
theorem I59 (a:Option Addr) (c:Nat) (l:List UInt8) (hl:l.length=40):Ct A3 Bs7 [.slice a 40 c] [slC false A1 1 a 40 c (A0 l)] fun v own=>v=.tuple ⟨[.agg ⟨E9 (An7 l)⟩,.bool (isP l)]⟩∧own [slC false A1 1 a 40 c (A0 l)]:=by
 have hd:=(An7 l).len
 have hp:Dr6 (l.drop 8)=l.drop 8:=D23 (by simp [hl])
 have key:∀ a1:Option Addr,CtP A3 B9 [.slice a1 40 40,.slice a 40 c] [slC false A1 1 a1 40 40 (A0 (D3 (An7 l))),slC false A1 1 a 40 c (A0 l)] (.bool (decide (D3 (An7 l)=l))):=fun a1=>by
  have e:=D10 hd
  have J:=E97 (slC false A1 1 a1 (D3 (An7 l)).length 40 (A0 (D3 (An7 l)))) (slC false A1 1 a l.length c (A0 l)) a1 false 40 a false c (D3 (An7 l)) l (by rw [e];simp [A5])
  rwa [hl,e] at J
 refine Ct.of Id9 rfl fun h r=>Tr.eq (H89 ..) ?_;refine Je ?_
 refine Yn fun b1 h=>?_
 refine Aa8 1 rfl fun hl2 hc2 _=>?_
 (refine Ja ?_;intros;repeat(refine Gw ?_;rintro px rfl;refine Ja ?_;intros))
 refine Tr.xIntS (v:=byI l 1) (Ac7 (by omega)) ?_
 (refine Ja ?_;intros)
 refine Tr.xIntS (v:=byI l 2) (Ac7 (by omega)) ?_
 (refine Ja ?_;intros)
 refine Tr.xIntS (v:=byI l 3) (Ac7 (by omega)) ?_
 (refine Ja ?_;intros)
 refine Tr.xIntS (v:=byI l 4) (Ac7 (by omega)) ?_
 simp only [byI,Ab6]
 refine Yn fun b2 h=>?_
 (refine Jb ?_;intros)
 rw [Gd7 (show 8<c by omega),Hp8]
 refine Tr.xAggS (xs:=A0 (l.drop 8)) ⟨by omega,by simp [N8,hl],?_⟩ ?_
 ·rw [Br7,List.take_of_length_le (by simp [N8,hl])]
 rw [show pCells (some (⟨b2,4,none⟩:Addr))=pAgg ⟨b2,4,none⟩ from rfl]
 refine Tr.xPAgg (cs':=E9 (An7 l)) ⟨by simp [N8,hl],Ad2 _,by simp [E9,An7,byI,N8,hl,hp]⟩ fun h=>?_
 (refine Ja ?_;intros)
 refine Yc (Ig3 (An7 l)) ?_
 rintro v h (⟨hk,a1,rfl,o⟩|⟨hk,rfl,o⟩)
 ·refine (?_:Tr _ _ _ _) o
  refine Je ?_
  (refine Jb ?_;intros)
  refine Yb (Yt rfl ?_)
  refine Tr.pcall (key a1) ?_;refine Je ?_;(refine Jb ?_;intros)
  refine Ys fun o=>(?_:Tr _ _ _ _) o;refine Je ?_
  (refine Ja ?_;intros)
  refine Ys fun o=>?_
  exact ⟨by unfold isP;rw [hk,Bool.true_and],o.sub⟩
 ·refine (?_:Tr _ _ _ _) o
  refine Je ?_
  (refine Ja ?_;intros)
  refine Ys fun o=>?_
  exact ⟨by unfold isP;rw [hk];rfl,o.sub⟩
theorem Hj5 (k:Nat) (pb:HP) (ro:Bool) (a:Option Addr) (c:Nat) (l:List UInt8) (hl:l.length=40) [ks:IsSl pb a ro A1 1 40 c (A0 l)]:Ct A3 W6 [P0 k,.slice a 40 c] [Go6 k,pb] fun v own=>v=.tuple ⟨[.agg ⟨E9 (if isP l then An7 l else .zero)⟩,.bool (isP l)]⟩∧own [Go6 k,pb]:=by
 have hd:=(An7 l).len
 have hp:Dr6 (l.drop 8)=l.drop 8:=D23 (by simp [hl])
 refine Ct.of Dc3 rfl fun h r=>Tr.eq (Dc7 ..) ?_;refine Je ?_
 (refine Ja ?_;intros)
 refine Yf rfl ?_
 (refine Jb ?_;intros)
 refine Yc (Ep6 40 pb ro a c l hl (by simp [A5])) ?_;rintro _ h ⟨a1,c1,rfl,o⟩<;>(refine Jg o ?_;intros)
 refine Yc (I59 a1 c1 l hl) ?_;rintro _ h ⟨rfl,o⟩<;>(refine Jg o ?_;intros)
 cases hk:isP l with
 | false =>
  (refine Ja ?_;intros)
  refine Ys fun o=>?_
  exact ⟨rfl,o.sub⟩
 | true =>
  (refine Ja ?_;intros)
  refine Ys fun o=>?_
  exact ⟨rfl,o.sub⟩
def D7 (l:List UInt8):PipeS × Int:=if l.all (·==0) then (.zero,0) else if isP l then (An7 l,1) else (.zero,2)
theorem H23 (pb:HP) (ro:Bool) (a:Option Addr) (c:Nat) (l:List UInt8) (hl:l.length=40) [ks:IsSl pb a ro A1 1 40 c (A0 l)]:Ct A3 Aq5 [.slice a 40 c] [pb] fun v own=>v=.tuple ⟨[.agg ⟨E9 (D7 l).1⟩,int (D7 l).2]⟩∧own [pb]:=by
 have hd:=(An7 l).len
 have hp:Dr6 (l.drop 8)=l.drop 8:=D23 (by simp [hl])
 refine Ct.of Hc3 rfl fun h r=>Tr.eq (He3 ..) ?_;refine Je ?_
 refine Yn fun b1 h=>?_
 refine Yb (Yt rfl ?_)
 refine Tr.pcall (Em0 40 pb ro a c l hl (by simp [A5])) ?_;refine Je ?_;(refine Jb ?_;intros)
 refine Ys fun o=>(?_:Tr _ _ _ _) o;refine Je ?_
 cases hb:l.all (·==0) with
 | true =>
  (refine Ja ?_;intros)
  refine Ys fun o=>?_
  exact ⟨by unfold D7;rw [hb];rfl,o.sub⟩
 | false =>
  (refine Jb ?_;intros)
  refine Yc (G81) ?_;rintro _ h ⟨k,rfl,o⟩<;>(refine Jg o ?_;intros)
  refine Yc (Hj5 k pb ro a c l hl) ?_;rintro _ h ⟨rfl,o⟩<;>(refine Jg o ?_;intros)
  cases hk:isP l with
  | false =>
   (refine Ja ?_;intros)
   refine Ys fun o=>?_
   exact ⟨by unfold D7;rw [hb,hk];rfl,o.sub⟩
  | true =>
   (refine Ja ?_;intros)
   refine Ys fun o=>?_
   exact ⟨by unfold D7;rw [hb,hk];rfl,o.sub⟩
theorem H93 (a:Option Addr) (c:Nat) (l:List UInt8) (hl:l.length=40):Ct A3 Aq5 [.slice a 40 c] [slC false A1 1 a 40 c (A0 l)] fun v own=>v=.tuple ⟨[.agg ⟨E9 (D7 l).1⟩,int (D7 l).2]⟩∧own [slC false A1 1 a 40 c (A0 l)]:=H23 (slC false A1 1 a 40 c (A0 l)) false a c l hl
structure ProcS where
 state:Int
 parent:Int
 group:Int
 code:Int
 pending:Int
 mask:Int
 ignored:Int
 caught:Int
 fds:List Int
 len:fds.length=8
abbrev Gc9:List Int:=[0,0,0,0,0,0,0,0]
abbrev ProcS.zero:ProcS:=⟨0,0,0,0,0,0,0,0,Gc9,rfl⟩
abbrev B6 (p:ProcS):List Value:=int p.state::int p.parent::int p.group::int p.code::int p.pending::int p.mask::int p.ignored::int p.caught::p.fds.map int
theorem Av7 (p:ProcS):(B6 p).length=16:=by simp [B6,p.len]
theorem G89 (p:ProcS):(B6 p).all Value.oneCell=true:=by simp [B6,Value.oneCell]
instance {p:ProcS}:LenC (B6 p) 16:=⟨Av7 p⟩
instance {p:ProcS}:PartC (B6 p) 0 16 (B6 p):=⟨B42 (Av7 p)⟩
instance {p:ProcS}:PartC (B6 p) 8 8 (p.fds.map int):=⟨by
 have h:Nat.ble (8+8) (B6 p).length=true:=by rw [Av7];rfl
 have e:((B6 p).drop 8).take 8=p.fds.map int:=by rw [show (B6 p).drop 8=p.fds.map int from rfl,List.take_of_length_le (by simp [p.len])]
 rw [Di5,h,e];rfl⟩
instance {p:ProcS} {cs:List Value} [k:LenC cs 16]:SetsC cs 0 (B6 p) (B6 p):=⟨A16 k.ok (Av7 p) (G89 p)⟩
instance {p:ProcS}:SameC (.agg ⟨B6 p⟩):=⟨D75 (by simp [B6])⟩
def Ap8 (n w:Int):Bool:=Q4 .i64 n 65534==0 && B4 .i64 n w==0
def okS (p:ProcS):Bool :=
 !(decide (p.state<1) || decide (p.state>3) || decide (p.parent<0) || decide (p.parent>8) || decide (p.group<0) || decide (p.group≥8) || decide (p.code<0) || decide (p.code>255)) &&
 (!(!Ap8 p.pending 0 || !Ap8 p.mask 16896 || !Ap8 p.ignored 16896 || !Ap8 p.caught 16896 || B4 .i64 p.ignored p.caught != 0) &&
 (!(p.fds.any fun f=>decide (f<0) || decide (f>12)) &&
 (if p.state=2 then p.pending==0 && decide (p.fds=Gc9) else p.code==0)))
def hi2 (n:Int):UInt8:=if 0≤n∧n≤65535 then b8 (n / 256) else 0
def lo2 (n:Int):UInt8:=if 0≤n∧n≤65535 then b8 n else 0
abbrev put2 (n:Int):List UInt8:=[hi2 n,lo2 n]
def Au5 (p:ProcS):List UInt8:=[b8 p.state,b8 p.parent,b8 p.group,b8 p.code]++(put2 p.pending++(put2 p.mask++(put2 p.ignored++(put2 p.caught++(p.fds.map b8++[167])))))
theorem Iv7 (n:Int):(put2 n).length=2:=rfl
theorem Dm4 (p:ProcS):(Au5 p).length=21:=by simp [Au5,Iv7,p.len]
def M6 (p:ProcS):List UInt8:=Au5 p++[Bd1 (Au5 p),0,0]
theorem Bg1 (p:ProcS):(M6 p).length=24:=by simp [M6,Dm4]
theorem I67 (n w:Int):CtP A3 Ao7 [int n,int w] [] (.bool (Ap8 n w)):=by
 refine CtP.of Hj6 rfl fun h r=>Tr.eq (Hn8 ..) ?_;refine Je ?_
 exact Jz
instance {n w:Int} {l:List HP}:PCi A3 Ao7 [.int .i64 n,.int .i64 w] l (.bool (Ap8 n w)):=PCi.of (I67 n w)
theorem I52 (f:Int):CtP A3 Bo5 [int f] [] (.bool (decide (f<0) || decide (f>12))):=by
 refine CtP.of Hr8 rfl fun h r=>Tr.eq (Hn1 ..) ?_;refine Je ?_
 exact Jz
theorem Gn1 (p:HP) (a:Option Addr) (ro:Bool) (c:Nat) (l:List Int) (g:FuncId) (f:Int→Bool) {e:TypeId} [ks:IsSl p a ro e 1 l.length c (l.map int)] (hl:l.length≤A5) (hf:∀ x,CtP A3 g [int x] [] (.bool (f x))):∀ (m i:Nat),l.length-i=m→i≤l.length →
  U1 E2 D9 N9 [(0,.slice a l.length c),(1,.func (.func g) ⟨[]⟩ ⟨[]⟩),(7,int l.length),(8,int i)] [p] (int (Bz9 f i (l.drop i))):=by
 intro m
 induction m with
 | zero =>
  intro i hm hi
  refine U1.of L9 fun h r=>Tr.eq (U6 ..) ?_;refine Je ?_
  refine Yf (by simp;omega) ?_
  refine Ys fun o=>?_
  rw [List.drop_eq_nil_of_le (by omega)];exact ⟨rfl,rfl⟩
 | succ m ih =>
  intro i hm hi
  have hlt:i<l.length:=by omega
  have hp:l[i]?=some l[i]:=List.getElem?_eq_getElem hlt
  have hd:l.drop i=l[i]::l.drop (i+1):=List.drop_eq_getElem_cons hlt
  generalize l[i]=x at hp hd
  have e1:IntKind.wrap .i64 ((i:Int)+1)=((i+1:Nat):Int):=by rw [A8];simp only [A5] at hl;omega
  refine U1.of L9 fun h r=>Tr.eq (U6 ..) ?_;refine Je ?_
  refine Yt (by simp;omega) ?_
  (refine Ja ?_;unhygienic intros;repeat(refine Gw ?_;rintro px rfl;refine Ja ?_;unhygienic intros))
  refine Tr.xIntS (v:=x) (by simp [hp]) ?_
  (refine Ja ?_;unhygienic intros)
  refine Tr.pcall (hf x) ?_
  cases hx:f x with
  | true =>
   (refine Ja ?_;unhygienic intros)
   refine Ys fun o=>?_
   rw [hd,Bz9,if_pos hx];exact ⟨by first|rfl|trivial,by first|rfl|trivial⟩
  | false =>
   (refine Ja ?_;unhygienic intros)
   rw [e1]
   refine Aa3 (ih (i+1) (by omega) (by omega)) (r:=r) (by simp) fun o=>?_
   rw [hd,Bz9,if_neg (by simp [hx])];exact ⟨by first|rfl|trivial,by first|rfl|trivial⟩
theorem Gk7 (p:HP) (a:Option Addr) (ro:Bool) (c:Nat) (l:List Int) (g:FuncId) (f:Int→Bool) {e:TypeId} [ks:IsSl p a ro e 1 l.length c (l.map int)] (hl:l.length≤A5) (hf:∀ x,CtP A3 g [int x] [] (.bool (f x))) :
  CtP A3 E7 [.slice a l.length c,.func (.func g) ⟨[]⟩ ⟨[]⟩] [p] (.bool (l.any f)):=by
 have j:CtP A3 D9 [.slice a l.length c,.func (.func g) ⟨[]⟩ ⟨[]⟩] [p] (int (Bz9 f 0 l)):=by
  refine CtP.of L9 rfl fun h r=>Tr.eq (A87 ..) ?_;refine Je ?_
  exact Aa3 (Gn1 p a ro c l g f hl hf _ 0 rfl (by omega)) (r:=r) (by simp) fun o=>⟨rfl,rfl⟩
 refine CtP.of Az5 rfl fun h r=>Tr.eq (Az4 ..) ?_;refine Je ?_
 refine B40 j (r:=r) (by simp) ?_
 (refine Ja ?_;unhygienic intros)
 refine Ys fun o=>?_
 rw [E51];exact ⟨by first|rfl|trivial,by first|rfl|trivial⟩
theorem Ho2:∀ (l m:List Int),l.length=m.length→eqs (l.map int) (m.map int)=some (decide (l=m))
 | [],[],_=>rfl
 | [],_::_,h=>by simp at h
 | _::_,[],h=>by simp at h
 | a::l,b::m,h=>by
  have ih:=Ho2 l m (by simpa using h)
  simp only [List.map_cons,eqs,eq1,decide_true,ih]
  by_cases h1:a=b<;>by_cases h2:l=m<;>simp [h1,h2]
theorem Go7:∀ (l:List Int),H0 (List.replicate l.length (TypeDesc.int .i64)) (l.map int)=true
 | []=>rfl
 | a::l=>by
  have:=Go7 l
  simp only [List.length_cons,List.replicate_succ,List.map_cons,H0,decide_true,this,Bool.and_self]
theorem eq8 {α:Type} (l m:List Int) (hl:l.length=8) (hm:m.length=8) (k:Bool→Option α):A70 PR G52 (l.map int) (m.map int) k=k (decide (l=m)):=by
 have e:Ak0 PR 8 G52=some (List.replicate 8 (TypeDesc.int .i64)):=by kernel_rfl
 have f1:=Go7 l;have f2:=Go7 m
 rw [hl] at f1;rw [hm] at f2
 rw [A70,e]
 simp only [f1,f2,Ho2 l m (by omega),Bool.and_self,ckB,cond_true,eqK]
theorem Ja1 (p:ProcS):Ct A3 Ds9 [.agg ⟨B6 p⟩] [] fun v own=>v=.bool (okS p)∧own []:=by
 have h8:=p.len
 refine Ct.of Ig5 rfl fun h r=>Tr.eq (Ic2 ..) ?_;refine Je ?_
 (refine Ja ?_;unhygienic intros)
 refine Tr.cond (fun h1=>?_) fun h1=>?_
 ·refine Ys fun o=>?_
  refine ⟨?_,o.sub⟩
  unfold okS;rw [h1];rfl
 (refine Ja ?_;unhygienic intros)
 refine Tr.cond (fun h2=>?_) fun h2=>?_
 ·refine Ys fun o=>?_
  refine ⟨?_,o.sub⟩
  unfold okS;rw [h1,h2];rfl
 (refine Ja ?_;unhygienic intros)
 refine G02 0 rfl [int p.state,int p.parent,int p.group,int p.code,int p.pending,int p.mask,int p.ignored,int p.caught] (p.fds.map int) [] (by simp [B6]) 1 8 8 8 ⟨by simp [h8],by omega,by simp,by simp [B6],by omega,by omega⟩ ?_
 refine Je ?_
 have J:=Gk7 (e:=B1) (slX false B1 1 (some ⟨b,8,none⟩) p.fds.length 8 ([int p.state,int p.parent,int p.group,int p.code,int p.pending,int p.mask,int p.ignored,int p.caught],[]) (p.fds.map int)) (some ⟨b,8,none⟩) false 8 p.fds Bo5 (fun f=>decide (f<0) || decide (f>12)) (by rw [h8];simp [A5]) I52
 rw [h8] at J
 refine Tr.pcall (J) ?_;refine Je ?_;(refine Ja ?_;unhygienic intros)
 refine E74 0 rfl (B6 p) (by simp [B6]) ?_
 refine Je ?_
 cases h3:p.fds.any fun f=>decide (f<0) || decide (f>12) with
 | true =>
  (refine Ja ?_;unhygienic intros)
  refine Ys fun o=>?_
  refine ⟨?_,o.sub⟩
  unfold okS;rw [h1,h2,h3];rfl
 | false =>
  (refine Ja ?_;unhygienic intros)
  have e:okS p=if p.state=2 then p.pending==0 && decide (p.fds=Gc9) else p.code==0:=by unfold okS;rw [h1,h2,h3];rfl
  rw [e]
  by_cases h4:p.state=2
  ·refine Yt (by simpa using h4) ?_
   rw [if_pos h4]
   (repeat' first|refine Gu ?_|(with_reducible first|refine Gn fun b h=>?_|apply Gx|apply Gy|rintro px rfl|apply Gw|refine fun(h:H)=>?_|intro hb)|refine Gs ?_|refine Gt ?_|exact Gz rfl|fail)
   rw [show ([int 0,int 0,int 0,int 0,int 0,int 0,int 0,int 0]:List Value)=Gc9.map int from rfl,eq8 _ _ h8 rfl]
   (repeat' first|refine Gu ?_|(with_reducible first|refine Gn fun b h=>?_|apply Gx|apply Gy|rintro px rfl|apply Gw|refine fun(h:H)=>?_|intro hb)|refine Gs ?_|refine Gt ?_|exact Gz rfl|fail)
   refine Ys fun o=>?_
   exact ⟨rfl,o.sub⟩
  ·refine Yf (by simpa using h4) ?_
   rw [if_neg h4]
   (refine Ja ?_;unhygienic intros)
   refine Ys fun o=>?_
   exact ⟨rfl,o.sub⟩
theorem I33 (a:Option Addr) (c:Nat) (cs:List Value) (j:Nat) (n:Int) (hj:j+2≤cs.length) (hm:cs.length≤A5):Ct A3 Bo9 [.slice a cs.length c,int j,int n] [slC false A1 1 a cs.length c cs] fun v own =>
  (∃ ok,v=.bool ok)∧own [slC false A1 1 a cs.length c (if 0≤n∧n≤65535 then (cs.set j (.int .u8 ((b8 (n / 256)).toNat:Int))).set (j+1) (.int .u8 ((b8 n).toNat:Int)) else cs)]:=by
 simp only [A5] at hm
 have e1:IntKind.wrap .i64 ((cs.length:Int)-2)=(cs.length:Int)-2:=by rw [A8];omega
 have e2:=wN j
 refine Ct.of Hl8 rfl fun h r=>Tr.eq (Ho3 ..) ?_;refine Je ?_
 rw [e1,e2]
 (refine Ja ?_;unhygienic intros)
 by_cases h:0≤n∧n≤65535
 ·refine Yf (by simp;omega) ?_
  rw [if_pos h]
  (refine Ja ?_;unhygienic intros;repeat(refine Gw ?_;rintro px rfl;refine Ja ?_;unhygienic intros))
  rw [Int.toNat_natCast,show Int.fdiv n (2 ^ 8)=n / 256 by rw [Int.fdiv_eq_ediv_of_nonneg _ (by omega)];rfl,A13,A13]
  refine Je ?_
  refine Tr.xVS (cs':=cs.set j (.int .u8 ((b8 (n / 256)).toNat:Int))) ⟨by omega,rfl,rfl⟩ fun h=>?_
  (refine Ja ?_;unhygienic intros)
  rw [Int.toNat_natCast]
  refine Je ?_
  refine Tr.xVS (cs':=(cs.set j (.int .u8 ((b8 (n / 256)).toNat:Int))).set (j+1) (.int .u8 ((b8 n).toNat:Int))) ⟨by simp;omega,rfl,rfl⟩ fun h=>?_
  refine Ys fun o=>?_
  exact ⟨⟨_,rfl⟩,o.sub⟩
 ·refine Yt (by simp;omega) ?_
  rw [if_neg h]
  refine Ys fun o=>?_
  exact ⟨⟨_,rfl⟩,o.sub⟩
theorem Eg1 (l:List UInt8) (j:Nat) (x:UInt8):(A0 l).set j (.int .u8 (x.toNat:Int))=A0 (l.set j x):=by simp [A0,List.map_set]
theorem Et8 (a:Option Addr) (c m:Nat) (l:List UInt8) (j:Nat) (n:Int) (hm:l.length=m) (hj:j+2≤m) (h1:l[j]?=some 0) (h2:l[j+1]?=some 0) (hl:m≤A5):Ct A3 Bo9 [.slice a m c,int j,int n] [slC false A1 1 a m c (A0 l)] fun v own =>
  (∃ ok,v=.bool ok)∧own [slC false A1 1 a m c (A0 ((l.set j (hi2 n)).set (j+1) (lo2 n)))]:=by
 subst hm
 have J:=I33 a c (A0 l) j n (by rw [N8];omega) (by rw [N8];omega)
 rw [N8] at J
 have e:(if 0≤n∧n≤65535 then ((A0 l).set j (.int .u8 ((b8 (n / 256)).toNat:Int))).set (j+1) (.int .u8 ((b8 n).toNat:Int)) else A0 l)=A0 ((l.set j (hi2 n)).set (j+1) (lo2 n)):=by
  unfold hi2 lo2
  split
  ·rw [Eg1,Eg1]
  ·rw [E01 h1,E01 h2]
 rw [e] at J
 exact J
def two (l:List UInt8) (j:Nat):Int:=byI l j*256+byI l (j+1)
theorem Iq3 (x y:UInt8):Dy7 .i64 (IntKind.wrap .i64 (IntKind.wrap .i64 (x.toNat:Int)*2 ^ 8)) (IntKind.wrap .i64 (y.toNat:Int))=(x.toNat:Int)*256+y.toNat:=by
 have hx:=x.toNat_lt;have hy:=y.toNat_lt
 have e1:IntKind.wrap .i64 (IntKind.wrap .i64 (x.toNat:Int)*2 ^ 8)=((x.toNat*256:Nat):Int):=by rw [Ab6,A8];omega
 rw [e1,Ab6]
 unfold Dy7
 have e0:IntKind.bits .i64=64:=rfl
 rw [e0,BitVec.ofInt_natCast,BitVec.ofInt_natCast,BitVec.toNat_or,BitVec.toNat_ofNat,BitVec.toNat_ofNat,Nat.mod_eq_of_lt (by omega),Nat.mod_eq_of_lt (by omega)]
 have e2:x.toNat*256 ||| y.toNat=x.toNat*256+y.toNat:=by
  have:=Nat.two_pow_add_eq_or_of_lt (i:=8) (b:=y.toNat) (by omega) x.toNat
  rw [show 2 ^ 8*x.toNat=x.toNat*256 by omega] at this
  exact this.symm
 rw [e2,A8];omega
theorem Gc3 (a:Option Addr) (c n:Nat) (l:List UInt8) (j:Nat) (hn:l.length=n) (hj:j+2≤n) (hm:n≤A5):CtP A3 B96 [.slice a n c,int j] [slC false A1 1 a n c (A0 l)] (.tuple ⟨[int (two l j),.bool true]⟩):=by
 simp only [A5] at hm
 have e1:IntKind.wrap .i64 ((n:Int)-2)=(n:Int)-2:=by rw [A8];omega
 have e2:=wN j
 refine CtP.of Ho1 rfl fun h r=>Tr.eq (Hs9 ..) ?_;refine Je ?_
 rw [e1,e2]
 (refine Ja ?_;unhygienic intros)
 refine Yf (by simp;omega) ?_
 (refine Ja ?_;unhygienic intros;repeat(refine Gw ?_;rintro px rfl;refine Ja ?_;unhygienic intros))
 rw [Int.toNat_natCast]
 refine Je ?_
 refine Tr.xIntS (v:=byI l j) (Ac7 (by omega)) ?_
 (refine Ja ?_;unhygienic intros)
 rw [Int.toNat_natCast]
 refine Je ?_
 refine Tr.xIntS (v:=byI l (j+1)) (Ac7 (by omega)) ?_
 refine Ys fun o=>?_
 rw [Iq3];exact ⟨rfl,rfl⟩
theorem I44 (a:Option Addr) (c:Nat) (p:ProcS):Ct A3 P3 [.agg ⟨B6 p⟩,.slice a 24 c] [slC false A1 1 a 24 c (A0 (List.replicate 24 0))] fun v own=>v=.bool (okS p)∧own [slC false A1 1 a 24 c (A0 (if okS p then M6 p else List.replicate 24 0))]:=by
 refine Ct.of I3 rfl fun h r=>Tr.eq (H01 ..) ?_;refine Je ?_
 refine Yn fun b1 h=>?_
 (refine Ja ?_;intros)
 refine Yc (Ja1 p) ?_;rintro _ h ⟨rfl,o⟩<;>(refine Jf o ?_;intros)
 cases hk:okS p with
 | false =>
  (refine Ja ?_;intros)
  refine Ys fun o=>?_
  rw [if_neg (by simp)]
  exact ⟨rfl,o.sub⟩
 | true =>
  simp only [if_true]
  obtain ⟨st,pa,gr,co,pe,ma,ig,ca,fds,len⟩:=p
  match fds,len with
  | [f0,f1,f2,f3,f4,f5,f6,f7],len =>
  (refine Ja ?_;intros)
  rename_i b2 h2
  refine Aa8 2 rfl fun hl hc _=>?_
  simp only [List.map]
  refine Tr.jmp I3 (Tr.eq (Ba1 ..) ?_);(try simp only[Nr,Nl,wl,Nat.reduceAdd,Nat.reduceMul,Int.reduceToNat])
  (refine Jd ?_;intros;repeat(refine Gw ?_;rintro px rfl;refine Jd ?_;intros))
  refine Tr.jmp I3 (Tr.eq (Ba1 ..) ?_);(try simp only[Nr,Nl,wl,Nat.reduceAdd,Nat.reduceMul,Int.reduceToNat])
  (refine Jd ?_;intros)
  refine Tr.jmp I3 (Tr.eq (Ba1 ..) ?_);(try simp only[Nr,Nl,wl,Nat.reduceAdd,Nat.reduceMul,Int.reduceToNat])
  (refine Jd ?_;intros)
  refine Tr.jmp I3 (Tr.eq (Ba1 ..) ?_);(try simp only[Nr,Nl,wl,Nat.reduceAdd,Nat.reduceMul,Int.reduceToNat])
  (refine Jd ?_;intros)
  refine Tr.jmp I3 (Tr.eq (Ba1 ..) ?_);(try simp only[Nr,Nl,wl,Nat.reduceAdd,Nat.reduceMul,Int.reduceToNat])
  (refine Jd ?_;intros)
  simp only [A13,Eg1,List.replicate,List.set_cons_zero,List.set_cons_succ,Nat.mul_one]
  refine Tr.jmp I3 (Tr.eq (Ba9 ..) ?_);(try simp only[Nr,Nl,wl,Nat.reduceAdd,Nat.reduceMul,Int.reduceToNat])
  (refine Jd ?_;intros)
  refine Yc (Et8 (some px) c 24 [b8 st,b8 pa,b8 gr,b8 co,0,0,0,0,0,0,0,0,0,0,0,0,0,0,0,0,0,0,0,0] 4 pe rfl (by omega) rfl rfl (by simp [A5])) ?_;rintro _ h ⟨⟨_,rfl⟩,o⟩<;>(refine Jf o ?_;intros)
  refine Tr.jmp I3 (Tr.eq (Ba9 ..) ?_);(try simp only[Nr,Nl,wl,Nat.reduceAdd,Nat.reduceMul,Int.reduceToNat])
  (refine Jd ?_;intros)
  refine Yc (Et8 (some px) c 24 [b8 st,b8 pa,b8 gr,b8 co,hi2 pe,lo2 pe,0,0,0,0,0,0,0,0,0,0,0,0,0,0,0,0,0,0] 6 ma rfl (by omega) rfl rfl (by simp [A5])) ?_;rintro _ h ⟨⟨_,rfl⟩,o⟩<;>(refine Jf o ?_;intros)
  refine Tr.jmp I3 (Tr.eq (Ba9 ..) ?_);(try simp only[Nr,Nl,wl,Nat.reduceAdd,Nat.reduceMul,Int.reduceToNat])
  (refine Jd ?_;intros)
  refine Yc (Et8 (some px) c 24 [b8 st,b8 pa,b8 gr,b8 co,hi2 pe,lo2 pe,hi2 ma,lo2 ma,0,0,0,0,0,0,0,0,0,0,0,0,0,0,0,0] 8 ig rfl (by omega) rfl rfl (by simp [A5])) ?_;rintro _ h ⟨⟨_,rfl⟩,o⟩<;>(refine Jf o ?_;intros)
  refine Tr.jmp I3 (Tr.eq (Ba9 ..) ?_);(try simp only[Nr,Nl,wl,Nat.reduceAdd,Nat.reduceMul,Int.reduceToNat])
  (refine Jd ?_;intros)
  refine Yc (Et8 (some px) c 24 [b8 st,b8 pa,b8 gr,b8 co,hi2 pe,lo2 pe,hi2 ma,lo2 ma,hi2 ig,lo2 ig,0,0,0,0,0,0,0,0,0,0,0,0,0,0] 10 ca rfl (by omega) rfl rfl (by simp [A5])) ?_;rintro _ h ⟨⟨_,rfl⟩,o⟩<;>(refine Jf o ?_;intros)
  refine Tr.jmp I3 (Tr.eq (Ba9 ..) ?_);(try simp only[Nr,Nl,wl,Nat.reduceAdd,Nat.reduceMul,Int.reduceToNat])
  (refine Jd ?_;intros)
  refine Tr.jmp I3 (Tr.eq (Z6 ..) ?_);(try simp only[Nr,Nl,wl,Nat.reduceAdd,Nat.reduceMul,Int.reduceToNat])
  (refine Jd ?_;intros)
  refine Tr.jmp I3 (Tr.eq (Z6 ..) ?_);(try simp only[Nr,Nl,wl,Nat.reduceAdd,Nat.reduceMul,Int.reduceToNat])
  (refine Jd ?_;intros)
  refine Tr.jmp I3 (Tr.eq (Z6 ..) ?_);(try simp only[Nr,Nl,wl,Nat.reduceAdd,Nat.reduceMul,Int.reduceToNat])
  (refine Jd ?_;intros)
  refine Tr.jmp I3 (Tr.eq (Z6 ..) ?_);(try simp only[Nr,Nl,wl,Nat.reduceAdd,Nat.reduceMul,Int.reduceToNat])
  (refine Jd ?_;intros)
  refine Tr.jmp I3 (Tr.eq (Z6 ..) ?_);(try simp only[Nr,Nl,wl,Nat.reduceAdd,Nat.reduceMul,Int.reduceToNat])
  (refine Jd ?_;intros)
  refine Tr.jmp I3 (Tr.eq (Z6 ..) ?_);(try simp only[Nr,Nl,wl,Nat.reduceAdd,Nat.reduceMul,Int.reduceToNat])
  (refine Jd ?_;intros)
  refine Tr.jmp I3 (Tr.eq (Z6 ..) ?_);(try simp only[Nr,Nl,wl,Nat.reduceAdd,Nat.reduceMul,Int.reduceToNat])
  (refine Jd ?_;intros)
  refine Tr.jmp I3 (Tr.eq (Z6 ..) ?_);(try simp only[Nr,Nl,wl,Nat.reduceAdd,Nat.reduceMul,Int.reduceToNat])
  (refine Jd ?_;intros)
  refine Tr.jmp I3 (Tr.eq (Z6 ..) ?_);(try simp only[Nr,Nl,wl,Nat.reduceAdd,Nat.reduceMul,Int.reduceToNat])
  (refine Jd ?_;intros)
  simp only [A13,Eg1,List.set_cons_zero,List.set_cons_succ,Nat.mul_one]
  rw [show (.int .u8 167:Value)=.int .u8 ((167:UInt8).toNat:Int) from rfl,Eg1]
  simp only [List.set_cons_zero,List.set_cons_succ]
  refine Tr.pcall (Gv3 (slC false A1 1 (some px) 24 c (A0 [b8 st,b8 pa,b8 gr,b8 co,hi2 pe,lo2 pe,hi2 ma,lo2 ma,hi2 ig,lo2 ig,hi2 ca,lo2 ca,b8 f0,b8 f1,b8 f2,b8 f3,b8 f4,b8 f5,b8 f6,b8 f7,167,0,0,0])) (some px) false 24 c c [b8 st,b8 pa,b8 gr,b8 co,hi2 pe,lo2 pe,hi2 ma,lo2 ma,hi2 ig,lo2 ig,hi2 ca,lo2 ca,b8 f0,b8 f1,b8 f2,b8 f3,b8 f4,b8 f5,b8 f6,b8 f7,167,0,0,0] 21 (by simp) (by simp [A5])) ?_
  refine Je ?_
  (refine Ja ?_;intros)
  rw [D18]
  (refine Jd ?_;intros)
  refine Ys fun o=>?_
  rw [Eg1] at o
  simp only [List.set_cons_zero,List.set_cons_succ] at o
  simp only [M6,Au5,put2,List.map,List.cons_append,List.nil_append]
  exact ⟨trivial,o.sub⟩
abbrev Gk3 (k:Nat):HP:=pt k (.cells Bw8 false [int 24,.func (.func P3) ⟨[]⟩ ⟨[]⟩,.func (.func Y7) ⟨[]⟩ ⟨[]⟩])
theorem Hv3 (k:Nat) (f:ProcS):Ct A3 W7 [P0 k,.agg ⟨B6 f⟩] [Gk3 k] fun v own=>(okS f=true∧∃ a,v=.tuple ⟨[.slice a 24 24,.bool true]⟩∧own [Gk3 k,slC false A1 1 a 24 24 (A0 (M6 f))])∨(okS f=false∧v=.tuple ⟨[.slice none 0 0,.bool false]⟩∧own [Gk3 k]):=by
 refine Ct.of Dc1 rfl fun h r=>Tr.eq (Dd0 ..) ?_;refine Je ?_
 (refine Ja ?_;intros)
 refine Tr.ck ⟨by omega,by omega,by simp [A5]⟩ ?_
 refine Yn fun b1 h=>?_
 rw [show I0 (Int.toNat 24) [.int .u8 0]=A0 (List.replicate 24 0) from rfl]
 refine Ai6 0 rfl 1 24 rfl (by omega) ?_
 simp only [List.set_cons_zero]
 refine Je ?_
 (refine Jb ?_;intros)
 refine Yb (Yf rfl ?_)
 (refine Jb ?_;intros)
 refine Yc (I44 (some ⟨b1,0,none⟩) 24 f) ?_;rintro _ h ⟨rfl,o⟩<;>(refine Jg o ?_;intros)
 refine Ys fun o=>(?_:Tr _ _ _ _) o;refine Je ?_
 cases hk:okS f with
 | false =>
  (refine Ja ?_;intros)
  refine Ys fun o=>?_
  exact .inr ⟨rfl,rfl,o.sub⟩
 | true =>
  (refine Ja ?_;intros)
  refine Ys fun o=>?_
  simp only [if_true] at o
  exact .inl ⟨rfl,_,rfl,o.sub⟩
theorem I41:Ct A3 Ar8 [int 24,.func (.func P3) ⟨[]⟩ ⟨[]⟩,.func (.func Y7) ⟨[]⟩ ⟨[]⟩] [] fun v own=>∃ k,v=P0 k∧own [Gk3 k]:=by
 refine Ct.of Em5 rfl fun h r=>Tr.eq (Em3 ..) ?_;refine Je ?_
 rw [show mm2 false (mm2 true 24 0) 64=24 from rfl]
 (refine Ja ?_;intros)
 refine Ys fun o=>?_
 exact ⟨_,rfl,o.sub⟩
theorem G70:Ct A3 Bh9 [] [] fun v own=>∃ k,v=P0 k∧own [Gk3 k]:=by
 refine Ct.of Hd8 rfl fun h r=>Tr.eq (He5 ..) ?_;refine Je ?_
 refine Yc (I41) ?_;rintro _ h ⟨k,rfl,o⟩<;>(refine Jf o ?_;intros)
 refine Ys fun o=>?_
 exact ⟨_,rfl,o.sub⟩
theorem Gv9 (f:ProcS):Ct A3 A82 [.agg ⟨B6 f⟩] [] fun v own=>(okS f=true∧∃ a,v=.tuple ⟨[.slice a 24 24,.bool true]⟩∧own [slC false A1 1 a 24 24 (A0 (M6 f))])∨(okS f=false∧v=.tuple ⟨[.slice none 0 0,.bool false]⟩∧own []):=by
 refine Ct.of G51 rfl fun h r=>Tr.eq (G05 ..) ?_;refine Je ?_
 (refine Ja ?_;intros)
 refine Yc (G70) ?_;rintro _ h ⟨k,rfl,o⟩<;>(refine Jg o ?_;intros)
 refine Yc (Hv3 k f) ?_
 rintro v h (⟨hk,a,rfl,o⟩|⟨hk,rfl,o⟩)
 ·refine (?_:Tr _ _ _ _) o
  refine Je ?_
  (refine Ja ?_;intros)
  refine Ys fun o=>?_
  exact .inl ⟨hk,a,rfl,o.sub⟩
 ·refine (?_:Tr _ _ _ _) o
  refine Je ?_
  (refine Ja ?_;intros)
  refine Ys fun o=>?_
  exact .inr ⟨hk,rfl,o.sub⟩
def An8 (l:List UInt8):ProcS:=⟨byI l 0,byI l 1,byI l 2,byI l 3,two l 4,two l 6,two l 8,two l 10,[byI l 12,byI l 13,byI l 14,byI l 15,byI l 16,byI l 17,byI l 18,byI l 19],rfl⟩
def isS (l:List UInt8):Bool:=okS (An8 l) && decide (M6 (An8 l)=l)
theorem I36 (a:Option Addr) (c:Nat) (l:List UInt8) (hl:l.length=24):Ct A3 Y7 [.slice a 24 c] [slC false A1 1 a 24 c (A0 l)] fun v own=>v=.tuple ⟨[.agg ⟨B6 (An8 l)⟩,.bool (isS l)]⟩∧own [slC false A1 1 a 24 c (A0 l)]:=by
 have key:∀ a1:Option Addr,CtP A3 B9 [.slice a1 24 24,.slice a 24 c] [slC false A1 1 a1 24 24 (A0 (M6 (An8 l))),slC false A1 1 a 24 c (A0 l)] (.bool (decide (M6 (An8 l)=l))):=fun a1=>by
  have e:=Bg1 (An8 l)
  have J:=E97 (slC false A1 1 a1 (M6 (An8 l)).length 24 (A0 (M6 (An8 l)))) (slC false A1 1 a l.length c (A0 l)) a1 false 24 a false c (M6 (An8 l)) l (by rw [e];simp [A5])
  rwa [hl,e] at J
 refine Ct.of P2 rfl fun h r=>Tr.eq (H06 ..) ?_;refine Je ?_
 refine Yn fun b1 h=>?_
 refine Aa8 1 rfl fun hl2 hc2 _=>?_
 (refine Ja ?_;intros;repeat(refine Gw ?_;rintro px rfl;refine Ja ?_;intros))
 refine Tr.xIntS (v:=byI l 0) (Ac7 (by omega)) ?_
 (refine Ja ?_;intros)
 refine Tr.xIntS (v:=byI l 1) (Ac7 (by omega)) ?_
 (refine Ja ?_;intros)
 refine Tr.xIntS (v:=byI l 2) (Ac7 (by omega)) ?_
 (refine Ja ?_;intros)
 refine Tr.xIntS (v:=byI l 3) (Ac7 (by omega)) ?_
 (refine Ja ?_;intros)
 simp only [byI,Ab6]
 refine Tr.jmp P2 (Tr.eq (A83 ..) ?_);(try simp only[Nr,Nl,wl,Nat.reduceAdd,Nat.reduceMul,Int.reduceToNat])
 (refine Jd ?_;intros)
 refine Tr.pcall (Gc3 (some px) c 24 l 4 hl (by omega) (by simp [A5])) ?_;refine Je ?_;(refine Ja ?_;intros)
 refine Tr.jmp P2 (Tr.eq (A83 ..) ?_);(try simp only[Nr,Nl,wl,Nat.reduceAdd,Nat.reduceMul,Int.reduceToNat])
 (refine Jd ?_;intros)
 refine Tr.pcall (Gc3 (some px) c 24 l 6 hl (by omega) (by simp [A5])) ?_;refine Je ?_;(refine Ja ?_;intros)
 refine Tr.jmp P2 (Tr.eq (A83 ..) ?_);(try simp only[Nr,Nl,wl,Nat.reduceAdd,Nat.reduceMul,Int.reduceToNat])
 (refine Jd ?_;intros)
 refine Tr.pcall (Gc3 (some px) c 24 l 8 hl (by omega) (by simp [A5])) ?_;refine Je ?_;(refine Ja ?_;intros)
 refine Tr.jmp P2 (Tr.eq (A83 ..) ?_);(try simp only[Nr,Nl,wl,Nat.reduceAdd,Nat.reduceMul,Int.reduceToNat])
 (refine Jd ?_;intros)
 refine Tr.pcall (Gc3 (some px) c 24 l 10 hl (by omega) (by simp [A5])) ?_;refine Je ?_;(refine Ja ?_;intros)
 refine Tr.jmp P2 (Tr.eq (A83 ..) ?_);(try simp only[Nr,Nl,wl,Nat.reduceAdd,Nat.reduceMul,Int.reduceToNat])
 (refine Jd ?_;intros)
 refine Tr.jmp P2 (Tr.eq (Z3 ..) ?_);(try simp only[Nr,Nl,wl,Nat.reduceAdd,Nat.reduceMul,Int.reduceToNat])
 (refine Jd ?_;intros)
 refine Tr.xIntS (v:=byI l 12) (Ac7 (by omega)) ?_
 (refine Jd ?_;intros)
 simp only [byI,Ab6]
 refine Tr.jmp P2 (Tr.eq (Z3 ..) ?_);(try simp only[Nr,Nl,wl,Nat.reduceAdd,Nat.reduceMul,Int.reduceToNat])
 (refine Jd ?_;intros)
 refine Tr.xIntS (v:=byI l 13) (Ac7 (by omega)) ?_
 (refine Jd ?_;intros)
 simp only [byI,Ab6]
 refine Tr.jmp P2 (Tr.eq (Z3 ..) ?_);(try simp only[Nr,Nl,wl,Nat.reduceAdd,Nat.reduceMul,Int.reduceToNat])
 (refine Jd ?_;intros)
 refine Tr.xIntS (v:=byI l 14) (Ac7 (by omega)) ?_
 (refine Jd ?_;intros)
 simp only [byI,Ab6]
 refine Tr.jmp P2 (Tr.eq (Z3 ..) ?_);(try simp only[Nr,Nl,wl,Nat.reduceAdd,Nat.reduceMul,Int.reduceToNat])
 (refine Jd ?_;intros)
 refine Tr.xIntS (v:=byI l 15) (Ac7 (by omega)) ?_
 (refine Jd ?_;intros)
 simp only [byI,Ab6]
 refine Tr.jmp P2 (Tr.eq (Z3 ..) ?_);(try simp only[Nr,Nl,wl,Nat.reduceAdd,Nat.reduceMul,Int.reduceToNat])
 (refine Jd ?_;intros)
 refine Tr.xIntS (v:=byI l 16) (Ac7 (by omega)) ?_
 (refine Jd ?_;intros)
 simp only [byI,Ab6]
 refine Tr.jmp P2 (Tr.eq (Z3 ..) ?_);(try simp only[Nr,Nl,wl,Nat.reduceAdd,Nat.reduceMul,Int.reduceToNat])
 (refine Jd ?_;intros)
 refine Tr.xIntS (v:=byI l 17) (Ac7 (by omega)) ?_
 (refine Jd ?_;intros)
 simp only [byI,Ab6]
 refine Tr.jmp P2 (Tr.eq (Z3 ..) ?_);(try simp only[Nr,Nl,wl,Nat.reduceAdd,Nat.reduceMul,Int.reduceToNat])
 (refine Jd ?_;intros)
 refine Tr.xIntS (v:=byI l 18) (Ac7 (by omega)) ?_
 (refine Jd ?_;intros)
 simp only [byI,Ab6]
 refine Tr.jmp P2 (Tr.eq (Z3 ..) ?_);(try simp only[Nr,Nl,wl,Nat.reduceAdd,Nat.reduceMul,Int.reduceToNat])
 (refine Jd ?_;intros)
 refine Tr.xIntS (v:=byI l 19) (Ac7 (by omega)) ?_
 (refine Jd ?_;intros)
 simp only [byI,Ab6]
 refine Tr.jmp P2 (Tr.eq (Z3 ..) ?_);(try simp only[Nr,Nl,wl,Nat.reduceAdd,Nat.reduceMul,Int.reduceToNat])
 refine Yf rfl ?_
 refine Tr.xAgg (xs:=B6 (An8 l)) ⟨Nat.le_of_ble_eq_true rfl,rfl⟩ ?_
 refine Yc (Gv9 (An8 l)) ?_
 rintro v h (⟨hk,a1,rfl,o⟩|⟨hk,rfl,o⟩)
 ·refine (?_:Tr _ _ _ _) o
  refine Je ?_
  refine Tr.dx ?_
  refine Tr.dx ?_
  refine Tr.dx ?_
  refine Tr.xAgg (xs:=B6 (An8 l)) ⟨Nat.le_of_ble_eq_true rfl,rfl⟩ ?_
  refine Yb (Yt rfl ?_)
  refine Tr.pcall (key a1) ?_
  refine Tr.dx ?_
  refine Tr.xAgg (xs:=B6 (An8 l)) ⟨Nat.le_of_ble_eq_true rfl,rfl⟩ ?_
  (refine Ja ?_;intros)
  refine Ys fun o=>(?_:Tr _ _ _ _) o;refine Je ?_
  (refine Ja ?_;intros)
  refine Ys fun o=>?_
  exact ⟨by unfold isS;rw [hk,Bool.true_and],o.sub⟩
 ·refine (?_:Tr _ _ _ _) o
  refine Je ?_
  refine Tr.dx ?_
  refine Tr.dx ?_
  refine Tr.dx ?_
  refine Tr.xAgg (xs:=B6 (An8 l)) ⟨Nat.le_of_ble_eq_true rfl,rfl⟩ ?_
  (refine Ja ?_;intros)
  refine Ys fun o=>?_
  exact ⟨by unfold isS;rw [hk];rfl,o.sub⟩
theorem Hk8 (k:Nat) (pb:HP) (ro:Bool) (a:Option Addr) (c:Nat) (l:List UInt8) (hl:l.length=24) [ks:IsSl pb a ro A1 1 24 c (A0 l)]:Ct A3 W1 [P0 k,.slice a 24 c] [Gk3 k,pb] fun v own=>v=.tuple ⟨[.agg ⟨B6 (if isS l then An8 l else .zero)⟩,.bool (isS l)]⟩∧own [Gk3 k,pb]:=by
 refine Ct.of Dc9 rfl fun h r=>Tr.eq (Dd1 ..) ?_;refine Je ?_
 (refine Ja ?_;intros)
 refine Yf rfl ?_
 (refine Jb ?_;intros)
 refine Yc (Ep6 24 pb ro a c l hl (by simp [A5])) ?_;rintro _ h ⟨a1,c1,rfl,o⟩<;>(refine Jg o ?_;intros)
 refine Yc (I36 a1 c1 l hl) ?_;rintro _ h ⟨rfl,o⟩<;>(refine Jg o ?_;intros)
 cases hk:isS l with
 | false =>
  (refine Ja ?_;intros)
  refine Ys fun o=>?_
  exact ⟨rfl,o.sub⟩
 | true =>
  (refine Ja ?_;intros)
  refine Ys fun o=>?_
  exact ⟨rfl,o.sub⟩
def H2 (l:List UInt8):ProcS × Int:=if l.all (·==0) then (.zero,0) else if isS l then (An8 l,1) else (.zero,2)
theorem H07 (pb:HP) (ro:Bool) (a:Option Addr) (c:Nat) (l:List UInt8) (hl:l.length=24) [ks:IsSl pb a ro A1 1 24 c (A0 l)]:Ct A3 Aw3 [.slice a 24 c] [pb] fun v own=>v=.tuple ⟨[.agg ⟨B6 (H2 l).1⟩,int (H2 l).2]⟩∧own [pb]:=by
 refine Ct.of G46 rfl fun h r=>Tr.eq (G44 ..) ?_;refine Je ?_
 refine Yn fun b1 h=>?_
 refine Yb (Yt rfl ?_)
 refine Tr.pcall (Em0 24 pb ro a c l hl (by simp [A5])) ?_;refine Je ?_;(refine Jb ?_;intros)
 refine Ys fun o=>(?_:Tr _ _ _ _) o;refine Je ?_
 cases hb:l.all (·==0) with
 | true =>
  (refine Ja ?_;intros)
  refine Ys fun o=>?_
  exact ⟨by unfold H2;rw [hb];rfl,o.sub⟩
 | false =>
  (refine Jb ?_;intros)
  refine Yc (G70) ?_;rintro _ h ⟨k,rfl,o⟩<;>(refine Jg o ?_;intros)
  refine Yc (Hk8 k pb ro a c l hl) ?_;rintro _ h ⟨rfl,o⟩<;>(refine Jg o ?_;intros)
  cases hk:isS l with
  | false =>
   (refine Ja ?_;intros)
   refine Ys fun o=>?_
   exact ⟨by unfold H2;rw [hb,hk];rfl,o.sub⟩
  | true =>
   (refine Ja ?_;intros)
   refine Ys fun o=>?_
   exact ⟨by unfold H2;rw [hb,hk];rfl,o.sub⟩
theorem Ib8 (a:Option Addr) (c:Nat) (l:List UInt8) (hl:l.length=24):Ct A3 Aw3 [.slice a 24 c] [slC false A1 1 a 24 c (A0 l)] fun v own=>v=.tuple ⟨[.agg ⟨B6 (H2 l).1⟩,int (H2 l).2]⟩∧own [slC false A1 1 a 24 c (A0 l)]:=H07 (slC false A1 1 a 24 c (A0 l)) false a c l hl
def B7 (l:List UInt8) (a:Nat) (b:List UInt8):List UInt8:=l.take a++b++l.drop (a+b.length)
theorem Q3 {l b:List UInt8} {a:Nat} (h:a+b.length≤l.length):(B7 l a b).length=l.length:=by simp [B7];omega
theorem Bt1 {l b:List UInt8} {a:Nat} (h:a+b.length≤l.length) (i:Nat):(B7 l a b)[i]?=if a≤i∧i<a+b.length then b[i-a]? else l[i]?:=by
 unfold B7
 by_cases h1:i<a
 ·rw [if_neg (by omega),List.append_assoc,List.getElem?_append_left (by simp;omega),List.getElem?_take,if_pos h1]
 ·rw [List.append_assoc,List.getElem?_append_right (by simp;omega),List.length_take,Nat.min_eq_left (by omega)]
  by_cases h2:i<a+b.length
  ·rw [if_pos ⟨by omega,h2⟩,List.getElem?_append_left (by omega)]
  ·rw [if_neg (by omega),List.getElem?_append_right (by omega),List.getElem?_drop];congr 1;omega
def slice (l:List UInt8) (a n:Nat):List UInt8:=(l.drop a).take n
theorem B38 (l:List UInt8) (a n i:Nat):(slice l a n)[i]?=if i<n then l[a+i]? else none:=by
 unfold slice;rw [List.getElem?_take];split
 ·rw [List.getElem?_drop]
 ·rfl
theorem D62 {l:List UInt8} {a n:Nat} (h:a+n≤l.length):(slice l a n).length=n:=by simp [slice];omega
abbrev Rg:=List (Nat × Nat)
def Ao3:List UInt8→Rg→List (List UInt8)→List UInt8
 | l,(lo,_)::rg,x::m=>Ao3 (B7 l lo x) rg m
 | l,_,_=>l
structure Fit (size:Nat) (rg:Rg) (m:List (List UInt8)):Prop where
 len:m.length=rg.length
 each:∀ (j lo n:Nat),rg[j]?=some (lo,n)→lo+n≤size∧∃ x,m[j]?=some x∧x.length=n
def RgOk (rg:Rg):Prop:=∀ (i j lo n lo' n':Nat),i≠j→rg[i]?=some (lo,n)→rg[j]?=some (lo',n')→lo+n≤lo'∨lo'+n'≤lo
theorem Fit.tail {size:Nat} {p:Nat × Nat} {rg:Rg} {x:List UInt8} {m:List (List UInt8)} (f:Fit size (p::rg) (x::m)):Fit size rg m:=⟨by simpa using f.len,fun j lo n h=>by simpa using f.each (j+1) lo n (by simpa using h)⟩
theorem Fit.head {size lo n:Nat} {rg:Rg} {x:List UInt8} {m:List (List UInt8)} (f:Fit size ((lo,n)::rg) (x::m)):lo+n≤size∧x.length=n:=by
 obtain ⟨h,y,hy,hl⟩:=f.each 0 lo n rfl
 simp at hy;subst hy;exact ⟨h,hl⟩
theorem RgOk.tail {p:Nat × Nat} {rg:Rg} (k:RgOk (p::rg)):RgOk rg:=fun i j lo n lo' n' hij hi hj=>k (i+1) (j+1) lo n lo' n' (by omega) (by simpa using hi) (by simpa using hj)
theorem B05:∀ {rg:Rg} {m:List (List UInt8)} {l:List UInt8},Fit l.length rg m→(Ao3 l rg m).length=l.length
 | [],m,l,f=>by simp [Ao3]
 | (lo,n)::rg,[],l,f=>by simp [Ao3]
 | (lo,n)::rg,x::m,l,f=>by
  have h:=f.head
  have e:=Q3 (l:=l) (b:=x) (a:=lo) (by omega)
  unfold Ao3
  rw [B05 (by rw [e];exact f.tail),e]
theorem D05:∀ {rg:Rg} {m:List (List UInt8)} {l:List UInt8},Fit l.length rg m→∀ i,(∀ (j lo n:Nat),rg[j]?=some (lo,n)→i<lo∨lo+n≤i)→(Ao3 l rg m)[i]?=l[i]?
 | [],m,l,f,i,h=>by simp [Ao3]
 | (lo,n)::rg,[],l,f,i,h=>by simp [Ao3]
 | (lo,n)::rg,x::m,l,f,i,h=>by
  have h0:=f.head
  have e:=Q3 (l:=l) (b:=x) (a:=lo) (by omega)
  unfold Ao3
  rw [D05 (by rw [e];exact f.tail) i (fun j lo' n' hj=>h (j+1) lo' n' (by simpa using hj)),Bt1 (by omega),if_neg]
  have:=h 0 lo n rfl;omega
theorem Df3:∀ {rg:Rg} {m:List (List UInt8)} {l:List UInt8},Fit l.length rg m→RgOk rg→∀ (j lo n:Nat) (x:List UInt8),rg[j]?=some (lo,n)→m[j]?=some x→∀ i,i<n→(Ao3 l rg m)[lo+i]?=x[i]?
 | [],m,l,f,k,j,lo,n,x,h,hx,i,hi=>by simp at h
 | (lo0,n0)::rg,[],l,f,k,j,lo,n,x,h,hx,i,hi=>by simp at hx
 | (lo0,n0)::rg,x0::m,l,f,k,j,lo,n,x,h,hx,i,hi=>by
  have h0:=f.head
  have e:=Q3 (l:=l) (b:=x0) (a:=lo0) (by omega)
  unfold Ao3
  cases j with
  | zero =>
   simp at h hx
   obtain ⟨rfl,rfl⟩:=h;subst hx
   rw [D05 (by rw [e];exact f.tail) (lo0+i) (fun j lo' n' hj=>by
    have:=k 0 (j+1) lo0 n0 lo' n' (by omega) rfl (by simpa using hj)
    omega),Bt1 (by omega),if_pos (by omega)]
   congr 1;omega
  | succ j=>exact Df3 (by rw [e];exact f.tail) k.tail j lo n x (by simpa using h) (by simpa using hx) i hi
theorem En2 {rg:Rg} {m:List (List UInt8)} {l:List UInt8} (f:Fit l.length rg m) (k:RgOk rg) {j lo n:Nat} {x:List UInt8} (h:rg[j]?=some (lo,n)) (hx:m[j]?=some x) {a c:Nat} (hc:a+c≤n):slice (Ao3 l rg m) (lo+a) c=slice x a c:=by
 refine List.ext_getElem? fun i=>?_
 rw [B38,B38]
 split
 ·rw [Nat.add_assoc,Df3 f k j lo n x h hx (a+i) (by omega)]
 ·rfl
theorem Fit.set {size:Nat} {rg:Rg} {m:List (List UInt8)} (f:Fit size rg m) {j lo n:Nat} (h:rg[j]?=some (lo,n)) {y:List UInt8} (hy:y.length=n):Fit size rg (m.set j y):=⟨by simpa using f.len,fun i lo' n' hi=>by
 obtain ⟨h1,z,hz,hl⟩:=f.each i lo' n' hi
 refine ⟨h1,?_⟩
 by_cases hij:j=i
 ·subst hij
  rw [h] at hi;cases hi
  exact ⟨y,by simp [(List.getElem?_eq_some_iff.1 hz).1],hy⟩
 ·exact ⟨z,by rw [List.getElem?_set_ne hij];exact hz,hl⟩⟩
theorem Hz8 {rg:Rg} {m:List (List UInt8)} {l:List UInt8} (f:Fit l.length rg m) (k:RgOk rg) {j lo n:Nat} {x:List UInt8} (h:rg[j]?=some (lo,n)) (hx:m[j]?=some x) {a:Nat} {b:List UInt8} (hc:a+b.length≤n):B7 (Ao3 l rg m) (lo+a) b=Ao3 l rg (m.set j (B7 x a b)):=by
 obtain ⟨h1,y,hy,hl⟩:=f.each j lo n h
 rw [hx] at hy;cases hy
 have e:=Q3 (l:=x) (b:=b) (a:=a) (by omega)
 have f2:=f.set h (y:=B7 x a b) (by omega)
 have lp:=B05 f
 refine List.ext_getElem? fun i=>?_
 rw [Bt1 (by omega)]
 by_cases hi:lo≤i∧i<lo+n
 ·obtain ⟨i',rfl⟩:∃ i',i=lo+i':=⟨i-lo,by omega⟩
  rw [Df3 f2 k j lo n (B7 x a b) h (by simp [(List.getElem?_eq_some_iff.1 hx).1]) i' (by omega),Bt1 (by omega),Df3 f k j lo n x h hx i' (by omega)]
  by_cases h2:a≤i'∧i'<a+b.length
  ·rw [if_pos (by omega),if_pos h2];congr 1;omega
  ·rw [if_neg (by omega),if_neg h2]
 ·rw [if_neg (by omega)]
  by_cases ho:∃ (j' lo' n':Nat),rg[j']?=some (lo',n')∧lo'≤i∧i<lo'+n'
  ·obtain ⟨j',lo',n',hj',h3,h4⟩:=ho
   have hne:j≠j':=fun e=>by subst e;rw [h] at hj';cases hj';omega
   obtain ⟨_,z,hz,_⟩:=f.each j' lo' n' hj'
   obtain ⟨i',rfl⟩:∃ i',i=lo'+i':=⟨i-lo',by omega⟩
   rw [Df3 f k j' lo' n' z hj' hz i' (by omega),Df3 f2 k j' lo' n' z hj' (by rw [List.getElem?_set_ne hne];exact hz) i' (by omega)]
  ·have hall:∀ (j' lo' n':Nat),rg[j']?=some (lo',n')→i<lo'∨lo'+n'≤i:=fun j' lo' n' hj'=>by
    by_cases hh:lo'≤i∧i<lo'+n'
    ·exact absurd ⟨j',lo',n',hj',hh.1,hh.2⟩ ho
    ·omega
   rw [D05 f i hall,D05 f2 i hall]
structure RecS where
 kind:Int
 index:Int
deriving DecidableEq
abbrev G8 (r:RecS):List Value:=[int r.kind,int r.index]
structure Fr where
 S:KS
 N:Nat
 env:Int
 caps:List Int
 rg:Rg
structure FrOk (F:Fr):Prop where
 ok:KOk F.N F.S
 hN:F.N+1<1000000000
 ne:0<F.caps.length
 small:F.caps.length≤40
 len:F.rg.length=F.caps.length
 env:¬ (F.env<0∨F.env≥(F.S.envs.length:Int))
 pl:∀ (j:Nat) (cap:Int) (lo n:Nat),F.caps[j]?=some cap→F.rg[j]?=some (lo,n)→∀ (a m:Nat) (right:Int),right=1∨right=2→a+m≤n→Q6 F.S.tabs F.S.regs F.env cap right a m=(((lo+a:Nat):Int),0)
 dj:RgOk F.rg
 own:∃ lo,F.rg[0]?=some (lo,492)
 brs:∀ (j lo n:Nat),0<j→F.rg[j]?=some (lo,n)→n=40
def Fr.at (F:Fr) (m:List (List UInt8)):KS:=Ao8 F.S (Ao3 F.S.mem F.rg m)
structure CX where
 m:List (List UInt8)
 bad:List RecS
def Aj3:Nat→List RecS→List MapEntry
 | _,[]=>[]
 | i,r::l=>{ key:=.agg ⟨G8 r⟩,val:=int 1,born:=i }::Aj3 (i+1) l
abbrev I78 (c k:Nat) (env:Int) (caps:List Int) (bad:List RecS) (x:Option Addr × Nat × Nat):List HP :=
 [pt c (.cells Dq8 false [P0 k,int env,.slice x.1 caps.length x.2.1,.map (some x.2.2)]),slC false B2 1 x.1 caps.length x.2.1 (caps.map int),pt x.2.2 (.map (Aj3 0 bad) bad.length)]
def N4 (c k:Nat) (env:Int) (caps:List Int) (bad:List RecS):HP:=hex fun x=>sl (I78 c k env caps bad x)
instance {c k:Nat} {env:Int} {caps:List Int} {bad:List RecS}:Chk (N4 c k env caps bad) (I78 c k env caps bad):=⟨rfl⟩
abbrev cmF (c k:Nat) (F:Fr) (x:CX):List HP:=[D5 k (F.at x.m),N4 c k F.env F.caps x.bad,pu (Fit F.S.mem.length F.rg x.m)]
def cmC (c k:Nat) (F:Fr) (x:CX):HP:=hex fun _:Unit=>sl (cmF c k F x)
instance {c k:Nat} {F:Fr} {x:CX}:Chk (cmC c k F x) (fun _:Unit=>cmF c k F x):=⟨rfl⟩
def I1 (nc:Nat) (kind:Int):Int:=if kind=1 then 8 else if kind=2 then 12 else if kind=3 then 3+nc else 1
def E3 (nc:Nat) (r:RecS):Option (Nat × Nat × Nat) :=
 if r.index<0∨r.index≥I1 nc r.kind then none
 else if r.kind=1 then some (0,24*r.index.toNat,24)
 else if r.kind=2 then some (0,192+8*r.index.toNat,8)
 else if r.kind=3 then if r.index<4 then some (0,288+40*r.index.toNat,40) else some (r.index.toNat-3,0,40)
 else if r.kind=4 then some (0,448,40)
 else some (0,488,4)
def Hl7 (caps:List Int):Option (Nat × Nat × Nat)→List Value
 | some (j,a,n)=>[int (caps.getD j 0),int a,int n]
 | none=>[int 0,int 0,int 0]
theorem Gn6 (c k:Nat) (env:Int) (caps:List Int) (bad:List RecS) (kind:Int) (hs:caps.length≤40):CtP A3 U7 [P0 c,int kind] [N4 c k env caps bad] (int (I1 caps.length kind)):=by
 have e:IntKind.wrap .i64 (IntKind.wrap .i64 (4+(caps.length:Int))-1)=3+(caps.length:Int):=by rw [A8,A8];omega
 refine CtP.of Ea0 rfl fun h r=>Tr.eq (Eb6 ..) ?_;refine Je ?_
 refine A9 (N4 c k env caps bad) fun ⟨a,n,mb⟩=>?_;refine Je ?_
 unfold I1
 by_cases h1:kind=1
 ·refine Yt (by simpa using h1) ?_
  rw [if_pos h1];exact Jz
 refine Yf (by simpa using h1) ?_
 rw [if_neg h1]
 by_cases h2:kind=2
 ·refine Yt (by simpa using h2) ?_
  rw [if_pos h2];exact Jz
 refine Yf (by simpa using h2) ?_
 rw [if_neg h2]
 by_cases h3:kind=3
 ·refine Yt (by simpa using h3) ?_
  rw [if_pos h3];(refine Ja ?_;intros)
  refine Ys fun o=>?_
  rw [e];exact ⟨by first|rfl|trivial,by first|rfl|trivial⟩
 refine Yf (by simpa using h3) ?_
 rw [if_neg h3];exact Jz
theorem E38 (c k:Nat) (env:Int) (caps:List Int) (bad:List RecS) (rc:RecS) (hs:caps.length≤40) (hn:0<caps.length):Ct A3 S8 [P0 c,.agg ⟨G8 rc⟩] [N4 c k env caps bad] fun v own =>
  v=.tuple ⟨[.agg ⟨Hl7 caps (E3 caps.length rc)⟩,.bool (E3 caps.length rc).isSome]⟩∧own [N4 c k env caps bad]:=by
 have hg:∀ j,j<caps.length→(caps.map int)[j]?=some (int (caps.getD j 0)):=fun j hj=>by rw [List.getElem?_map,M7 0 hj];rfl
 refine Ct.of D32 rfl fun h r=>Tr.eq (D33 ..) ?_;refine Je ?_
 (refine Jb ?_;intros)
 refine Tr.orG (c:=decide (rc.index≥I1 caps.length rc.kind)) (fun hb=>?_) ?_
 ·(refine Ja ?_;intros)
  refine Tr.pcall (Gn6 c k env caps bad rc.kind hs) ?_;refine Je ?_;exact Jz
 by_cases hi:rc.index<0∨rc.index≥I1 caps.length rc.kind
 ·refine Yt (by simp only [Bool.or_eq_true,decide_eq_true_eq];exact hi) ?_
  have e:E3 caps.length rc=none:=by unfold E3;rw [if_pos hi]
  rw [e]
  (refine Ja ?_;intros)
  refine Ys fun o=>?_
  exact ⟨rfl,o.sub⟩
 refine Yf (by simp only [Bool.or_eq_false_iff,decide_eq_false_iff_not];omega) ?_
 refine A9 (N4 c k env caps bad) fun ⟨a,n,mb⟩=>?_;refine Je ?_
 (refine Ja ?_;intros;repeat(refine Gw ?_;rintro px rfl;refine Ja ?_;intros))
 refine Tr.xIntS (v:=caps.getD 0 0) (hg 0 hn) ?_
 (refine Ja ?_;intros)
 by_cases h1:rc.kind=1
 ·refine Yt (by simpa using h1) ?_
  have e:E3 caps.length rc=some (0,24*rc.index.toNat,24):=by unfold E3;rw [if_neg hi,if_pos h1]
  have hm:I1 caps.length rc.kind=8:=by unfold I1;rw [if_pos h1]
  have e1:IntKind.wrap .i64 (24*rc.index)=((24*rc.index.toNat:Nat):Int):=by rw [A8];omega
  rw [e,e1]
  (refine Ja ?_;intros)
  refine A4 (N4 c k env caps bad) ⟨some px,n,mb⟩ ?_;refine Je ?_
  refine Ys fun o=>?_
  exact ⟨rfl,o.sub⟩
 refine Yf (by simpa using h1) ?_
 by_cases h2:rc.kind=2
 ·(refine Ja ?_;intros)
  refine Yt (by simpa using h2) ?_
  have e:E3 caps.length rc=some (0,192+8*rc.index.toNat,8):=by unfold E3;rw [if_neg hi,if_neg h1,if_pos h2]
  have hm:I1 caps.length rc.kind=12:=by unfold I1;rw [if_neg h1,if_pos h2]
  have e1:IntKind.wrap .i64 (192+IntKind.wrap .i64 (8*rc.index))=((192+8*rc.index.toNat:Nat):Int):=by rw [A8,A8];omega
  rw [e,e1]
  (refine Ja ?_;intros)
  refine A4 (N4 c k env caps bad) ⟨some px,n,mb⟩ ?_;refine Je ?_
  refine Ys fun o=>?_
  exact ⟨rfl,o.sub⟩
 (refine Ja ?_;intros)
 refine Yf (by simpa using h2) ?_
 (refine Jb ?_;intros)
 refine Tr.andG (c:=decide (rc.index<4)) (fun hb=>?_) ?_
 ·exact Jz
 by_cases h3:rc.kind=3
 ·have hm:I1 caps.length rc.kind=3+caps.length:=by unfold I1;rw [if_neg h1,if_neg h2,if_pos h3]
  by_cases h4:rc.index<4
  ·refine Yt (by simp [h3,h4]) ?_
   have e:E3 caps.length rc=some (0,288+40*rc.index.toNat,40):=by unfold E3;rw [if_neg hi,if_neg h1,if_neg h2,if_pos h3,if_pos h4]
   have e1:IntKind.wrap .i64 (288+IntKind.wrap .i64 (40*rc.index))=((288+40*rc.index.toNat:Nat):Int):=by rw [A8,A8];omega
   rw [e,e1]
   (refine Ja ?_;intros)
   refine A4 (N4 c k env caps bad) ⟨some px,n,mb⟩ ?_;refine Je ?_
   refine Ys fun o=>?_
   exact ⟨rfl,o.sub⟩
  ·refine Yf (by simp [h4]) ?_
   have e:E3 caps.length rc=some (rc.index.toNat-3,0,40):=by unfold E3;rw [if_neg hi,if_neg h1,if_neg h2,if_pos h3,if_neg h4]
   have e1:IntKind.wrap .i64 (IntKind.wrap .i64 (rc.index-4)+1)=((rc.index.toNat-3:Nat):Int):=by rw [A8,A8];omega
   rw [e,e1]
   (refine Ja ?_;intros)
   refine Yt (by simpa using h3) ?_
   (refine Ja ?_;intros)
   rw [Int.toNat_natCast]
   refine Je ?_
   refine Tr.xIntS (v:=caps.getD (rc.index.toNat-3) 0) (hg _ (by omega)) ?_
   (refine Ja ?_;intros)
   refine A4 (N4 c k env caps bad) ⟨some px,n,mb⟩ ?_;refine Je ?_
   refine Ys fun o=>?_
   exact ⟨rfl,o.sub⟩
 refine Yf (by simp [h3]) ?_
 (refine Ja ?_;intros)
 refine Yf (by simpa using h3) ?_
 (refine Ja ?_;intros)
 by_cases h4:rc.kind=4
 ·refine Yt (by simpa using h4) ?_
  have e:E3 caps.length rc=some (0,448,40):=by unfold E3;rw [if_neg hi,if_neg h1,if_neg h2,if_neg h3,if_pos h4]
  rw [e]
  (refine Ja ?_;intros)
  refine A4 (N4 c k env caps bad) ⟨some px,n,mb⟩ ?_;refine Je ?_
  refine Ys fun o=>?_
  exact ⟨rfl,o.sub⟩
 refine Yf (by simpa using h4) ?_
 have e:E3 caps.length rc=some (0,488,4):=by unfold E3;rw [if_neg hi,if_neg h1,if_neg h2,if_neg h3,if_neg h4]
 rw [e]
 (refine Ja ?_;intros)
 refine A4 (N4 c k env caps bad) ⟨some px,n,mb⟩ ?_;refine Je ?_
 refine Ys fun o=>?_
 exact ⟨rfl,o.sub⟩
theorem In9:Ak0 PR 8 A6=some [TypeDesc.int .i64,TypeDesc.int .i64]:=by kernel_rfl
theorem I43:El1 PR A6=some true:=by kernel_rfl
instance {a b:Int}:KeyC PR A6 (.agg ⟨[.int .i64 a,.int .i64 b]⟩):=⟨fun x=>by
 unfold NN.keyN;rw [In9,I43];rfl⟩
theorem E81 (r:RecS):∀ (l:List RecS) (i j:Nat),Ak5 (.agg ⟨G8 r⟩) (Aj3 j l) i=some (if r ∈ l then some (i+l.idxOf r) else none)
 | [],i,j=>by simp [Aj3,Ak5]
 | q::l,i,j=>by
  have ih:=E81 r l (i+1) (j+1)
  obtain ⟨qk,qi⟩:=q
  obtain ⟨rk,ri⟩:=r
  simp only [Aj3,Ak5,Bm7,G8,eqs,eq1,decide_true,List.mem_cons] at ih ⊢
  by_cases h:rk=qk∧ri=qi
  ·obtain ⟨rfl,rfl⟩:=h
   simp
  ·have e:(rk==qk && (ri==qi && true))=false:=by
    rw [Bool.and_eq_false_iff]
    by_cases h1:rk=qk
    ·right;simp;intro h2;exact h ⟨h1,h2⟩
    ·left;simpa using h1
   have hne:¬ (({ kind:=rk,index:=ri }:RecS)={ kind:=qk,index:=qi }):=fun e=>by
    rw [RecS.mk.injEq] at e;exact h e
   rw [e]
   simp only [hne,false_or]
   rw [ih,List.idxOf_cons]
   have:(({ kind:=qk,index:=qi }:RecS)=={ kind:=rk,index:=ri })=false:=by
    rw [beq_eq_false_iff_ne];exact fun e=>hne e.symm
   rw [this,cond_false]
   split<;>simp;omega
theorem Dy1:∀ (l:List RecS) (j:Nat),(Aj3 j l).length=l.length
 | [],_=>rfl
 | _::l,j=>by simp [Aj3,Dy1 l]
theorem Hl0:∀ (l:List RecS) (j i:Nat) (r:RecS),l[i]?=some r→(Aj3 j l)[i]?=some { key:=.agg ⟨G8 r⟩,val:=int 1,born:=j+i }
 | [],_,i,r,h=>by simp at h
 | q::l,j,0,r,h=>by simp at h;subst h;rfl
 | q::l,j,i+1,r,h=>by
  have:=Hl0 l (j+1) i r (by simpa using h)
  rw [Aj3,List.getElem?_cons_succ,this];congr 2;omega
theorem Bp0 (r:RecS) (l:List RecS):An1 (int 0) (.agg ⟨G8 r⟩) (Aj3 0 l)=some (if r ∈ l then (int 1,true) else (int 0,false)):=by
 unfold An1
 rw [E81]
 by_cases h:r ∈ l
 ·rw [if_pos h,if_pos h]
  have hi:=List.idxOf_lt_length_of_mem h
  have hg:l[l.idxOf r]?=some r:=by rw [List.getElem?_eq_getElem hi,List.getElem_idxOf]
  simp only [Nat.zero_add]
  rw [Hl0 l 0 _ r hg]
 ·rw [if_neg h,if_neg h]
theorem Hp0:∀ (l m:List RecS) (j:Nat),Aj3 j (l++m)=Aj3 j l++Aj3 (j+l.length) m
 | [],m,j=>by simp [Aj3]
 | q::l,m,j=>by simp only [List.cons_append,Aj3,Hp0 l m (j+1),List.length_cons];congr 2;congr 1;omega
theorem Ek2 {r:RecS} {l:List RecS} (h:¬ r ∈ l):Ed7 (int 0) (.agg ⟨G8 r⟩) (Aj3 0 l) l.length=some (int 0,l.length,.map (Aj3 0 l++[{ key:=.agg ⟨G8 r⟩,val:=int 0,born:=l.length }]) (l.length+1)):=by
 unfold Ed7;rw [E81,if_neg h]
theorem Hb2 (r:RecS) (e:MapEntry):∀ (l:List RecS) (i j:Nat),¬ r ∈ l→Ak5 (.agg ⟨G8 r⟩) (Aj3 j l++[e]) i=Ak5 (.agg ⟨G8 r⟩) [e] (i+l.length)
 | [],i,j,h=>by simp [Aj3]
 | q::l,i,j,h=>by
  have ih:=Hb2 r e l (i+1) (j+1) (fun hm=>h (List.mem_cons_of_mem _ hm))
  have hq:Bm7 (.agg ⟨G8 r⟩) (.agg ⟨G8 q⟩)=some false:=by
   obtain ⟨qk,qi⟩:=q
   obtain ⟨rk,ri⟩:=r
   simp only [Bm7,G8,eqs,eq1,decide_true]
   congr 1
   rw [Bool.and_eq_false_iff]
   by_cases h1:rk=qk
   ·right;simp;intro h2;exact h (by subst h1 h2;exact List.mem_cons_self ..)
   ·left;simpa using h1
  show (match Bm7 (.agg ⟨G8 r⟩) (.agg ⟨G8 q⟩) with
   | some true=>some (some i)
   | some false=>Ak5 (.agg ⟨G8 r⟩) (Aj3 (j+1) l++[e]) (i+1)
   | none=>none)=_
  rw [hq]
  simp only
  rw [ih];congr 1;simp;omega
theorem D41 {r:RecS} {l:List RecS} (h:¬ r ∈ l):An1 (int 0) (.agg ⟨G8 r⟩) (Aj3 0 l++[{ key:=.agg ⟨G8 r⟩,val:=int 0,born:=l.length }])=some (int 0,true):=by
 unfold An1
 rw [Hb2 r _ l 0 0 h]
 obtain ⟨rk,ri⟩:=r
 simp only [Ak5,Bm7,G8,eqs,eq1,decide_true,BEq.rfl,Bool.and_self,Nat.zero_add]
 rw [List.getElem?_append_right (by rw [Dy1];exact Nat.le_refl _),Dy1];simp
theorem Dk6:∀ (l:List RecS) (j:Nat) (n:Nat) (e:MapEntry) (i:Nat),e.born=n→j+l.length≤n→Bs0 (n:Int) (Aj3 j l++[e]) i=some (i+l.length)
 | [],j,n,e,i,h,hl=>by simp [Aj3,Bs0,h]
 | q::l,j,n,e,i,h,hl=>by
  have ih:=Dk6 l (j+1) n e (i+1) h (by simp at hl;omega)
  simp only [Aj3,List.cons_append,Bs0]
  have:(((j:Nat):Int)==(n:Int))=false:=by simp at hl ⊢;omega
  rw [this,cond_false,ih];congr 1;simp;omega
theorem G79 (f:MapEntry→MapEntry) (e:MapEntry):∀ (l:List MapEntry),modN f l.length (l++[e])=l++[f e]
 | []=>rfl
 | q::l=>by simp [modN,G79 f e l]
theorem Es6 (r:RecS) (l:List RecS):modN (fun e=>{ e with val:=int (IntKind.wrap .i64 (0+1)) }) l.length (Aj3 0 l++[{ key:=.agg ⟨G8 r⟩,val:=int 0,born:=l.length }])=Aj3 0 (l++[r]):=by
 rw [show l.length=(Aj3 0 l).length from (Dy1 l 0).symm,G79,Hp0]
 simp [Aj3,Dy1];decide
theorem Fr.mem_at (F:Fr) (m:List (List UInt8)):(F.at m).mem=Ao3 F.S.mem F.rg m:=rfl
theorem Fr.at_ok {F:Fr} (k:FrOk F) {m:List (List UInt8)} (f:Fit F.S.mem.length F.rg m):KOk F.N (F.at m):=by
 have:=k.ok
 exact ⟨this.envs,this.tabs,this.space,this.quota,by rw [Fr.mem_at,B05 f];exact this.mem,this.regs,this.may,this.mayl,this.nsect,this.sects,this.now⟩
theorem Ix6 {F:Fr} (k:FrOk F) {r:RecS} {j a n:Nat} (h:E3 F.caps.length r=some (j,a,n)):∃ lo z,F.rg[j]?=some (lo,z)∧a+n≤z∧j<F.caps.length:=by
 obtain ⟨lo0,h0⟩:=k.own
 have hl:=k.len;have hn:=k.ne
 unfold E3 at h
 split at h;· cases h
 rename_i hi
 split at h
 ·rename_i h1
  have hm:I1 F.caps.length r.kind=8:=by unfold I1;rw [if_pos h1]
  cases h;exact ⟨lo0,492,h0,by omega,hn⟩
 rename_i h1
 split at h
 ·rename_i h2
  have hm:I1 F.caps.length r.kind=12:=by unfold I1;rw [if_neg h1,if_pos h2]
  cases h;exact ⟨lo0,492,h0,by omega,hn⟩
 rename_i h2
 split at h
 ·rename_i h3
  have hm:I1 F.caps.length r.kind=3+F.caps.length:=by unfold I1;rw [if_neg h1,if_neg h2,if_pos h3]
  split at h
  ·cases h;exact ⟨lo0,492,h0,by omega,hn⟩
  ·cases h
   have hlt:r.index.toNat-3<F.rg.length:=by omega
   have hg:=List.getElem?_eq_getElem hlt
   generalize hx:F.rg[r.index.toNat-3]=x at hg
   obtain ⟨lo,z⟩:=x
   have:=k.brs _ lo z (by omega) hg
   exact ⟨lo,z,hg,by omega,by omega⟩
 split at h<;>(cases h;exact ⟨lo0,492,h0,by omega,hn⟩)
def O6 (kind:Int):Nat:=if kind=1 then 24 else if kind=2 then 8 else if kind=3 then 40 else if kind=4 then 40 else 4
theorem B80 {nc:Nat} {r:RecS} {j a n:Nat} (h:E3 nc r=some (j,a,n)):n=O6 r.kind:=by
 unfold E3 at h;unfold O6
 split at h;· cases h
 split at h
 ·rename_i h1;cases h;rw [if_pos h1]
 rename_i h1
 rw [if_neg h1]
 split at h
 ·rename_i h2;cases h;rw [if_pos h2]
 rename_i h2
 rw [if_neg h2]
 split at h
 ·rename_i h3;rw [if_pos h3];split at h<;>(cases h;rfl)
 rename_i h3
 rw [if_neg h3]
 split at h
 ·rename_i h4;cases h;rw [if_pos h4]
 ·rename_i h4;cases h;rw [if_neg h4]
def rdX (X:CX) (r:RecS):Option (List UInt8) :=
 match E3 X.m.length r with
 | some (j,a,n)=>if r ∈ X.bad then none else some (slice (X.m.getD j []) a n)
 | none=>none
def wrX (X:CX) (r:RecS) (b:List UInt8) (ok:Bool):Bool × CX :=
 match E3 X.m.length r with
 | some (j,a,n)=>if ok=true∧¬ r ∈ X.bad then (true,{ X with m:=X.m.set j (B7 (X.m.getD j []) a b) }) else (false,X)
 | none=>(false,X)
theorem Fit.mlen {F:Fr} (k:FrOk F) {m:List (List UInt8)} (f:Fit F.S.mem.length F.rg m):m.length=F.caps.length:=by rw [f.len,k.len]
theorem Eo2 {F:Fr} (k:FrOk F) {m:List (List UInt8)} (f:Fit F.S.mem.length F.rg m) {r:RecS} {j a n:Nat} (h:E3 F.caps.length r=some (j,a,n)) :
  ∃ lo z cap,F.caps[j]?=some cap∧F.rg[j]?=some (lo,z)∧a+n≤z∧m[j]?=some (m.getD j [])∧(m.getD j []).length=z∧lo+z≤F.S.mem.length∧cap=F.caps.getD j 0:=by
 obtain ⟨lo,z,hr,ha,hj⟩:=Ix6 k h
 obtain ⟨h1,x,hx,hl⟩:=f.each j lo z hr
 have e:m.getD j []=x:=by rw [List.getD_eq_getElem?_getD,hx];rfl
 exact ⟨lo,z,F.caps.getD j 0,M7 0 hj,hr,ha,by rw [e];exact hx,by rw [e];exact hl,h1,rfl⟩
theorem I29 {F:Fr} (k:FrOk F) {X:CX} (f:Fit F.S.mem.length F.rg X.m) {r:RecS} {l:List UInt8} (h:rdX X r=some l):l.length=O6 r.kind:=by
 unfold rdX at h
 rw [f.mlen k] at h
 cases hp:E3 F.caps.length r with
 | none=>rw [hp] at h;cases h
 | some p =>
  obtain ⟨j,a,n⟩:=p
  rw [hp] at h
  obtain ⟨lo,z,cap,_,_,ha,hx,hl,_⟩:=Eo2 k f hp
  simp only at h
  split at h
  ·cases h
  ·cases h;rw [D62 (by omega),B80 hp]
theorem Jd5 {F:Fr} (k:FrOk F) {m:List (List UInt8)} (f:Fit F.S.mem.length F.rg m) {r:RecS} {j a n:Nat} (h:E3 F.caps.length r=some (j,a,n)) :
  W0 (F.at m) F.env ⟨1,F.caps.getD j 0,(a:Int),(n:Int),0,0,[]⟩=((0,0,slice (m.getD j []) a n),F.at m):=by
 obtain ⟨lo,z,cap,hc,hr,ha,hx,hl,hz,rfl⟩:=Eo2 k f h
 have hp:=k.pl j _ lo z hc hr a n 1 (.inl rfl) ha
 have lp:=B05 f
 have hb:Dj2 (Ao3 F.S.mem F.rg m) ((lo+a:Nat):Int) (n:Int)=some (slice (m.getD j []) a n):=by
  unfold Dj2
  rw [if_pos (by rw [lp];omega),Int.toNat_natCast,Int.toNat_natCast]
  rw [← En2 f k.dj hr hx ha];rfl
 have e:As3 (F.at m).tabs (F.at m).regs (F.at m).mem F.env (F.caps.getD j 0) (a:Int) (n:Int)=(slice (m.getD j []) a n,0):=by
  unfold As3
  rw [show Q6 (F.at m).tabs (F.at m).regs F.env (F.caps.getD j 0) 1 (a:Int) (n:Int)=(((lo+a:Nat):Int),0) from hp]
  rw [if_neg (by simp),show Dj2 (F.at m).mem _ _=_ from hb]
 unfold W0
 rw [if_neg (show ¬ (F.env<0∨F.env≥((F.at m).envs.length:Int)) from k.env)]
 unfold kDo
 rw [if_pos rfl,e]
theorem I91 {F:Fr} (k:FrOk F) {m:List (List UInt8)} (f:Fit F.S.mem.length F.rg m) {r:RecS} {j a n:Nat} (h:E3 F.caps.length r=some (j,a,n)) {b:List UInt8} (hb:b.length=n) :
  W0 (F.at m) F.env ⟨2,F.caps.getD j 0,(a:Int),0,0,0,b⟩=((0,0,[]),F.at (m.set j (B7 (m.getD j []) a b))):=by
 obtain ⟨lo,z,cap,hc,hr,ha,hx,hl,hz,rfl⟩:=Eo2 k f h
 have hp:=k.pl j _ lo z hc hr a n 2 (.inr rfl) ha
 have lp:=B05 f
 have hs:Bi0 (Ao3 F.S.mem F.rg m) ((lo+a:Nat):Int) b=some (Ao3 F.S.mem F.rg (m.set j (B7 (m.getD j []) a b))):=by
  unfold Bi0
  rw [if_pos (by rw [lp];omega),Int.toNat_natCast]
  rw [← Hz8 f k.dj hr hx (by omega)];rfl
 have e:Ao6 (F.at m).tabs (F.at m).regs (F.at m).mem F.env (F.caps.getD j 0) (a:Int) b=(0,Ao3 F.S.mem F.rg (m.set j (B7 (m.getD j []) a b))):=by
  unfold Ao6
  rw [hb,show Q6 (F.at m).tabs (F.at m).regs F.env (F.caps.getD j 0) 2 (a:Int) (n:Int)=(((lo+a:Nat):Int),0) from hp]
  rw [if_neg (by simp),show Bi0 (F.at m).mem _ _=_ from hs]
 unfold W0
 rw [if_neg (show ¬ (F.env<0∨F.env≥((F.at m).envs.length:Int)) from k.env)]
 unfold kDo
 rw [if_neg (show ¬ ((2:Int)=1) by decide),if_pos rfl,e];rfl
theorem I35 {F:Fr} (k:FrOk F) {X:CX} (f:Fit F.S.mem.length F.rg X.m) {r:RecS} {b:List UInt8} {ok:Bool} (hb:ok=true→b.length=O6 r.kind):Fit F.S.mem.length F.rg (wrX X r b ok).2.m:=by
 unfold wrX
 rw [f.mlen k]
 cases hp:E3 F.caps.length r with
 | none=>exact f
 | some p =>
  obtain ⟨j,a,n⟩:=p
  obtain ⟨lo,z,cap,hc,hr,ha,hx,hl,hz,_⟩:=Eo2 k f hp
  simp only
  split
  ·rename_i hk
   exact f.set hr (by rw [Q3 (by rw [hb hk.1,← B80 hp];omega)];exact hl)
  ·exact f
instance {caps:List Int} {o:Option (Nat × Nat × Nat)}:LenC (Hl7 caps o) 3:=⟨by cases o<;>rfl⟩
theorem Ix5 (caps:List Int) (o:Option (Nat × Nat × Nat)):(Hl7 caps o).all Value.oneCell=true:=by cases o<;>rfl
instance {caps:List Int} {o:Option (Nat × Nat × Nat)} {cs:List Value} [k:LenC cs 3]:SetsC cs 0 (Hl7 caps o) (Hl7 caps o):=⟨A16 k.ok LenC.ok (Ix5 caps o)⟩
instance {rc:RecS}:PartC (G8 rc) 0 2 (G8 rc):=⟨rfl⟩
theorem H51 (r:RecS) (l:List RecS):(if r ∈ l then (int 1,true) else (int 0,false))=(int (if r ∈ l then 1 else 0),decide (r ∈ l)):=by split<;>simp [*]
theorem H33 (r:RecS) (l:List RecS):decide ((if r ∈ l then (1:Int) else 0)>0)=decide (r ∈ l):=by split<;>simp [*]
theorem B46 (k:Nat) (S:KS) (N:Nat) (ok:KOk N S) (hN:N+1<1000000000) (env:Int) (c:CallS) (ba:Option Addr) (bc:Nat) (ro:Bool) (h5:c.op≠5) :
  Ct A3 V0 [P0 k,int env,.agg ⟨Am6 c ba bc⟩] [D5 k S,slC ro A1 1 ba c.b.length bc (A0 c.b)] fun v own=>∃ x d,v=.agg ⟨[int (W0 S env c).1.1,int (W0 S env c).1.2.1,.slice x (W0 S env c).1.2.2.length d]⟩ ∧
    own [slC false A1 1 x (W0 S env c).1.2.2.length d (A0 (W0 S env c).1.2.2),D5 k (W0 S env c).2,slC ro A1 1 ba c.b.length bc (A0 c.b)]:=by
 intro h r o
 obtain ⟨pq,o1⟩:=Own.ex (f:=fun pq=>slX ro A1 1 ba c.b.length bc pq (A0 c.b)) (o.perm (.swap _ _ _))
 obtain ⟨v,h',e,x,d,rfl,o2⟩:=Ij6 k S N ok hN env c ba bc ro pq h5 h r (o1.perm (.swap _ _ _))
 refine ⟨_,h',e,x,d,rfl,?_⟩
 have o3:=o2.picks [2] rfl
 exact (Own.inex (f:=fun pq=>slX ro A1 1 ba c.b.length bc pq (A0 c.b)) pq o3).picks [1,1,0] rfl
theorem Er6 (c k:Nat) (F:Fr) (X:CX) (rc:RecS) (ok:FrOk F):Ct A3 P6 [P0 c,.agg ⟨G8 rc⟩] [cmC c k F X] fun v own =>
  (∃ l a cp,rdX X rc=some l∧l.length=O6 rc.kind∧v=.tuple ⟨[.slice a l.length cp,.bool true]⟩∧own [slC false A1 1 a l.length cp (A0 l),cmC c k F X]) ∨
  (rdX X rc=none∧v=.tuple ⟨[.slice none 0 0,.bool false]⟩∧own [cmC c k F X]):=by
 refine Ct.of D96 rfl fun h r=>Tr.eq (Ed6 ..) ?_;refine Je ?_
 refine A9 (cmC c k F X) fun u=>?_;refine Je ?_
 refine L8 2 rfl fun f=>?_
 (refine Ja ?_;intros)
 refine Yc (E38 c k F.env F.caps X.bad rc ok.small ok.ne) ?_;rintro _ h ⟨rfl,o⟩<;>(refine Jg o ?_;intros)
 have em:=f.mlen ok
 cases hp:E3 F.caps.length rc with
 | none =>
  (refine Jb ?_;intros)
  refine Yb (Yt rfl ?_)
  refine Ys fun o=>(?_:Tr _ _ _ _) o;refine Je ?_
  (refine Ja ?_;intros)
  refine A4 (cmC c k F X) () ?_;refine Je ?_
  refine Ys fun o=>?_
  exact .inr ⟨by unfold rdX;rw [em,hp],rfl,o.sub⟩
 | some p =>
  obtain ⟨j,a,n⟩:=p
  refine A9 (N4 c k F.env F.caps X.bad) fun ⟨ca,cn,mb⟩=>?_;refine Je ?_
  (refine Jb ?_;intros)
  refine Tr.orG (c:=decide (rc ∈ X.bad)) (fun _=>?_) ?_
  ·(refine Ja ?_;intros)
   rw [Bp0,H51]
   (refine Ja ?_;intros)
   refine Ys fun o=>?_
   rw [H33];exact ⟨by first|rfl|trivial,by first|rfl|trivial⟩
  by_cases hb:rc ∈ X.bad
  ·rw [decide_eq_true hb]
   (refine Ja ?_;intros)
   refine A4 (N4 c k F.env F.caps X.bad) ⟨ca,cn,mb⟩ ?_;refine Je ?_
   refine A4 (cmC c k F X) () ?_;refine Je ?_
   refine Ys fun o=>?_
   exact .inr ⟨by unfold rdX;rw [em,hp];exact if_pos hb,rfl,o.sub⟩
  ·rw [decide_eq_false hb]
   refine Yf rfl ?_
   (refine Ja ?_;intros)
   refine A4 (N4 c k F.env F.caps X.bad) ⟨ca,cn,mb⟩ ?_;refine Je ?_
   have J:=I14 k (F.at X.m) F.N (F.at_ok ok f) ok.hN F.env 1 (F.caps.getD j 0) (a:Int) (n:Int) 0 0 (by decide)
   rw [Jd5 ok f hp] at J
   refine Yc (J) ?_;rintro _ h ⟨y,d,rfl,o⟩<;>(refine Jf o ?_;intros)
   refine Yf rfl ?_
   (refine Ja ?_;intros)
   refine A4 (cmC c k F X) () ?_;refine Je ?_
   refine Ys fun o=>?_
   have e:rdX X rc=some (slice (X.m.getD j []) a n):=by unfold rdX;rw [em,hp];exact if_neg hb
   exact .inl ⟨_,y,d,e,I29 ok f e,rfl,o.sub⟩
theorem Dl0 (c k:Nat) (F:Fr) (X:CX) (rc:RecS) (ok:FrOk F) (bs:List UInt8) (g:Bool) (ba:Option Addr) (bc:Nat) (hb:g=true→bs.length=O6 rc.kind) :
  Ct A3 O1 [P0 c,.agg ⟨G8 rc⟩,.slice ba bs.length bc,.bool g] [cmC c k F X,slC false A1 1 ba bs.length bc (A0 bs)] fun v own =>
   v=.bool (wrX X rc bs g).1∧own [cmC c k F (wrX X rc bs g).2,slC false A1 1 ba bs.length bc (A0 bs)]:=by
 refine Ct.of D35 rfl fun h r=>Tr.eq (D37 ..) ?_;refine Je ?_
 refine A9 (cmC c k F X) fun u=>?_;refine Je ?_
 refine L8 2 rfl fun f=>?_
 (refine Ja ?_;intros)
 refine Yc (E38 c k F.env F.caps X.bad rc ok.small ok.ne) ?_;rintro _ h ⟨rfl,o⟩<;>(refine Jg o ?_;intros)
 have em:=f.mlen ok
 cases hp:E3 F.caps.length rc with
 | none =>
  (refine Jb ?_;intros)
  refine Yb (Yt rfl ?_)
  refine Ys fun o=>(?_:Tr _ _ _ _) o;refine Je ?_
  refine Yb (Yt rfl ?_)
  refine Ys fun o=>(?_:Tr _ _ _ _) o;refine Je ?_
  (refine Ja ?_;intros)
  refine A4 (cmC c k F X) () ?_;refine Je ?_
  refine Ys fun o=>?_
  have e:wrX X rc bs g=(false,X):=by unfold wrX;rw [em,hp]
  rw [e]
  exact ⟨by first|rfl|trivial,o.sub⟩
 | some p =>
  obtain ⟨j,a,n⟩:=p
  refine A9 (N4 c k F.env F.caps X.bad) fun ⟨ca,cn,mb⟩=>?_;refine Je ?_
  (refine Jb ?_;intros)
  refine Yb (Yf rfl ?_)
  refine Ys fun o=>(?_:Tr _ _ _ _) o;refine Je ?_
  (refine Jb ?_;intros)
  refine Tr.orG (c:=decide (rc ∈ X.bad)) (fun _=>?_) ?_
  ·(refine Ja ?_;intros)
   rw [Bp0,H51]
   (refine Ja ?_;intros)
   refine Ys fun o=>?_
   rw [H33];exact ⟨by first|rfl|trivial,by first|rfl|trivial⟩
  by_cases hg:g=true∧¬ rc ∈ X.bad
  ·have e:wrX X rc bs g=(true,{ X with m:=X.m.set j (B7 (X.m.getD j []) a bs) }):=by unfold wrX;rw [em,hp];exact if_pos hg
   have f2:=I35 (r:=rc) (b:=bs) (ok:=g) ok f hb
   rw [e] at f2
   obtain ⟨rfl,hg2⟩:=hg
   rw [e,decide_eq_false hg2]
   refine Yf rfl ?_
   (refine Ja ?_;intros)
   refine A4 (N4 c k F.env F.caps X.bad) ⟨ca,cn,mb⟩ ?_;refine Je ?_
   have hl:bs.length=n:=by rw [hb rfl,B80 hp]
   have J:=B46 k (F.at X.m) F.N (F.at_ok ok f) ok.hN F.env ⟨2,F.caps.getD j 0,(a:Int),0,0,0,bs⟩ ba bc false (show ((2:Int)≠5) by decide)
   rw [I91 ok f hp hl] at J
   refine Yc (J) ?_;rintro _ h ⟨y,d,rfl,o⟩<;>(refine Jf o ?_;intros)
   refine As2 (show Fit F.S.mem.length F.rg (X.m.set j (B7 (X.m.getD j []) a bs)) from f2) ?_
   refine A4 (cmC c k F { X with m:=X.m.set j (B7 (X.m.getD j []) a bs) }) () ?_;refine Je ?_
   refine Ys fun o=>?_
   exact ⟨rfl,o.sub⟩
  ·have e:wrX X rc bs g=(false,X):=by unfold wrX;rw [em,hp];exact if_neg hg
   rw [e]
   refine Yt ?_ ?_
   ·cases g with
    | false=>rfl
    | true=>simpa using hg
   refine A4 (N4 c k F.env F.caps X.bad) ⟨ca,cn,mb⟩ ?_;refine Je ?_
   refine A4 (cmC c k F X) () ?_;refine Je ?_
   refine Ys fun o=>?_
   exact ⟨by first|rfl|trivial,o.sub⟩
def M0 {α:Type} (dec:List UInt8→α × Int) (z:α) (X:CX) (rc:RecS):(α × Int) × CX :=
 match rdX X rc with
 | some l=>(dec l,if (dec l).2=2 then { X with bad:=X.bad++[rc] } else X)
 | none=>((z,2),X)
theorem Eo5 {X:CX} {rc:RecS} {l:List UInt8} (h:rdX X rc=some l):¬ rc ∈ X.bad:=by
 unfold rdX at h
 split at h
 ·split at h
  ·cases h
  ·assumption
 ·cases h
theorem Io2 (l:List UInt8) (h:(H2 l).2≠1):(H2 l).1=.zero:=by
 unfold H2 at *;split<;>first|rfl|(split<;>first|rfl|(simp_all;done))
theorem In3 (l:List UInt8) (h:(J7 l).2≠1):(J7 l).1=.zero:=by
 unfold J7 at *;split<;>first|rfl|(split<;>first|rfl|(simp_all;done))
theorem Il4 (l:List UInt8) (h:(D7 l).2≠1):(D7 l).1=.zero:=by
 unfold D7 at *;split<;>first|rfl|(split<;>first|rfl|(simp_all;done))
theorem I75 (c k:Nat) (F:Fr) (X:CX) (rc:RecS) (ok:FrOk F) (hk:O6 rc.kind=24):Ct A3 L7 [P0 c,.agg ⟨G8 rc⟩,.func (.func Aw3) ⟨[]⟩ ⟨[]⟩] [cmC c k F X] fun v own =>
  v=.tuple ⟨[.agg ⟨B6 (M0 H2 .zero X rc).1.1⟩,int (M0 H2 .zero X rc).1.2]⟩∧own [cmC c k F (M0 H2 .zero X rc).2]:=by
 refine Ct.of Ar5 rfl fun h r=>Tr.eq (Du9 ..) ?_;refine Je ?_
 (refine Ja ?_;intros)
 refine Yc (Er6 c k F X rc ok) ?_
 rintro v h (⟨l,a,cp,hr,hl,rfl,o⟩|⟨hr,rfl,o⟩)
 ·refine (?_:Tr _ _ _ _) o
  refine Je ?_
  have e:M0 H2 .zero X rc=(H2 l,if (H2 l).2=2 then { X with bad:=X.bad++[rc] } else X):=by unfold M0;rw [hr]
  have hb:=Eo5 hr
  rw [e]
  rw [hk] at hl
  rw [hl]
  (refine Ja ?_;intros)
  refine Yc (Ib8 a cp l hl) ?_;rintro _ h ⟨rfl,o⟩<;>(refine Jf o ?_;intros)
  by_cases h2:(H2 l).2=2
  ·refine Yt (by simpa using h2) ?_
   have hz:=Io2 l (by omega)
   simp only [if_pos h2]
   refine A9 (cmC c k F X) fun u=>?_;refine Je ?_
   refine A9 (N4 c k F.env F.caps X.bad) fun ⟨ca,cn,mb⟩=>?_;refine Je ?_
   (refine Ja ?_;intros)
   rw [Bp0,if_neg hb]
   (refine Ja ?_;intros)
   rw [Ek2 hb]
   (refine Ja ?_;intros)
   rw [D41 hb]
   (refine Ja ?_;intros)
   rw [Dk6 X.bad 0 X.bad.length _ 0 rfl (by omega),Nat.zero_add]
   (refine Ja ?_;intros)
   rw [Es6]
   refine Tr.jmp Ar5 (Tr.eq (A96 ..) ?_);(try simp only[Nr,Nl,wl,Nat.reduceAdd,Nat.reduceMul,Int.reduceToNat])
   refine Yt (by rw [bne_iff_ne];omega) ?_
   (refine Ja ?_;intros)
   rw [show X.bad.length+1=(X.bad++[rc]).length by simp]
   refine A4 (N4 c k F.env F.caps (X.bad++[rc])) ⟨ca,cn,mb⟩ ?_;refine Je ?_
   refine A4 (cmC c k F { X with bad:=X.bad++[rc] }) () ?_;refine Je ?_
   refine Ys fun o=>?_
   exact ⟨by rw [hz]<;>rfl,o.sub⟩
  ·refine Yf (by simpa using h2) ?_
   simp only [if_neg h2]
   refine Tr.jmp Ar5 (Tr.eq (A96 ..) ?_);(try simp only[Nr,Nl,wl,Nat.reduceAdd,Nat.reduceMul,Int.reduceToNat])
   by_cases h1:(H2 l).2=1
   ·refine Yf (by simpa using h1) ?_
    (refine Ja ?_;intros)
    refine Ys fun o=>?_
    exact ⟨rfl,o.sub⟩
   ·refine Yt (by simpa using h1) ?_
    (refine Ja ?_;intros)
    refine Ys fun o=>?_
    exact ⟨by rw [Io2 l h1]<;>rfl,o.sub⟩
 ·refine (?_:Tr _ _ _ _) o
  refine Je ?_
  have e:M0 H2 .zero X rc=((.zero,2),X):=by unfold M0;rw [hr]
  rw [e]
  (refine Ja ?_;intros)
  refine Ys fun o=>?_
  exact ⟨rfl,o.sub⟩
theorem I38 (c k:Nat) (F:Fr) (X:CX) (rc:RecS) (ok:FrOk F) (hk:O6 rc.kind=8):Ct A3 L1 [P0 c,.agg ⟨G8 rc⟩,.func (.func Aw4) ⟨[]⟩ ⟨[]⟩] [cmC c k F X] fun v own =>
  v=.tuple ⟨[.agg ⟨A69 (M0 J7 .zero X rc).1.1⟩,int (M0 J7 .zero X rc).1.2]⟩∧own [cmC c k F (M0 J7 .zero X rc).2]:=by
 refine Ct.of As8 rfl fun h r=>Tr.eq (Du1 ..) ?_;refine Je ?_
 (refine Ja ?_;intros)
 refine Yc (Er6 c k F X rc ok) ?_
 rintro v h (⟨l,a,cp,hr,hl,rfl,o⟩|⟨hr,rfl,o⟩)
 ·refine (?_:Tr _ _ _ _) o
  refine Je ?_
  have e:M0 J7 .zero X rc=(J7 l,if (J7 l).2=2 then { X with bad:=X.bad++[rc] } else X):=by unfold M0;rw [hr]
  have hb:=Eo5 hr
  rw [e]
  rw [hk] at hl
  rw [hl]
  (refine Ja ?_;intros)
  refine Yc (Ic9 a cp l hl) ?_;rintro _ h ⟨rfl,o⟩<;>(refine Jf o ?_;intros)
  by_cases h2:(J7 l).2=2
  ·refine Yt (by simpa using h2) ?_
   have hz:=In3 l (by omega)
   simp only [if_pos h2]
   refine A9 (cmC c k F X) fun u=>?_;refine Je ?_
   refine A9 (N4 c k F.env F.caps X.bad) fun ⟨ca,cn,mb⟩=>?_;refine Je ?_
   (refine Ja ?_;intros)
   rw [Bp0,if_neg hb]
   (refine Ja ?_;intros)
   rw [Ek2 hb]
   (refine Ja ?_;intros)
   rw [D41 hb]
   (refine Ja ?_;intros)
   rw [Dk6 X.bad 0 X.bad.length _ 0 rfl (by omega),Nat.zero_add]
   (refine Ja ?_;intros)
   rw [Es6]
   refine Tr.jmp As8 (Tr.eq (A88 ..) ?_);(try simp only[Nr,Nl,wl,Nat.reduceAdd,Nat.reduceMul,Int.reduceToNat])
   refine Yt (by rw [bne_iff_ne];omega) ?_
   (refine Ja ?_;intros)
   rw [show X.bad.length+1=(X.bad++[rc]).length by simp]
   refine A4 (N4 c k F.env F.caps (X.bad++[rc])) ⟨ca,cn,mb⟩ ?_;refine Je ?_
   refine A4 (cmC c k F { X with bad:=X.bad++[rc] }) () ?_;refine Je ?_
   refine Ys fun o=>?_
   exact ⟨by rw [hz]<;>rfl,o.sub⟩
  ·refine Yf (by simpa using h2) ?_
   simp only [if_neg h2]
   refine Tr.jmp As8 (Tr.eq (A88 ..) ?_);(try simp only[Nr,Nl,wl,Nat.reduceAdd,Nat.reduceMul,Int.reduceToNat])
   by_cases h1:(J7 l).2=1
   ·refine Yf (by simpa using h1) ?_
    (refine Ja ?_;intros)
    refine Ys fun o=>?_
    exact ⟨rfl,o.sub⟩
   ·refine Yt (by simpa using h1) ?_
    (refine Ja ?_;intros)
    refine Ys fun o=>?_
    exact ⟨by rw [In3 l h1]<;>rfl,o.sub⟩
 ·refine (?_:Tr _ _ _ _) o
  refine Je ?_
  have e:M0 J7 .zero X rc=((.zero,2),X):=by unfold M0;rw [hr]
  rw [e]
  (refine Ja ?_;intros)
  refine Ys fun o=>?_
  exact ⟨rfl,o.sub⟩
theorem H44 (c k:Nat) (F:Fr) (X:CX) (rc:RecS) (ok:FrOk F) (hk:O6 rc.kind=40):Ct A3 I7 [P0 c,.agg ⟨G8 rc⟩,.func (.func Aq5) ⟨[]⟩ ⟨[]⟩] [cmC c k F X] fun v own =>
  v=.tuple ⟨[.agg ⟨E9 (M0 D7 .zero X rc).1.1⟩,int (M0 D7 .zero X rc).1.2]⟩∧own [cmC c k F (M0 D7 .zero X rc).2]:=by
 refine Ct.of Ar6 rfl fun h r=>Tr.eq (Dr7 ..) ?_;refine Je ?_
 (refine Ja ?_;intros)
 refine Yc (Er6 c k F X rc ok) ?_
 rintro v h (⟨l,a,cp,hr,hl,rfl,o⟩|⟨hr,rfl,o⟩)
 ·refine (?_:Tr _ _ _ _) o
  refine Je ?_
  have e:M0 D7 .zero X rc=(D7 l,if (D7 l).2=2 then { X with bad:=X.bad++[rc] } else X):=by unfold M0;rw [hr]
  have hb:=Eo5 hr
  rw [e]
  rw [hk] at hl
  rw [hl]
  (refine Ja ?_;intros)
  refine Yc (H93 a cp l hl) ?_;rintro _ h ⟨rfl,o⟩<;>(refine Jf o ?_;intros)
  by_cases h2:(D7 l).2=2
  ·refine Yt (by simpa using h2) ?_
   have hz:=Il4 l (by omega)
   simp only [if_pos h2]
   refine A9 (cmC c k F X) fun u=>?_;refine Je ?_
   refine A9 (N4 c k F.env F.caps X.bad) fun ⟨ca,cn,mb⟩=>?_;refine Je ?_
   (refine Ja ?_;intros)
   rw [Bp0,if_neg hb]
   (refine Ja ?_;intros)
   rw [Ek2 hb]
   (refine Ja ?_;intros)
   rw [D41 hb]
   (refine Ja ?_;intros)
   rw [Dk6 X.bad 0 X.bad.length _ 0 rfl (by omega),Nat.zero_add]
   (refine Ja ?_;intros)
   rw [Es6]
   refine Tr.jmp Ar6 (Tr.eq (Bb0 ..) ?_);(try simp only[Nr,Nl,wl,Nat.reduceAdd,Nat.reduceMul,Int.reduceToNat])
   refine Yt (by rw [bne_iff_ne];omega) ?_
   (refine Ja ?_;intros)
   rw [show X.bad.length+1=(X.bad++[rc]).length by simp]
   refine A4 (N4 c k F.env F.caps (X.bad++[rc])) ⟨ca,cn,mb⟩ ?_;refine Je ?_
   refine A4 (cmC c k F { X with bad:=X.bad++[rc] }) () ?_;refine Je ?_
   refine Ys fun o=>?_
   exact ⟨by rw [hz]<;>rfl,o.sub⟩
  ·refine Yf (by simpa using h2) ?_
   simp only [if_neg h2]
   refine Tr.jmp Ar6 (Tr.eq (Bb0 ..) ?_);(try simp only[Nr,Nl,wl,Nat.reduceAdd,Nat.reduceMul,Int.reduceToNat])
   by_cases h1:(D7 l).2=1
   ·refine Yf (by simpa using h1) ?_
    (refine Ja ?_;intros)
    refine Ys fun o=>?_
    exact ⟨rfl,o.sub⟩
   ·refine Yt (by simpa using h1) ?_
    (refine Ja ?_;intros)
    refine Ys fun o=>?_
    exact ⟨by rw [Il4 l h1]<;>rfl,o.sub⟩
 ·refine (?_:Tr _ _ _ _) o
  refine Je ?_
  have e:M0 D7 .zero X rc=((.zero,2),X):=by unfold M0;rw [hr]
  rw [e]
  (refine Ja ?_;intros)
  refine Ys fun o=>?_
  exact ⟨rfl,o.sub⟩
def E42 (g:Int):List UInt8:=[b8 g,211,Bd1 [b8 g,211],0]
def S5 (l:List UInt8):Int × Int:=if byI l 0<8∧E42 (byI l 0)=l then (byI l 0,1) else (0,2)
theorem He0 (g:Int):Ct A3 At7 [int g] [] fun v own =>
  (0≤g∧g<8∧∃ a c,v=.tuple ⟨[.slice a 4 c,.bool true]⟩∧own [slC false A1 1 a 4 c (A0 (E42 g))])∨(¬ (0≤g∧g<8)∧v=.tuple ⟨[.slice none 0 0,.bool false]⟩∧own []):=by
 refine Ct.of Ep4 rfl fun h r=>Tr.eq (Eu1 ..) ?_;refine Je ?_
 (refine Ja ?_;intros)
 by_cases hg:0≤g∧g<8
 ·refine Yf (by simp;omega) ?_
  rw [A13]
  refine Yn fun b h=>?_
  rw [show ([.int .u8 ((b8 g).toNat:Int),.int .u8 211]:List Value)=A0 [b8 g,211] from rfl]
  refine Ai6 0 rfl 1 2 rfl (by omega) ?_
  refine Je ?_
  refine Tr.pcall (Gv3 (slC false A1 1 (some ⟨b,0,none⟩) 2 2 (A0 [b8 g,211])) (some ⟨b,0,none⟩) false 2 2 2 [b8 g,211] 2 (by simp) (by simp [A5])) ?_
  (refine Ja ?_;intros)
  rw [show List.take 2 [b8 g,211]=[b8 g,211] from rfl,D18]
  refine Tr.xApd ⟨rfl,rfl,by simp [A5]⟩ fun a' c' h'=>?_
  refine Je ?_
  refine Ys fun o=>?_
  exact .inl ⟨hg.1,hg.2,a',c',rfl,(show Own h' (_::slC false A1 1 a' 4 c' (A0 (E42 g))::_) from o).sub⟩
 ·refine Yt (by simp;omega) ?_
  refine Ys fun o=>?_
  exact .inr ⟨hg,rfl,o.sub⟩
theorem I49 (l:List UInt8):∀ (m i:Nat) (r:List UInt8),l.length-i=m→ByteArray.toList.loop ⟨⟨l⟩⟩ i r=r.reverse++l.drop i:=by
 intro m
 induction m with
 | zero =>
  intro i r hm
  unfold ByteArray.toList.loop
  rw [if_neg (show ¬ i<(ByteArray.mk ⟨l⟩).size by show ¬ i<l.length;omega),List.drop_eq_nil_of_le (by omega)];simp
 | succ m ih =>
  intro i r hm
  have hlt:i<l.length:=by omega
  unfold ByteArray.toList.loop
  rw [if_pos (show i<(ByteArray.mk ⟨l⟩).size from hlt),ih (i+1) _ (by omega),List.drop_eq_getElem_cons hlt]
  have:(ByteArray.mk ⟨l⟩).get! i=l[i]:=by
   show (Array.mk l)[i]! = l[i]
   simp [hlt]
  rw [this];simp
theorem Ai9 (l:List UInt8):(ByteArray.mk ⟨l⟩).toList=l:=by
 unfold ByteArray.toList
 rw [I49 l _ 0 [] rfl];simp
theorem Hx3 (pb:HP) (ro:Bool) (a:Option Addr) (c:Nat) (l:List UInt8) (hl:l.length=4) [ks:IsSl pb a ro A1 1 4 c (A0 l)]:Ct A3 Ai5 [.slice a 4 c] [pb] fun v own=>v=.tuple ⟨[int (S5 l).1,int (S5 l).2]⟩∧own [pb]:=by
 refine Ct.of Gg2 rfl fun h r=>Tr.eq (Gf4 ..) ?_;refine Je ?_
 refine Yf rfl ?_
 (refine Ja ?_;intros;repeat(refine Gw ?_;rintro px rfl;refine Ja ?_;intros))
 refine Tr.xIntS (v:=byI l 0) (Ac7 (by omega)) ?_
 simp only [byI,Ab6]
 refine Yc (He0 (byI l 0)) ?_
 rintro v h (⟨h1,h2,a1,c1,rfl,o⟩|⟨hn,rfl,o⟩)
 ·refine (?_:Tr _ _ _ _) o
  refine Je ?_
  (refine Ja ?_;intros)
  rw [Ai9,Ai9]
  by_cases he:E42 (byI l 0)=l
  ·have e:S5 l=(byI l 0,1):=by unfold S5;rw [if_pos ⟨h2,he⟩]
   refine Yf (by simp [he]) ?_
   (refine Ja ?_;intros)
   refine Tr.xIntS (v:=byI l 0) (Ac7 (by omega)) ?_
   refine Ys fun o=>?_
   rw [e];exact ⟨by simp only [byI,Ab6],o.sub⟩
  ·have e:S5 l=(0,2):=by unfold S5;rw [if_neg (fun hh=>he hh.2)]
   refine Yt (by simp [he]) ?_
   refine Ys fun o=>?_
   rw [e];exact ⟨rfl,o.sub⟩
 ·refine (?_:Tr _ _ _ _) o
  refine Je ?_
  (refine Jb ?_;intros)
  refine Yb (Yt rfl ?_)
  refine Ys fun o=>(?_:Tr _ _ _ _) o;refine Je ?_
  (refine Ja ?_;intros)
  refine Ys fun o=>?_
  exact ⟨by unfold S5;rw [if_neg (by simp only [byI] at *;omega)],o.sub⟩
theorem Ig1 (a:Option Addr) (c:Nat) (l:List UInt8) (hl:l.length=4):Ct A3 Ai5 [.slice a 4 c] [slC false A1 1 a 4 c (A0 l)] fun v own=>v=.tuple ⟨[int (S5 l).1,int (S5 l).2]⟩∧own [slC false A1 1 a 4 c (A0 l)]:=Hx3 (slC false A1 1 a 4 c (A0 l)) false a c l hl
theorem Il0 (l:List UInt8) (h:(S5 l).2≠1):(S5 l).1=0:=by
 unfold S5 at *;split<;>simp_all
theorem I56 (c k:Nat) (F:Fr) (X:CX) (rc:RecS) (ok:FrOk F) (hk:O6 rc.kind=4):Ct A3 U3 [P0 c,.agg ⟨G8 rc⟩,.func (.func Ai5) ⟨[]⟩ ⟨[]⟩] [cmC c k F X] fun v own =>
  v=.tuple ⟨[int (M0 S5 0 X rc).1.1,int (M0 S5 0 X rc).1.2]⟩∧own [cmC c k F (M0 S5 0 X rc).2]:=by
 refine Ct.of Be7 rfl fun h r=>Tr.eq (Eo9 ..) ?_;refine Je ?_
 (refine Ja ?_;intros)
 refine Yc (Er6 c k F X rc ok) ?_
 rintro v h (⟨l,a,cp,hr,hl,rfl,o⟩|⟨hr,rfl,o⟩)
 ·refine (?_:Tr _ _ _ _) o
  refine Je ?_
  have e:M0 S5 0 X rc=(S5 l,if (S5 l).2=2 then { X with bad:=X.bad++[rc] } else X):=by unfold M0;rw [hr]
  have hb:=Eo5 hr
  rw [e]
  rw [hk] at hl
  rw [hl]
  (refine Ja ?_;intros)
  refine Yc (Ig1 a cp l hl) ?_;rintro _ h ⟨rfl,o⟩<;>(refine Jf o ?_;intros)
  by_cases h2:(S5 l).2=2
  ·refine Yt (by simpa using h2) ?_
   have hz:=Il0 l (by omega)
   simp only [if_pos h2]
   refine A9 (cmC c k F X) fun u=>?_;refine Je ?_
   refine A9 (N4 c k F.env F.caps X.bad) fun ⟨ca,cn,mb⟩=>?_;refine Je ?_
   (refine Ja ?_;intros)
   rw [Bp0,if_neg hb]
   (refine Ja ?_;intros)
   rw [Ek2 hb]
   (refine Ja ?_;intros)
   rw [D41 hb]
   (refine Ja ?_;intros)
   rw [Dk6 X.bad 0 X.bad.length _ 0 rfl (by omega),Nat.zero_add]
   (refine Ja ?_;intros)
   rw [Es6]
   refine Tr.jmp Be7 (Tr.eq (Bu0 ..) ?_);(try simp only[Nr,Nl,wl,Nat.reduceAdd,Nat.reduceMul,Int.reduceToNat])
   refine Yt (by rw [bne_iff_ne];omega) ?_
   rw [show X.bad.length+1=(X.bad++[rc]).length by simp]
   refine A4 (N4 c k F.env F.caps (X.bad++[rc])) ⟨ca,cn,mb⟩ ?_;refine Je ?_
   refine A4 (cmC c k F { X with bad:=X.bad++[rc] }) () ?_;refine Je ?_
   refine Ys fun o=>?_
   exact ⟨by rw [hz],o.sub⟩
  ·refine Yf (by simpa using h2) ?_
   simp only [if_neg h2]
   refine Tr.jmp Be7 (Tr.eq (Bu0 ..) ?_);(try simp only[Nr,Nl,wl,Nat.reduceAdd,Nat.reduceMul,Int.reduceToNat])
   by_cases h1:(S5 l).2=1
   ·refine Yf (by simpa using h1) ?_
    refine Ys fun o=>?_
    exact ⟨rfl,o.sub⟩
   ·refine Yt (by simpa using h1) ?_
    refine Ys fun o=>?_
    exact ⟨by rw [Il0 l h1],o.sub⟩
 ·refine (?_:Tr _ _ _ _) o
  refine Je ?_
  have e:M0 S5 0 X rc=((0,2),X):=by unfold M0;rw [hr]
  rw [e]
  (refine Ja ?_;intros)
  refine Ys fun o=>?_
  exact ⟨rfl,o.sub⟩
abbrev Dj7 (X:CX) (i:Int):(ProcS × Int) × CX:=M0 H2 .zero X ⟨1,i⟩
abbrev D52 (X:CX) (i:Int):(FileS × Int) × CX:=M0 J7 .zero X ⟨2,i⟩
abbrev D77 (X:CX) (i:Int):(PipeS × Int) × CX:=M0 D7 .zero X ⟨3,i⟩
abbrev Ej9 (X:CX):(PipeS × Int) × CX:=M0 D7 .zero X ⟨4,0⟩
abbrev Ei5 (X:CX):(Int × Int) × CX:=M0 S5 0 X ⟨5,0⟩
abbrev B27 (X:CX) (i:Int) (p:ProcS):Bool × CX:=wrX X ⟨1,i⟩ (M6 p) (okS p)
abbrev Bo8 (X:CX) (i:Int) (p:FileS):Bool × CX:=wrX X ⟨2,i⟩ (Ag6 p) (okF p)
abbrev Gp5 (X:CX) (i:Int) (p:PipeS):Bool × CX:=wrX X ⟨3,i⟩ (D3 p) (okP p)
abbrev Ds5 (X:CX) (rc:RecS):Bool × CX:=wrX X rc (List.replicate (O6 rc.kind) 0) true
theorem E53 (X:CX) (rc:RecS) (b:List UInt8):wrX X rc b false=(false,X):=by
 unfold wrX;split<;>simp
theorem Ii9 (c k:Nat) (F:Fr) (X:CX) (rc:RecS) (ok:FrOk F):Ct A3 Ak7 [P0 c,.agg ⟨G8 rc⟩] [cmC c k F X] fun v own =>
  v=.bool (Ds5 X rc).1∧own [cmC c k F (Ds5 X rc).2]:=by
 refine Ct.of D30 rfl fun h r=>Tr.eq (D39 ..) ?_;refine Je ?_
 refine A9 (cmC c k F X) fun u=>?_;refine Je ?_
 refine L8 2 rfl fun f=>?_
 (repeat' first|refine Gu ?_|(with_reducible first|refine Gn fun b h=>?_|apply Gx|apply Gy|rintro px rfl|apply Gw|refine fun(h:H)=>?_|intro hb)|refine Gs ?_|refine Gt ?_|exact Gz rfl|fail)
 refine Yc (E38 c k F.env F.caps X.bad rc ok.small ok.ne) ?_;rintro _ h ⟨rfl,o⟩<;>(refine (?_:Tr _ _ _ _) o;refine Je ?_;(repeat' first|refine Gu ?_|(with_reducible first|refine Gn fun b h=>?_|apply Gx|apply Gy|rintro px rfl|apply Gw|refine fun(h:H)=>?_|intro hb)|refine Gs ?_|refine Gt ?_|exact Gz rfl|fail))
 have em:=f.mlen ok
 cases hp:E3 F.caps.length rc with
 | none =>
  (repeat' first|refine Gu ?_|(with_reducible first|refine Gn fun b h=>?_|apply Gx|apply Gy|rintro px rfl|apply Gw|refine fun(h:H)=>?_|intro hb)|refine Gs ?_|refine Gt ?_|exact Gz rfl|fail)
  rw [show I0 (Int.toNat 0) [.int .u8 0]=A0 [] from rfl]
  refine Ai6 0 rfl 1 0 rfl (by omega) ?_
  refine Je ?_
  refine A4 (cmC c k F X) () ?_;refine Je ?_
  refine Yc (Dl0 c k F X rc ok [] false (some ⟨b,0,none⟩) 0 (by simp)) ?_;rintro _ h ⟨rfl,o⟩<;>(refine (?_:Tr _ _ _ _) o;refine Je ?_;(repeat' first|refine Gu ?_|(with_reducible first|refine Gn fun b h=>?_|apply Gx|apply Gy|rintro px rfl|apply Gw|refine fun(h:H)=>?_|intro hb)|refine Gs ?_|refine Gt ?_|exact Gz rfl|fail))
  refine Ys fun o=>?_
  have e:Ds5 X rc=(false,X):=by unfold Ds5 wrX;rw [em,hp]
  rw [E53] at o
  rw [e,E53]
  exact ⟨by first|rfl|trivial,o.sub⟩
 | some p =>
  obtain ⟨j,a,n⟩:=p
  have hn:=B80 hp
  subst hn
  have h40:O6 rc.kind≤40:=by unfold O6;(repeat' split)<;>omega
  (repeat' first|refine Gu ?_|(with_reducible first|refine Gn fun b h=>?_|apply Gx|apply Gy|rintro px rfl|apply Gw|refine fun(h:H)=>?_|intro hb)|refine Gs ?_|refine Gt ?_|exact Gz rfl|fail)
  refine Tr.ck ⟨by omega,by omega,by simp only [A5];omega⟩ ?_
  refine Yn fun b1 h=>?_
  rw [Int.toNat_natCast,show I0 (O6 rc.kind) [.int .u8 0]=A0 (List.replicate (O6 rc.kind) 0) by simp [I0,A0]]
  refine Ai6 0 rfl 1 (O6 rc.kind) (by simp [A0]) (by omega) ?_
  refine Je ?_
  refine A4 (cmC c k F X) () ?_;refine Je ?_
  have J:=Dl0 c k F X rc ok (List.replicate (O6 rc.kind) 0) true (some ⟨b1,0,none⟩) (O6 rc.kind) (by simp)
  rw [List.length_replicate] at J
  refine Yc (J) ?_;rintro _ h ⟨rfl,o⟩<;>(refine (?_:Tr _ _ _ _) o;refine Je ?_;(repeat' first|refine Gu ?_|(with_reducible first|refine Gn fun b h=>?_|apply Gx|apply Gy|rintro px rfl|apply Gw|refine fun(h:H)=>?_|intro hb)|refine Gs ?_|refine Gt ?_|exact Gz rfl|fail))
  refine Ys fun o=>?_
  exact ⟨rfl,o.sub⟩
theorem Gs7 (c k:Nat) (F:Fr) (X:CX) (rc:RecS) (ok:FrOk F):Ct A3 O1 [P0 c,.agg ⟨G8 rc⟩,.slice none 0 0,.bool false] [cmC c k F X] fun v own=>v=.bool false∧own [cmC c k F X]:=by
 intro h r o
 have o1:Own h (slC false A1 1 none 0 0 (A0 [])::cmC c k F X::r):=o.slNil false A1 (by omega)
 obtain ⟨v,h',e,rfl,o2⟩:=Dl0 c k F X rc ok [] false none 0 (by simp) h r (o1.perm (.swap _ _ _))
 rw [E53] at e o2
 exact ⟨_,h',e,rfl,o2.sub⟩
theorem Eq4 (i:Int):Ct A3 Aw2 [int i] [] fun v own=>v=.agg ⟨G8 ⟨1,i⟩⟩∧own []:=by
 refine Ct.of G32 rfl fun h r=>Tr.eq (G09 ..) ?_;refine Je ?_
 (refine Ja ?_;intros)
 refine Ys fun o=>?_
 exact ⟨rfl,o.sub⟩
theorem Go8 (i:Int):Ct A3 Bb1 [int i] [] fun v own=>v=.agg ⟨G8 ⟨2,i⟩⟩∧own []:=by
 refine Ct.of G39 rfl fun h r=>Tr.eq (G29 ..) ?_;refine Je ?_
 (refine Ja ?_;intros)
 refine Ys fun o=>?_
 exact ⟨rfl,o.sub⟩
theorem It2 (i:Int):Ct A3 Bs4 [int i] [] fun v own=>v=.agg ⟨G8 ⟨3,i⟩⟩∧own []:=by
 refine Ct.of G59 rfl fun h r=>Tr.eq (G37 ..) ?_;refine Je ?_
 (refine Ja ?_;intros)
 refine Ys fun o=>?_
 exact ⟨rfl,o.sub⟩
theorem D03 (c k:Nat) (F:Fr) (X:CX) (ok:FrOk F) (i:Int):Ct A3 I9 [P0 c,int i] [cmC c k F X] fun v own=>v=.tuple ⟨[.agg ⟨B6 (Dj7 X i).1.1⟩,int (Dj7 X i).1.2]⟩∧own [cmC c k F (Dj7 X i).2]:=by
 refine Ct.of Ec7 rfl fun h r=>Tr.eq (Eb3 ..) ?_;refine Je ?_
 (refine Ja ?_;intros)
 refine Yc (Eq4 i) ?_;rintro _ h ⟨rfl,o⟩<;>(refine Jf o ?_;intros)
 refine Yc (I75 c k F X ⟨1,i⟩ ok rfl) ?_;rintro _ h ⟨rfl,o⟩<;>(refine Jf o ?_;intros)
 refine Ys fun o=>?_
 exact ⟨rfl,o.sub⟩
theorem Gm3 (c k:Nat) (F:Fr) (X:CX) (ok:FrOk F) (i:Int):Ct A3 U9 [P0 c,int i] [cmC c k F X] fun v own=>v=.tuple ⟨[.agg ⟨A69 (D52 X i).1.1⟩,int (D52 X i).1.2]⟩∧own [cmC c k F (D52 X i).2]:=by
 refine Ct.of Eb1 rfl fun h r=>Tr.eq (Ed9 ..) ?_;refine Je ?_
 (refine Ja ?_;intros)
 refine Yc (Go8 i) ?_;rintro _ h ⟨rfl,o⟩<;>(refine Jf o ?_;intros)
 refine Yc (I38 c k F X ⟨2,i⟩ ok rfl) ?_;rintro _ h ⟨rfl,o⟩<;>(refine Jf o ?_;intros)
 refine Ys fun o=>?_
 exact ⟨rfl,o.sub⟩
theorem Ir2 (c k:Nat) (F:Fr) (X:CX) (ok:FrOk F) (i:Int):Ct A3 An2 [P0 c,int i] [cmC c k F X] fun v own=>v=.tuple ⟨[.agg ⟨E9 (D77 X i).1.1⟩,int (D77 X i).1.2]⟩∧own [cmC c k F (D77 X i).2]:=by
 refine Ct.of Eb0 rfl fun h r=>Tr.eq (Ea9 ..) ?_;refine Je ?_
 (refine Ja ?_;intros)
 refine Yc (It2 i) ?_;rintro _ h ⟨rfl,o⟩<;>(refine Jf o ?_;intros)
 refine Yc (H44 c k F X ⟨3,i⟩ ok rfl) ?_;rintro _ h ⟨rfl,o⟩<;>(refine Jf o ?_;intros)
 refine Ys fun o=>?_
 exact ⟨rfl,o.sub⟩
theorem Ir6 (c k:Nat) (F:Fr) (X:CX) (ok:FrOk F):Ct A3 An5 [P0 c] [cmC c k F X] fun v own=>v=.tuple ⟨[.agg ⟨E9 (Ej9 X).1.1⟩,int (Ej9 X).1.2]⟩∧own [cmC c k F (Ej9 X).2]:=by
 refine Ct.of Ea3 rfl fun h r=>Tr.eq (Ed1 ..) ?_;refine Je ?_
 (refine Ja ?_;intros)
 refine Yc (H44 c k F X ⟨4,0⟩ ok rfl) ?_;rintro _ h ⟨rfl,o⟩<;>(refine Jf o ?_;intros)
 refine Ys fun o=>?_
 exact ⟨rfl,o.sub⟩
theorem Ih8 (c k:Nat) (F:Fr) (X:CX) (ok:FrOk F):Ct A3 Ak8 [P0 c] [cmC c k F X] fun v own=>v=.tuple ⟨[int (Ei5 X).1.1,.bool ((Ei5 X).1.2==1)]⟩∧own [cmC c k F (Ei5 X).2]:=by
 refine Ct.of D36 rfl fun h r=>Tr.eq (D31 ..) ?_;refine Je ?_
 (refine Ja ?_;intros)
 refine Yc (I56 c k F X ⟨5,0⟩ ok rfl) ?_;rintro _ h ⟨rfl,o⟩<;>(refine Jf o ?_;intros)
 refine Ys fun o=>?_
 exact ⟨rfl,o.sub⟩
theorem D24 (f:FileS):(Ag6 f).length=8:=rfl
theorem Hy8 (c k:Nat) (F:Fr) (X:CX) (ok:FrOk F) (i:Int) (p:ProcS):Ct A3 V4 [P0 c,int i,.agg ⟨B6 p⟩] [cmC c k F X] fun v own=>v=.bool (B27 X i p).1∧own [cmC c k F (B27 X i p).2]:=by
 refine Ct.of Dt7 rfl fun h r=>Tr.eq (Dr4 ..) ?_;refine Je ?_
 (refine Ja ?_;intros)
 refine Yc (Gv9 p) ?_
 rintro v h (⟨hk,a,rfl,o⟩|⟨hk,rfl,o⟩)
 ·refine (?_:Tr _ _ _ _) o
  refine Je ?_
  (refine Ja ?_;intros)
  refine Yc (Eq4 i) ?_;rintro _ h ⟨rfl,o⟩<;>(refine Jf o ?_;intros)
  have J:=Dl0 c k F X ⟨1,i⟩ ok (M6 p) true a 24 (fun _=>Bg1 p)
  rw [Bg1] at J
  refine Yc (J) ?_;rintro _ h ⟨rfl,o⟩<;>(refine Jf o ?_;intros)
  refine Ys fun o=>?_
  unfold B27;rw [hk]
  exact ⟨rfl,o.sub⟩
 ·refine (?_:Tr _ _ _ _) o
  refine Je ?_
  (refine Ja ?_;intros)
  refine Yc (Eq4 i) ?_;rintro _ h ⟨rfl,o⟩<;>(refine Jf o ?_;intros)
  refine Yc (Gs7 c k F X ⟨1,i⟩ ok) ?_;rintro _ h ⟨rfl,o⟩<;>(refine Jf o ?_;intros)
  refine Ys fun o=>?_
  unfold B27;rw [hk,E53]
  exact ⟨rfl,o.sub⟩
theorem Hy1 (c k:Nat) (F:Fr) (X:CX) (ok:FrOk F) (i:Int) (p:FileS):Ct A3 Af4 [P0 c,int i,.agg ⟨A69 p⟩] [cmC c k F X] fun v own=>v=.bool (Bo8 X i p).1∧own [cmC c k F (Bo8 X i p).2]:=by
 refine Ct.of Du2 rfl fun h r=>Tr.eq (Dt5 ..) ?_;refine Je ?_
 (refine Ja ?_;intros)
 refine Yc (Gz3 p) ?_
 rintro v h (⟨hk,a,rfl,o⟩|⟨hk,rfl,o⟩)
 ·refine (?_:Tr _ _ _ _) o
  refine Je ?_
  (refine Ja ?_;intros)
  refine Yc (Go8 i) ?_;rintro _ h ⟨rfl,o⟩<;>(refine Jf o ?_;intros)
  have J:=Dl0 c k F X ⟨2,i⟩ ok (Ag6 p) true a 8 (fun _=>D24 p)
  rw [D24] at J
  refine Yc (J) ?_;rintro _ h ⟨rfl,o⟩<;>(refine Jf o ?_;intros)
  refine Ys fun o=>?_
  unfold Bo8;rw [hk]
  exact ⟨rfl,o.sub⟩
 ·refine (?_:Tr _ _ _ _) o
  refine Je ?_
  (refine Ja ?_;intros)
  refine Yc (Go8 i) ?_;rintro _ h ⟨rfl,o⟩<;>(refine Jf o ?_;intros)
  refine Yc (Gs7 c k F X ⟨2,i⟩ ok) ?_;rintro _ h ⟨rfl,o⟩<;>(refine Jf o ?_;intros)
  refine Ys fun o=>?_
  unfold Bo8;rw [hk,E53]
  exact ⟨rfl,o.sub⟩
theorem Hg9 (c k:Nat) (F:Fr) (X:CX) (ok:FrOk F) (i:Int):Ct A3 O2 [P0 c,int i] [cmC c k F X] fun v own=>v=.bool (Ds5 X ⟨1,i⟩).1∧own [cmC c k F (Ds5 X ⟨1,i⟩).2]:=by
 refine Ct.of Dp0 rfl fun h r=>Tr.eq (Do5 ..) ?_;refine Je ?_
 refine Yc (Eq4 i) ?_;rintro _ h ⟨rfl,o⟩<;>(refine Jf o ?_;intros)
 refine Yc (Ii9 c k F X ⟨1,i⟩ ok) ?_;rintro _ h ⟨rfl,o⟩<;>(refine Jf o ?_;intros)
 refine Ys fun o=>?_
 exact ⟨rfl,o.sub⟩
def Al0 (f:CX→Int→CX):Nat→Int→CX→CX
 | 0,_,X=>X
 | m+1,i,X=>Al0 f m (i+1) (f X i)
def E35 (X:CX):CX:=(Ei5 (Ej9 X).2).2
def Gv4 (nc:Nat) (X:CX):CX:=E35 (Al0 (fun X i=>(D77 X i).2) (3+nc) 0 X)
def Gs8 (nc:Nat) (X:CX):CX:=Gv4 nc (Al0 (fun X i=>(D52 X i).2) 12 0 X)
def lookN (nc:Nat) (X:CX):CX:=Gs8 nc (Al0 (fun X i=>(Dj7 X i).2) 8 0 X)
def D68 (X:CX):CX:=lookN X.m.length X
theorem H82 (c k:Nat) (F:Fr) (ok:FrOk F):∀ (m:Nat) (i:Int) (X:CX),0≤i→i+m=3+F.caps.length →
  CtJ E2 B8 Ae9 [(0,P0 c),(20,int (3+F.caps.length)),(21,int i)] [cmC c k F X] fun v own=>v=.tuple ⟨[]⟩∧own [cmC c k F (E35 (Al0 (fun X i=>(D77 X i).2) m i X))]:=by
 have hs:=ok.small
 intro m
 induction m with
 | zero =>
  intro i X h0 hi
  refine CtJ.of P5 fun h r=>Tr.eq (Bl9 ..) ?_;refine Je ?_
  refine Yf (by simp;omega) ?_
  refine Yc (Ir6 c k F X ok) ?_;rintro _ h ⟨rfl,o⟩<;>(refine Jf o ?_;intros)
  refine Yc (Ih8 c k F (Ej9 X).2 ok) ?_;rintro _ h ⟨rfl,o⟩<;>(refine Jf o ?_;intros)
  refine Ys fun o=>?_
  exact ⟨rfl,o⟩
 | succ m ih =>
  intro i X h0 hi
  have e1:=wI i
  refine CtJ.of P5 fun h r=>Tr.eq (Bl9 ..) ?_;refine Je ?_
  refine Yt (by simp;omega) ?_
  refine Yc (Ir2 c k F X ok i) ?_;rintro _ h ⟨rfl,o⟩<;>(refine Jf o ?_;intros)
  rw [e1]
  refine Yr (ih (i+1) (D77 X i).2 (by omega) (by omega)) ?_
  rintro _ h ⟨rfl,o⟩
  exact ⟨rfl,o⟩
theorem Ia5 (c k:Nat) (F:Fr) (ok:FrOk F):∀ (m:Nat) (i:Int) (X:CX),0≤i→i+m=12 →
  CtJ E2 B8 Ae8 [(0,P0 c),(12,int i)] [cmC c k F X] fun v own=>v=.tuple ⟨[]⟩∧own [cmC c k F (Gv4 F.caps.length (Al0 (fun X i=>(D52 X i).2) m i X))]:=by
 have hs:=ok.small
 intro m
 induction m with
 | zero =>
  intro i X h0 hi
  refine CtJ.of P5 fun h r=>Tr.eq (Bl0 ..) ?_;refine Je ?_
  refine Yf (by simp;omega) ?_
  refine A9 (cmC c k F X) fun u=>?_;refine Je ?_
  refine Tr.pcall (Gn6 c k F.env F.caps X.bad 3 ok.small) ?_;refine Je ?_;(refine Ja ?_;intros)
  refine A4 (cmC c k F X) () ?_;refine Je ?_
  refine Yr (H82 c k F ok (3+F.caps.length) 0 X (by omega) (by omega)) ?_
  rintro _ h ⟨rfl,o⟩
  exact ⟨rfl,o⟩
 | succ m ih =>
  intro i X h0 hi
  have e1:=wI i
  refine CtJ.of P5 fun h r=>Tr.eq (Bl0 ..) ?_;refine Je ?_
  refine Yt (by simp;omega) ?_
  refine Yc (Gm3 c k F X ok i) ?_;rintro _ h ⟨rfl,o⟩<;>(refine Jf o ?_;intros)
  rw [e1]
  refine Yr (ih (i+1) (D52 X i).2 (by omega) (by omega)) ?_
  rintro _ h ⟨rfl,o⟩
  exact ⟨rfl,o⟩
theorem If2 (c k:Nat) (F:Fr) (ok:FrOk F):∀ (m:Nat) (i:Int) (X:CX),0≤i→i+m=8 →
  CtJ E2 B8 Af0 [(0,P0 c),(5,int i)] [cmC c k F X] fun v own=>v=.tuple ⟨[]⟩∧own [cmC c k F (Gs8 F.caps.length (Al0 (fun X i=>(Dj7 X i).2) m i X))]:=by
 intro m
 induction m with
 | zero =>
  intro i X h0 hi
  refine CtJ.of P5 fun h r=>Tr.eq (Bm0 ..) ?_;refine Je ?_
  refine Yf (by simp;omega) ?_
  refine Yr (Ia5 c k F ok 12 0 X (by omega) (by omega)) ?_
  rintro _ h ⟨rfl,o⟩
  exact ⟨rfl,o⟩
 | succ m ih =>
  intro i X h0 hi
  have e1:=wI i
  refine CtJ.of P5 fun h r=>Tr.eq (Bm0 ..) ?_;refine Je ?_
  refine Yt (by simp;omega) ?_
  refine Yc (D03 c k F X ok i) ?_;rintro _ h ⟨rfl,o⟩<;>(refine Jf o ?_;intros)
  rw [e1]
  refine Yr (ih (i+1) (Dj7 X i).2 (by omega) (by omega)) ?_
  rintro _ h ⟨rfl,o⟩
  exact ⟨rfl,o⟩
theorem H47 (c k:Nat) (F:Fr) (X:CX) (ok:FrOk F):Ct A3 B8 [P0 c] [cmC c k F X] fun v own=>v=.tuple ⟨[]⟩∧own [cmC c k F (D68 X)]:=by
 refine Ct.of P5 rfl fun h r=>Tr.eq (D97 ..) ?_;refine Je ?_
 intro o
 obtain ⟨u,o1⟩:=Own.unfold (cmC c k F X) o
 have f:=(Own.front o1 (i:=2) rfl).pure
 have e:D68 X=lookN F.caps.length X:=by unfold D68;rw [f.mlen ok]
 rw [e]
 refine (?_:Tr _ _ _ _) o
 refine Yr (If2 c k F ok 8 0 X (by omega) (by omega)) ?_
 rintro _ h ⟨rfl,o⟩
 exact ⟨rfl,o⟩
end Go.EQ
