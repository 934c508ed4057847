/- A process whose own record is bad is told EIO whatever it asks, and nobody's record is changed by it. -/
import Derived.Test.YtoegoalficgneaaGreatMf
set_option linter.all false
set_option maxRecDepth 10000
namespace Go.EQ
open Go Go.NN
theorem N9 (l:List UInt8):(A0 l).length=l.length:=by simp [A0]
theorem Ef4 {l:List UInt8} {i:Nat} {x:UInt8} (h:l[i]?=some x):(A0 l)[i]?=some (.int .u8 x.toNat):=by
 unfold A0;rw [List.getElem?_map,h];rfl
def Eo0 (n:Int) (l:List UInt8):Int:=l.foldl (fun n c=>IntKind.wrap .u8 (n+c.toNat)) n
def G40 (l:List UInt8):Int:=Eo0 (IntKind.wrap .u8 l.length) l
theorem Ip5 (p:HP) (a:Option Addr) (ro:Bool) (n c d:Nat) (l:List UInt8) [ks:IsSl p a ro A1 1 n c (A0 l)] (x:Nat) (hx:x≤l.length) (hl:l.length≤A4):∀ (m i:Nat) (acc:Int),x-i=m→i≤x →
  U3 E2 Ab9 Bt3 [(3,.int .u8 acc),(9,.slice a x d),(10,int x),(11,int i)] [p] (.int .u8 (Eo0 acc ((l.take x).drop i))):=by
 intro m
 induction m with
 | zero =>
  intro i acc hm hi
  refine U3.of Ec4 fun h r=>Tr.eq (Ej4 ..) ?_;refine Je ?_
  refine Yf (by simp;omega) ?_
  refine Ys fun o=>?_
  rw [List.drop_eq_nil_of_le (by simp;omega)];exact ⟨rfl,rfl⟩
 | succ m ih =>
  intro i acc hm hi
  have hlt:i<(l.take x).length:=by rw [List.length_take];omega
  have hp:l[i]?=some (l.take x)[i]:=by
   rw [List.getElem_take];exact List.getElem?_eq_getElem (by omega)
  have hd:(l.take x).drop i=(l.take x)[i]::(l.take x).drop (i+1):=List.drop_eq_getElem_cons hlt
  generalize (l.take x)[i]=y at hp hd
  have e1:IntKind.wrap .i64 ((i:Int)+1)=((i+1:Nat):Int):=by rw [A8];simp only [A4] at hl;omega
  refine U3.of Ec4 fun h r=>Tr.eq (Ej4 ..) ?_;refine Je ?_
  refine Yt (by simp;omega) ?_
  refine Aa5 0 rfl fun h1 h2 h3=>?_
  rw [N9] at h1
  (refine Ja ?_;intros;repeat(refine Gw ?_;rintro px rfl;refine Ja ?_;intros))
  refine Tr.xIntS (v:=y.toNat) (by simpa using Ef4 hp) ?_
  rw [e1,hd]
  exact Aa2 (ih (i+1) _ (by omega) (by omega)) (r:=r) (by simp) fun o=>⟨rfl,rfl⟩
theorem Gq8 (p:HP) (a:Option Addr) (ro:Bool) (n c d:Nat) (l:List UInt8) [ks:IsSl p a ro A1 1 n c (A0 l)] (x:Nat) (hx:x≤l.length) (hl:l.length≤A4) :
  CtP A3 Ab9 [.slice a x d] [p] (.int .u8 (G40 (l.take x))):=by
 refine CtP.of Ec4 rfl fun h r=>Tr.eq (Hx6 ..) ?_;refine Je ?_
 have e:(l.take x).length=x:=by rw [List.length_take];omega
 have J:=Ip5 p a ro n c d l x hx hl _ 0 (IntKind.wrap .u8 x) rfl (by omega)
 rw [List.drop_zero] at J
 refine Aa2 J (r:=r) (by simp) fun o=>⟨?_,rfl⟩
 unfold G40;rw [e]
def D76:Nat→List UInt8→Int
 | _,[]=>-1
 | i,x::l=>if x≠0 then i else D76 (i+1) l
theorem G99:∀ (l:List UInt8) (i:Nat),decide (D76 i l≥0)=!l.all (·==0)
 | [],i=>by simp [D76]
 | x::l,i=>by
  unfold D76
  by_cases h:x=0
  ·rw [if_neg (by simp [h]),G99 l (i+1)];simp [h]
  ·rw [if_pos h];simp [h]
theorem Je1 (x:UInt8):CtP A3 Ah2 [.int .u8 x.toNat] [] (.bool (x != 0)):=by
 refine CtP.of Gy2 rfl fun h r=>Tr.eq (Gv2 ..) ?_;refine Je ?_
 refine Ys fun o=>?_
 refine ⟨?_,rfl⟩
 congr 1
 have:((x.toNat:Int)=0)↔x=0:=by
  constructor
  ·intro h;exact UInt8.toNat.inj (by simpa using (show x.toNat=0 by omega))
  ·rintro rfl;rfl
 by_cases h:x=0
 ·subst h;rfl
 ·rw [bne_iff_ne.2 h,bne_iff_ne];intro h2;exact h (this.1 h2)
theorem Go4 (p:HP) (a:Option Addr) (ro:Bool) (c:Nat) (l:List UInt8) [ks:IsSl p a ro A1 1 l.length c (A0 l)] (hl:l.length≤A4):∀ (m i:Nat),l.length-i=m→i≤l.length →
  U3 E2 G4 R0 [(0,.slice a l.length c),(1,.func (.func Ah2) ⟨[]⟩ ⟨[]⟩),(7,int l.length),(8,int i)] [p] (int (D76 i (l.drop i))):=by
 intro m
 induction m with
 | zero =>
  intro i hm hi
  refine U3.of Ah9 fun h r=>Tr.eq (Au9 ..) ?_;refine Je ?_
  refine Yf (by simp;omega) ?_
  refine Ys fun o=>?_
  rw [List.drop_eq_nil_of_le (by omega)];exact ⟨rfl,rfl⟩
 | succ m ih =>
  intro i hm hi
  have hlt:i<l.length:=by omega
  have hp:l[i]?=some l[i]:=List.getElem?_eq_getElem hlt
  have hd:l.drop i=l[i]::l.drop (i+1):=List.drop_eq_getElem_cons hlt
  generalize l[i]=x at hp hd
  have e1:IntKind.wrap .i64 ((i:Int)+1)=((i+1:Nat):Int):=by rw [A8];simp only [A4] at hl;omega
  refine U3.of Ah9 fun h r=>Tr.eq (Au9 ..) ?_;refine Je ?_
  refine Yt (by simp;omega) ?_
  (refine Ja ?_;intros;repeat(refine Gw ?_;rintro px rfl;refine Ja ?_;intros))
  refine Tr.xIntS (v:=x.toNat) (by simpa using Ef4 hp) ?_
  (refine Ja ?_;intros)
  refine B47 (Je1 x) (r:=p::r) (by simp) ?_
  by_cases hx:x=0
  ·have:(x != 0)=false:=by simp [hx]
   rw [this]
   (refine Ja ?_;intros)
   rw [e1]
   refine Aa2 (ih (i+1) (by omega) (by omega)) (r:=r) (by simp) fun o=>?_
   rw [hd,D76,if_neg (by simp [hx])];exact ⟨by first|rfl|trivial,by first|rfl|trivial⟩
  ·have:(x != 0)=true:=by simp [hx]
   rw [this]
   (refine Ja ?_;intros)
   refine Ys fun o=>?_
   rw [hd,D76,if_pos hx];exact ⟨by first|rfl|trivial,by first|rfl|trivial⟩
theorem Iu8 (p:HP) (a:Option Addr) (ro:Bool) (c:Nat) (l:List UInt8) [ks:IsSl p a ro A1 1 l.length c (A0 l)] (hl:l.length≤A4) :
  CtP A3 Aq2 [.slice a l.length c] [p] (.bool (l.all (·==0))):=by
 have j:CtP A3 G4 [.slice a l.length c,.func (.func Ah2) ⟨[]⟩ ⟨[]⟩] [p] (int (D76 0 l)):=by
  refine CtP.of Ah9 rfl fun h r=>Tr.eq (B88 ..) ?_;refine Je ?_
  exact Aa2 (Go4 p a ro c l hl _ 0 rfl (by omega)) (r:=r) (by simp) fun o=>⟨rfl,rfl⟩
 have j2:CtP A3 Q9 [.slice a l.length c,.func (.func Ah2) ⟨[]⟩ ⟨[]⟩] [p] (.bool (!l.all (·==0))):=by
  refine CtP.of Bw6 rfl fun h r=>Tr.eq (Bw8 ..) ?_;refine Je ?_
  refine B47 j (r:=r) (by simp) ?_
  (refine Ja ?_;intros)
  refine Ys fun o=>?_
  rw [G99];exact ⟨by first|rfl|trivial,by first|rfl|trivial⟩
 refine CtP.of Hc3 rfl fun h r=>Tr.eq (He8 ..) ?_;refine Je ?_
 refine B47 j2 (r:=r) (by simp) ?_
 (refine Ja ?_;intros)
 refine Ys fun o=>?_
 exact ⟨by simp,rfl⟩
theorem Hr0 (p q:HP) (a:Option Addr) (ro:Bool) (c:Nat) (a2:Option Addr) (ro2:Bool) (c2:Nat) (l m:List UInt8) [ks:IsSl p a ro A1 1 l.length c (A0 l)] [ks2:IsSl q a2 ro2 A1 1 m.length c2 (A0 m)] (hl:l.length≤A4) (hlm:m.length=l.length):∀ (k i:Nat),l.length-i=k→i≤l.length →
  U3 E2 B9 W5 [(0,.slice a l.length c),(1,.slice a2 m.length c2),(12,int l.length),(13,int i)] [p,q] (.bool (decide (l.drop i=m.drop i))):=by
 intro k
 induction k with
 | zero =>
  intro i hm hi
  refine U3.of Aq7 fun h r=>Tr.eq (A60 ..) ?_;refine Je ?_
  refine Yf (by simp;omega) ?_
  refine Ys fun o=>?_
  rw [List.drop_eq_nil_of_le (by omega),List.drop_eq_nil_of_le (by omega)];exact ⟨rfl,rfl⟩
 | succ k ih =>
  intro i hm hi
  have hlt:i<l.length:=by omega
  have hp:l[i]?=some l[i]:=List.getElem?_eq_getElem hlt
  have hd:l.drop i=l[i]::l.drop (i+1):=List.drop_eq_getElem_cons hlt
  have hlt2:i<m.length:=by omega
  have hp2:m[i]?=some m[i]:=List.getElem?_eq_getElem hlt2
  have hd2:m.drop i=m[i]::m.drop (i+1):=List.drop_eq_getElem_cons hlt2
  generalize l[i]=x at hp hd
  generalize m[i]=y at hp2 hd2
  have e1:IntKind.wrap .i64 ((i:Int)+1)=((i+1:Nat):Int):=by rw [A8];simp only [A4] at hl;omega
  refine U3.of Aq7 fun h r=>Tr.eq (A60 ..) ?_;refine Je ?_
  refine Yt (by simp;omega) ?_
  (refine Ja ?_;intros;repeat(refine Gw ?_;rintro px rfl;refine Ja ?_;intros))
  refine Tr.xIntS (v:=x.toNat) (by simpa using Ef4 hp) ?_
  (refine Ja ?_;intros;repeat(refine Gw ?_;rintro px rfl;refine Ja ?_;intros))
  refine Tr.xIntS (v:=y.toNat) (by simpa using Ef4 hp2) ?_
  by_cases hx:x=y
  ·subst hx
   refine Yf (by simp) ?_
   rw [e1]
   refine Aa2 (ih (i+1) (by omega) (by omega)) (r:=r) (by simp) fun o=>?_
   rw [hd,hd2];exact ⟨by simp,rfl⟩
  ·refine Yt (by rw [bne_iff_ne];intro h2;exact hx (UInt8.toNat.inj (by omega))) ?_
   refine Ys fun o=>?_
   rw [hd,hd2];exact ⟨by simp [hx],rfl⟩
theorem E81 (p q:HP) (a:Option Addr) (ro:Bool) (c:Nat) (a2:Option Addr) (ro2:Bool) (c2:Nat) (l m:List UInt8) [ks:IsSl p a ro A1 1 l.length c (A0 l)] [ks2:IsSl q a2 ro2 A1 1 m.length c2 (A0 m)] (hl:l.length≤A4) :
  CtP A3 B9 [.slice a l.length c,.slice a2 m.length c2] [p,q] (.bool (decide (l=m))):=by
 refine CtP.of Aq7 rfl fun h r=>Tr.eq (Dp6 ..) ?_;refine Je ?_
 by_cases h:m.length=l.length
 ·refine Yf (by simp [h]) ?_
  have J:=Hr0 p q a ro c a2 ro2 c2 l m hl h _ 0 rfl (by omega)
  simp only [List.drop_zero] at J
  exact Aa2 J (r:=r) (by simp) fun o=>⟨rfl,rfl⟩
 ·refine Yt (by rw [bne_iff_ne];omega) ?_
  refine Ys fun o=>?_
  exact ⟨by rw [decide_eq_false (fun e=>h (by rw [e]))],rfl⟩
theorem Io6 (p:HP) (ro:Bool) (a:Option Addr) (c:Nat) (l:List UInt8) [ks:IsSl p a ro A1 1 l.length c (A0 l)] (hn:l.length≤A4) :
  Ct A3 H0 [.slice a l.length c] [p] fun v own=>∃ a' c',v=.slice a' l.length c'∧own [slC false A1 1 a' l.length c' (A0 l),p]:=by
 refine Ct.of Bh8 rfl fun h r=>Tr.eq (Bh4 ..) ?_;refine Je ?_
 refine Aa5 0 rfl fun hl hc _=>?_
 refine Tr.cond (fun hb=>?_) fun hb=>?_
 ·obtain rfl:a=none:=by simpa using hb
  refine H6 false A1 1 (by omega) ?_
  intro o
  have o1:=(o.tail.head ks.en).slNone
  obtain rfl:l=[]:=by
   have:=o1.2.2.1
   cases l with
   | nil=>rfl
   | cons x l=>simp [A0] at this
  obtain rfl:c=0:=o1.2.1
  exact ⟨_,_,rfl,none,0,rfl,o⟩
 ·(refine Ja ?_;intros)
  refine Ai6 0 rfl 1 0 rfl (by omega) ?_;refine Je ?_
  (refine Ja ?_;intros)
  refine Tr.xApd ⟨by simp [A0],by simp [A0,Value.oneCell],by omega⟩ fun a' c' h'=>?_
  refine Je ?_
  refine Ys fun o=>⟨a',c',by simp,by simpa using o⟩
end Go.EQ
namespace Go.NN
section
variable {l:List HP} {h:H} {α:Type} {Q:α→H→Prop} {ro:Bool} {e:TypeId} {cs:List Value}
instance {f:Fn} {a c:Array Value} {k:Option α}:Dx (one (.func f a c) k) k:=⟨rfl⟩
theorem Dl2 {x:Option (α × H)} {p:HP} (i:Nat) {a:Option Addr} {sz n c:Nat} (hi:l[i]?=some p) [k:IsSl p a ro e sz n c cs] (hn:0<n) (t:∀ y,a=some y→Tr l h x Q):Tr l h x Q:=fun ow=>by
 obtain ⟨y,hy⟩:=((ow.front hi).head k.en).slSome hn
 exact t y hy ow
theorem Tr.xPCells {a:Option Addr} {n c sz:Nat} {vs cs':List Value} {l':List HP} {k:H→Option (α × H)} [k1:LkO l a false e sz n c cs] (hn:0<n) (hj:vs≠[]∧vs.length≤cs.length∧vs.all Value.oneCell=true∧vs++cs.drop vs.length=cs') [k2:UpO l a (slC false e sz a n c cs') e sz n c cs l'] (t:∀ h',Tr l' h' (k h') Q):Tr l h (NN.pCells a vs h k) Q:=fun ow=>by
 obtain ⟨i,p,hi,hp⟩:=k1.ix
 obtain ⟨y,rfl⟩:=((ow.front hi).head hp).slSome hn
 have:NN.pCells (Option.some y) vs h k=NN.pAgg ((B0 y).add 0) vs h k:=by
  show NN.pAgg (B0 y) vs h k=_
  congr 1
 rw [this]
 exact Tr.xPAggS (k1:=k1) ⟨hj.1,by omega,hj.2.2.1,by simpa using hj.2.2.2⟩ (k2:=k2) t ow
end
end Go.NN

set_option maxRecDepth 10000
namespace Go.EQ
open Go Go.NN
def b8 (x:Int):UInt8:=UInt8.ofNat (x%256).toNat
theorem Da3 (x:Int):IntKind.wrap .u8 x=x%256:=Iw7 x
theorem A15 (x:Int):IntKind.wrap .u8 x=((b8 x).toNat:Int):=by
 rw [Da3,b8,UInt8.toNat_ofNat']
 omega
def Bd4 (l:List UInt8):UInt8:=b8 (G40 l)
theorem Hq1:∀ (l:List UInt8) (n:Int),0≤n∧n<256→0≤Eo0 n l∧Eo0 n l<256
 | [],n,h=>h
 | x::l,n,h=>Hq1 l _ (by show 0≤IntKind.wrap .u8 (n+x.toNat)∧IntKind.wrap .u8 (n+x.toNat)<256;rw [Da3];omega)
theorem Dz4 (l:List UInt8):G40 l=((Bd4 l).toNat:Int):=by
 have:=Hq1 l (IntKind.wrap .u8 l.length) (by rw [Da3];omega)
 unfold Bd4
 rw [← A15,Da3]
 unfold G40 at *;omega
structure FileS where
 kind:Int
 pipe:Int
 refs:Int
 flags:Int
abbrev FileS.zero:FileS:=⟨0,0,0,0⟩
abbrev A74 (f:FileS):List Value:=[int f.kind,int f.pipe,int f.refs,int f.flags]
def okF (f:FileS):Bool:=decide (f.kind≥1) && decide (f.kind≤3) && decide (f.pipe≥0) && decide (f.pipe≤7) && (f.kind != 3 || f.pipe==0) && decide (f.refs≥1) && decide (f.refs≤64) && (f.flags==0 || f.flags==1)
def Be9 (f:FileS):List UInt8:=[b8 f.kind,b8 f.pipe,b8 f.refs,b8 f.flags,179]
def Ai1 (f:FileS):List UInt8:=Be9 f++[Bd4 (Be9 f),0,0]
theorem Jb1 (f:FileS):Ct A3 Dv1 [.agg ⟨A74 f⟩] [] fun v own=>v=.bool (okF f)∧own []:=by
 refine Ct.of H78 rfl fun h r=>Tr.eq (If9 ..) ?_;refine Je ?_
 (refine Ja ?_;intros)
 refine Ys fun o=>?_
 refine ⟨?_,o.sub⟩
 rfl
theorem I31 (a:Option Addr) (c:Nat) (f:FileS):Ct A3 Av4 [.agg ⟨A74 f⟩,.slice a 8 c] [slC false A1 1 a 8 c (A0 (List.replicate 8 0))] fun v own=>v=.bool (okF f)∧own [slC false A1 1 a 8 c (A0 (if okF f then Ai1 f else List.replicate 8 0))]:=by
 refine Ct.of Hz7 rfl fun h r=>Tr.eq (H05 ..) ?_;refine Je ?_
 (refine Ja ?_;intros)
 refine Yc (Jb1 f) ?_;rintro _ h ⟨rfl,o⟩<;>(refine Jf o ?_;intros)
 cases hk:okF f with
 | false =>
  (refine Ja ?_;intros)
  refine Ys fun o=>?_
  rw [if_neg (by simp)]
  exact ⟨rfl,o.sub⟩
 | true =>
  (refine Ja ?_;intros)
  simp only [A15,List.drop_zero,List.take]
  refine Aa5 2 rfl fun hl hc _=>?_
  refine Tr.xPCells (cs':=A0 (Be9 f++[0,0,0])) (by omega) ⟨by simp,by simp [A0],by simp [Value.oneCell],rfl⟩ fun h=>?_
  (refine Ja ?_;intros)
  refine Tr.pcall (Gq8 (slC false A1 1 a 8 c (A0 (Be9 f++[0,0,0]))) a false 8 c c (Be9 f++[0,0,0]) 5 (by simp [Be9]) (by simp [Be9,A4])) ?_
  refine Je ?_
  (refine Ja ?_;intros;repeat(refine Gw ?_;rintro px rfl;refine Ja ?_;intros))
  rw [show List.take 5 (Be9 f++[0,0,0]:List UInt8)=Be9 f from rfl,Dz4]
  refine Tr.xVS (cs':=A0 (Ai1 f)) ⟨by simp [A0,Be9],rfl,rfl⟩ fun h=>?_
  refine Ys fun o=>?_
  simp only [if_true]
  exact ⟨trivial,o.sub⟩
theorem D65 {l:List Value} (h:l.all (fun v=>match v with|.int _ _=>true|_=>false)=true):Ar7 (.agg ⟨l⟩) (.agg ⟨l⟩)=true:=by
 show B02 l l=true
 induction l with
 | nil=>rfl
 | cons v l ih =>
  simp only [List.all_cons,Bool.and_eq_true] at h
  show (A80 v v && B02 l l)=true
  rw [ih h.2,Bool.and_true]
  cases v<;>first|(simp [A80];done)|exact absurd h.1 (by simp)
abbrev Hk0 (k:Nat):HP:=pt k (.cells An2 false [int 8,.func (.func Av4) ⟨[]⟩ ⟨[]⟩,.func (.func Av9) ⟨[]⟩ ⟨[]⟩])
theorem Hx2 (k:Nat) (f:FileS):Ct A3 W6 [P0 k,.agg ⟨A74 f⟩] [Hk0 k] fun v own=>(okF f=true∧∃ a,v=.tuple ⟨[.slice a 8 8,.bool true]⟩∧own [Hk0 k,slC false A1 1 a 8 8 (A0 (Ai1 f))])∨(okF f=false∧v=.tuple ⟨[.slice none 0 0,.bool false]⟩∧own [Hk0 k]):=by
 refine Ct.of Dc4 rfl fun h r=>Tr.eq (Dc0 ..) ?_;refine Je ?_
 (refine Ja ?_;intros)
 refine Tr.ck ⟨by omega,by omega,by simp [A4]⟩ ?_
 refine Yn fun b1 h=>?_
 rw [show I1 (Int.toNat 8) [.int .u8 0]=A0 (List.replicate 8 0) from rfl]
 refine Ai6 0 rfl 1 8 rfl (by omega) ?_
 simp only [List.set_cons_zero]
 refine Je ?_
 (refine Jb ?_;intros)
 refine Yb (Yf rfl ?_)
 (refine Jb ?_;intros)
 refine Yc (I31 (some ⟨b1,0,none⟩) 8 f) ?_;rintro _ h ⟨rfl,o⟩<;>(refine Jg o ?_;intros)
 refine Ys fun o=>(?_:Tr _ _ _ _) o;refine Je ?_
 cases hk:okF f with
 | false =>
  (refine Ja ?_;intros)
  refine Ys fun o=>?_
  exact .inr ⟨rfl,rfl,o.sub⟩
 | true =>
  (refine Ja ?_;intros)
  refine Ys fun o=>?_
  simp only [if_true] at o
  exact .inl ⟨rfl,_,rfl,o.sub⟩
theorem I19:Ct A3 At0 [int 8,.func (.func Av4) ⟨[]⟩ ⟨[]⟩,.func (.func Av9) ⟨[]⟩ ⟨[]⟩] [] fun v own=>∃ k,v=P0 k∧own [pt k (.cells An2 false [int 8,.func (.func Av4) ⟨[]⟩ ⟨[]⟩,.func (.func Av9) ⟨[]⟩ ⟨[]⟩])]:=by
 refine Ct.of Eo7 rfl fun h r=>Tr.eq (En8 ..) ?_;refine Je ?_
 rw [show mm2 false (mm2 true 8 0) 64=8 from rfl]
 (refine Ja ?_;intros)
 refine Ys fun o=>?_
 exact ⟨_,rfl,o.sub⟩
theorem G89:Ct A3 Bg9 [] [] fun v own=>∃ k,v=P0 k∧own [pt k (.cells An2 false [int 8,.func (.func Av4) ⟨[]⟩ ⟨[]⟩,.func (.func Av9) ⟨[]⟩ ⟨[]⟩])]:=by
 refine Ct.of He0 rfl fun h r=>Tr.eq (Hd2 ..) ?_;refine Je ?_
 refine Yc (I19) ?_;rintro _ h ⟨k,rfl,o⟩<;>(refine Jf o ?_;intros)
 refine Ys fun o=>?_
 exact ⟨_,rfl,o.sub⟩
theorem Gr5 (f:FileS):Ct A3 Ba8 [.agg ⟨A74 f⟩] [] fun v own=>(okF f=true∧∃ a,v=.tuple ⟨[.slice a 8 8,.bool true]⟩∧own [slC false A1 1 a 8 8 (A0 (Ai1 f))])∨(okF f=false∧v=.tuple ⟨[.slice none 0 0,.bool false]⟩∧own []):=by
 refine Ct.of G32 rfl fun h r=>Tr.eq (G68 ..) ?_;refine Je ?_
 (refine Ja ?_;intros)
 refine Yc (G89) ?_;rintro _ h ⟨k,rfl,o⟩<;>(refine Jf o ?_;intros)
 refine Tr.same (D65 rfl) ?_
 refine Yc (Hx2 k f) ?_
 rintro v h (⟨hk,a,rfl,o⟩|⟨hk,rfl,o⟩)
 ·refine (?_:Tr _ _ _ _) o
  refine Je ?_
  (refine Ja ?_;intros)
  refine Ys fun o=>?_
  exact .inl ⟨hk,a,rfl,o.sub⟩
 ·refine (?_:Tr _ _ _ _) o
  refine Je ?_
  (refine Ja ?_;intros)
  refine Ys fun o=>?_
  exact .inr ⟨hk,rfl,o.sub⟩
theorem Ac9 {l:List UInt8} {i:Nat} (h:i<l.length):(A0 l)[i]?=some (.int .u8 ((l.getD i 0).toNat:Int)):=by
 rw [List.getD_eq_getElem?_getD,List.getElem?_eq_getElem h];exact Ef4 (List.getElem?_eq_getElem h)
theorem Ab5 (x:UInt8):IntKind.wrap .i64 (x.toNat:Int)=(x.toNat:Int):=by
 have:=x.toNat_lt;rw [A8];omega
abbrev byI (l:List UInt8) (i:Nat):Int:=((l.getD i 0).toNat:Int)
def Bk6 (l:List UInt8):FileS:=⟨byI l 0,byI l 1,byI l 2,byI l 3⟩
def isF (l:List UInt8):Bool:=okF (Bk6 l) && decide (Ai1 (Bk6 l)=l)
theorem I62 (a:Option Addr) (c:Nat) (l:List UInt8) (hl:l.length=8):Ct A3 Av9 [.slice a 8 c] [slC false A1 1 a 8 c (A0 l)] fun v own=>v=.tuple ⟨[.agg ⟨A74 (Bk6 l)⟩,.bool (isF l)]⟩∧own [slC false A1 1 a 8 c (A0 l)]:=by
 have key:∀ a1:Option Addr,CtP A3 B9 [.slice a1 8 8,.slice a 8 c] [slC false A1 1 a1 8 8 (A0 (Ai1 (Bk6 l))),slC false A1 1 a 8 c (A0 l)] (.bool (decide (Ai1 (Bk6 l)=l))):=fun a1=>by
  have J:=E81 (slC false A1 1 a1 8 8 (A0 (Ai1 (Bk6 l)))) (slC false A1 1 a l.length c (A0 l)) a1 false 8 a false c (Ai1 (Bk6 l)) l (by simp [Ai1,Be9,A4])
  rwa [hl,show (Ai1 (Bk6 l)).length=8 from rfl] at J
 refine Ct.of H02 rfl fun h r=>Tr.eq (Hv1 ..) ?_;refine Je ?_
 refine Yn fun b1 h=>?_
 (refine Ja ?_;intros;repeat(refine Gw ?_;rintro px rfl;refine Ja ?_;intros))
 refine Tr.xIntS (v:=byI l 0) (Ac9 (by omega)) ?_
 (refine Ja ?_;intros)
 refine Tr.xIntS (v:=byI l 1) (Ac9 (by omega)) ?_
 (refine Ja ?_;intros)
 refine Tr.xIntS (v:=byI l 2) (Ac9 (by omega)) ?_
 (refine Ja ?_;intros)
 refine Tr.xIntS (v:=byI l 3) (Ac9 (by omega)) ?_
 simp only [byI,Ab5]
 refine Yn fun b2 h=>?_
 (refine Jb ?_;intros)
 refine Yc (Gr5 (Bk6 l)) ?_
 rintro v h (⟨hk,a1,rfl,o⟩|⟨hk,rfl,o⟩)
 ·refine (?_:Tr _ _ _ _) o
  refine Je ?_
  (refine Jb ?_;intros)
  refine Yb (Yt rfl ?_)
  refine Tr.pcall (key a1) ?_;refine Je ?_;(refine Jb ?_;intros)
  refine Tr.same (D65 rfl) ?_
  refine Ys fun o=>(?_:Tr _ _ _ _) o;refine Je ?_
  (refine Ja ?_;intros)
  refine Ys fun o=>?_
  exact ⟨by unfold isF;rw [hk,Bool.true_and];rfl,o.sub⟩
 ·refine (?_:Tr _ _ _ _) o
  refine Je ?_
  (refine Ja ?_;intros)
  refine Ys fun o=>?_
  exact ⟨by unfold isF;rw [hk];rfl,o.sub⟩
theorem Eo8 (n:Nat) (pb:HP) (ro:Bool) (a:Option Addr) (c:Nat) (l:List UInt8) (hl:l.length=n) (hn:n≤A4) [ks:IsSl pb a ro A1 1 n c (A0 l)]:Ct A3 H0 [.slice a n c] [pb] fun v own=>∃ a' c',v=.slice a' n c'∧own [slC false A1 1 a' n c' (A0 l),pb]:=by
 subst hl;exact Io6 pb ro a c l hn
theorem Eu0 (n:Nat) (pb:HP) (ro:Bool) (a:Option Addr) (c:Nat) (l:List UInt8) (hl:l.length=n) (hn:n≤A4) [ks:IsSl pb a ro A1 1 n c (A0 l)]:CtP A3 Aq2 [.slice a n c] [pb] (.bool (l.all (·==0))):=by
 subst hl;exact Iu8 pb a ro c l hn
theorem Hi0 (k:Nat) (pb:HP) (ro:Bool) (a:Option Addr) (c:Nat) (l:List UInt8) (hl:l.length=8) [ks:IsSl pb a ro A1 1 8 c (A0 l)]:Ct A3 W1 [P0 k,.slice a 8 c] [Hk0 k,pb] fun v own=>v=.tuple ⟨[.agg ⟨A74 (if isF l then Bk6 l else .zero)⟩,.bool (isF l)]⟩∧own [Hk0 k,pb]:=by
 refine Ct.of Dc8 rfl fun h r=>Tr.eq (Dc9 ..) ?_;refine Je ?_
 (refine Ja ?_;intros)
 refine Yf rfl ?_
 (refine Jb ?_;intros)
 refine Yc (Eo8 8 pb ro a c l hl (by simp [A4])) ?_;rintro _ h ⟨a1,c1,rfl,o⟩<;>(refine Jg o ?_;intros)
 refine Yc (I62 a1 c1 l hl) ?_;rintro _ h ⟨rfl,o⟩<;>(refine Jg o ?_;intros)
 cases hk:isF l with
 | false =>
  (refine Ja ?_;intros)
  refine Ys fun o=>?_
  exact ⟨rfl,o.sub⟩
 | true =>
  (refine Ja ?_;intros)
  refine Ys fun o=>?_
  exact ⟨rfl,o.sub⟩
def J7 (l:List UInt8):FileS × Int:=if l.all (·==0) then (.zero,0) else if isF l then (Bk6 l,1) else (.zero,2)
theorem H06 (pb:HP) (ro:Bool) (a:Option Addr) (c:Nat) (l:List UInt8) (hl:l.length=8) [ks:IsSl pb a ro A1 1 8 c (A0 l)]:Ct A3 Aw4 [.slice a 8 c] [pb] fun v own=>v=.tuple ⟨[.agg ⟨A74 (J7 l).1⟩,int (J7 l).2]⟩∧own [pb]:=by
 refine Ct.of G70 rfl fun h r=>Tr.eq (G22 ..) ?_;refine Je ?_
 refine Yn fun b1 h=>?_
 refine Yb (Yt rfl ?_)
 refine Tr.pcall (Eu0 8 pb ro a c l hl (by simp [A4])) ?_;refine Je ?_;(refine Jb ?_;intros)
 refine Ys fun o=>(?_:Tr _ _ _ _) o;refine Je ?_
 cases hb:l.all (·==0) with
 | true =>
  (refine Ja ?_;intros)
  refine Ys fun o=>?_
  exact ⟨by unfold J7;rw [hb];rfl,o.sub⟩
 | false =>
  (refine Jb ?_;intros)
  refine Yc (G89) ?_;rintro _ h ⟨k,rfl,o⟩<;>(refine Jg o ?_;intros)
  refine Yc (Hi0 k pb ro a c l hl) ?_;rintro _ h ⟨rfl,o⟩<;>(refine Jg o ?_;intros)
  cases hk:isF l with
  | false =>
   (refine Ja ?_;intros)
   refine Ys fun o=>?_
   exact ⟨by unfold J7;rw [hb,hk];rfl,o.sub⟩
  | true =>
   (refine Ja ?_;intros)
   refine Ys fun o=>?_
   exact ⟨by unfold J7;rw [hb,hk];rfl,o.sub⟩
theorem If3 (a:Option Addr) (c:Nat) (l:List UInt8) (hl:l.length=8):Ct A3 Aw4 [.slice a 8 c] [slC false A1 1 a 8 c (A0 l)] fun v own=>v=.tuple ⟨[.agg ⟨A74 (J7 l).1⟩,int (J7 l).2]⟩∧own [slC false A1 1 a 8 c (A0 l)]:=H06 (slC false A1 1 a 8 c (A0 l)) false a c l hl
structure PipeS where
 head:Int
 count:Int
 readers:Int
 writers:Int
 data:List UInt8
 len:data.length=32
abbrev PipeS.zero:PipeS:=⟨0,0,0,0,List.replicate 32 0,rfl⟩
abbrev E9 (p:PipeS):List Value:=int p.head::int p.count::int p.readers::int p.writers::A0 p.data
theorem Aj1 {p:PipeS} (hd:p.data.length=32):(E9 p).length=36:=by simp [E9,N9,hd]
theorem Ic2 {p:PipeS} (hd:p.data.length=32):4+32≤(E9 p).length∧((E9 p).drop 4).take 32=A0 p.data:=⟨by rw [Aj1 hd];exact Nat.le_refl _,by
 rw [show (E9 p).drop 4=A0 p.data from rfl,List.take_of_length_le (by rw [N9,hd];exact Nat.le_refl _)]⟩
theorem Ha4 (p:PipeS):(E9 p).all Value.oneCell=true:=by simp [E9,Ad2,Value.oneCell]
theorem Id8 (p:PipeS):Ar7 (.agg ⟨E9 p⟩) (.agg ⟨E9 p⟩)=true:=D65 (by simp [E9,A0])
instance {p:PipeS}:LenC (E9 p) 36:=⟨Aj1 p.len⟩
instance {p:PipeS}:PartC (E9 p) 0 36 (E9 p):=⟨B43 (Aj1 p.len)⟩
instance {p:PipeS} {cs:List Value} [k:LenC cs 36]:SetsC cs 0 (E9 p) (E9 p):=⟨A31 k.ok (Aj1 p.len) (Ha4 p)⟩
instance {p:PipeS}:SameC (.agg ⟨E9 p⟩):=⟨Id8 p⟩
def okP (p:PipeS):Bool:=decide (0≤p.head∧p.head≤31) && decide (0≤p.count∧p.count≤32) && decide (0≤p.readers∧p.readers≤8) && decide (0≤p.writers∧p.writers≤8)
def Al0 (p:PipeS):List UInt8:=[1,b8 p.head,b8 p.count,b8 p.readers,b8 p.writers,197]
def D3 (p:PipeS):List UInt8:=Al0 p++Bd4 (Al0 p)::0::p.data
theorem Dx0 {p:PipeS} (hd:p.data.length=32):(D3 p).length=40:=by simp [D3,Al0,hd]
theorem Jb6 (n m:Int):CtP A3 Av1 [int n,int m] [] (.bool (decide (0≤n∧n≤m))):=by
 refine CtP.of Hx0 rfl fun h r=>Tr.eq (Hv9 ..) ?_;refine Je ?_
 (refine Ja ?_;intros)
 refine Ys fun o=>?_
 refine ⟨?_,rfl⟩
 refine congrArg Value.bool ?_;rw [Bool.eq_iff_iff];simp only [Bool.and_eq_true,Bool.or_eq_true,Bool.not_eq_true',Bool.not_eq_false',decide_eq_true_eq,decide_eq_false_iff_not,bne_iff_ne,beq_iff_eq,ne_eq,A8,Ab3,Ab4,ge_iff_le,gt_iff_lt];first|done|omega
instance {n m:Int} {l:List HP}:PCi A3 Av1 [.int .i64 n,.int .i64 m] l (.bool (decide (0≤n∧n≤m))):=PCi.of (Jb6 n m)
theorem I87 (p:PipeS):Ct A3 D63 [.agg ⟨E9 p⟩] [] fun v own=>v=.bool (okP p)∧own []:=by
 refine Ct.of Ii3 rfl fun h r=>Tr.eq (Ik8 ..) ?_;refine Je ?_
 (refine Ja ?_;intros)
 refine Ys fun o=>?_
 exact ⟨rfl,o.sub⟩
theorem I21 (a:Option Addr) (c:Nat) (p:PipeS):Ct A3 Br7 [.agg ⟨E9 p⟩,.slice a 40 c] [slC false A1 1 a 40 c (A0 (List.replicate 40 0))] fun v own=>v=.bool (okP p)∧own [slC false A1 1 a 40 c (A0 (if okP p then D3 p else List.replicate 40 0))]:=by
 have hd:=p.len
 refine Ct.of Ic8 rfl fun h r=>Tr.eq (Ib7 ..) ?_;refine Je ?_
 refine Yn fun b1 h=>?_
 (refine Ja ?_;intros)
 refine Yc (I87 p) ?_;rintro _ h ⟨rfl,o⟩<;>(refine Jg o ?_;intros)
 cases hk:okP p with
 | false =>
  (refine Ja ?_;intros)
  refine Ys fun o=>?_
  rw [if_neg (by simp)]
  exact ⟨rfl,o.sub⟩
 | true =>
  (refine Ja ?_;intros)
  simp only [A15,List.drop_zero,List.take]
  refine Aa5 2 rfl fun hl hc _=>?_
  refine Tr.xPCells (cs':=A0 (Al0 p++List.replicate 34 0)) (by omega) ⟨by simp,by simp [A0],by simp [Value.oneCell],rfl⟩ fun h=>?_
  (refine Ja ?_;intros)
  refine Tr.pcall (Gq8 (slC false A1 1 a 40 c (A0 (Al0 p++List.replicate 34 0))) a false 40 c c (Al0 p++List.replicate 34 0) 6 (by simp [Al0]) (by simp [Al0,A4])) ?_
  refine Je ?_
  (refine Ja ?_;intros;repeat(refine Gw ?_;rintro px rfl;refine Ja ?_;intros))
  rw [show List.take 6 (Al0 p++List.replicate 34 0:List UInt8)=Al0 p from rfl,Dz4]
  refine Tr.xVS (cs':=A0 (Al0 p++Bd4 (Al0 p)::List.replicate 33 0)) ⟨by simp [A0,Al0],rfl,rfl⟩ fun h=>?_
  (refine Ja ?_;intros)
  refine Tr.xCellsB (xs:=A0 p.data) (Ic2 p.len) ?_
  rw [Gd4 (by omega),Dw3]
  refine Tr.xPAggS (cs':=A0 (D3 p)) ⟨?_,?_,Ad2 _,?_⟩ fun h=>?_
  ·intro e;have:=congrArg List.length e;simp [A0,hd] at this
  ·simp [A0,hd,Al0]
  ·rw [N9,hd]
   simp [A0,D3,Al0]
  refine Ys fun o=>?_
  simp only [if_true]
  exact ⟨trivial,o.sub⟩
abbrev Gp8 (k:Nat):HP:=pt k (.cells Bx4 false [int 40,.func (.func Br7) ⟨[]⟩ ⟨[]⟩,.func (.func Bq6) ⟨[]⟩ ⟨[]⟩])
theorem Hy3 (k:Nat) (f:PipeS):Ct A3 W4 [P0 k,.agg ⟨E9 f⟩] [Gp8 k] fun v own=>(okP f=true∧∃ a,v=.tuple ⟨[.slice a 40 40,.bool true]⟩∧own [Gp8 k,slC false A1 1 a 40 40 (A0 (D3 f))])∨(okP f=false∧v=.tuple ⟨[.slice none 0 0,.bool false]⟩∧own [Gp8 k]):=by
 refine Ct.of Dc2 rfl fun h r=>Tr.eq (Dc7 ..) ?_;refine Je ?_
 (refine Ja ?_;intros)
 refine Tr.ck ⟨by omega,by omega,by simp [A4]⟩ ?_
 refine Yn fun b1 h=>?_
 rw [show I1 (Int.toNat 40) [.int .u8 0]=A0 (List.replicate 40 0) from rfl]
 refine Ai6 0 rfl 1 40 rfl (by omega) ?_
 simp only [List.set_cons_zero]
 refine Je ?_
 (refine Jb ?_;intros)
 refine Yb (Yf rfl ?_)
 (refine Jb ?_;intros)
 refine Yc (I21 (some ⟨b1,0,none⟩) 40 f) ?_;rintro _ h ⟨rfl,o⟩<;>(refine Jg o ?_;intros)
 refine Ys fun o=>(?_:Tr _ _ _ _) o;refine Je ?_
 cases hk:okP f with
 | false =>
  (refine Ja ?_;intros)
  refine Ys fun o=>?_
  exact .inr ⟨rfl,rfl,o.sub⟩
 | true =>
  (refine Ja ?_;intros)
  refine Ys fun o=>?_
  simp only [if_true] at o
  exact .inl ⟨rfl,_,rfl,o.sub⟩
theorem I40:Ct A3 At8 [int 40,.func (.func Br7) ⟨[]⟩ ⟨[]⟩,.func (.func Bq6) ⟨[]⟩ ⟨[]⟩] [] fun v own=>∃ k,v=P0 k∧own [Gp8 k]:=by
 refine Ct.of En0 rfl fun h r=>Tr.eq (El8 ..) ?_;refine Je ?_
 rw [show mm2 false (mm2 true 40 0) 64=40 from rfl]
 (refine Ja ?_;intros)
 refine Ys fun o=>?_
 exact ⟨_,rfl,o.sub⟩
theorem G92:Ct A3 Bo5 [] [] fun v own=>∃ k,v=P0 k∧own [Gp8 k]:=by
 refine Ct.of Hn7 rfl fun h r=>Tr.eq (Hr8 ..) ?_;refine Je ?_
 refine Yc (I40) ?_;rintro _ h ⟨k,rfl,o⟩<;>(refine Jf o ?_;intros)
 refine Ys fun o=>?_
 exact ⟨_,rfl,o.sub⟩
theorem H70 (f:PipeS):Ct A3 Bz7 [.agg ⟨E9 f⟩] [] fun v own=>(okP f=true∧∃ a,v=.tuple ⟨[.slice a 40 40,.bool true]⟩∧own [slC false A1 1 a 40 40 (A0 (D3 f))])∨(okP f=false∧v=.tuple ⟨[.slice none 0 0,.bool false]⟩∧own []):=by
 refine Ct.of Hc4 rfl fun h r=>Tr.eq (Hc6 ..) ?_;refine Je ?_
 refine Yn fun b1 h=>?_
 (refine Ja ?_;intros)
 refine Yc (G92) ?_;rintro _ h ⟨k,rfl,o⟩<;>(refine Jg o ?_;intros)
 (refine Ja ?_;intros)
 refine Yc (Hy3 k f) ?_
 rintro v h (⟨hk,a,rfl,o⟩|⟨hk,rfl,o⟩)
 ·refine (?_:Tr _ _ _ _) o
  refine Je ?_
  (refine Ja ?_;intros)
  refine Ys fun o=>?_
  exact .inl ⟨hk,a,rfl,o.sub⟩
 ·refine (?_:Tr _ _ _ _) o
  refine Je ?_
  (refine Ja ?_;intros)
  refine Ys fun o=>?_
  exact .inr ⟨hk,rfl,o.sub⟩
def Ds6 (l:List UInt8):List UInt8:=(l++List.replicate 32 0).take 32
theorem Im5 (l:List UInt8):(Ds6 l).length=32:=by simp [Ds6]
theorem D22 {l:List UInt8} (h:l.length=32):Ds6 l=l:=by simp [Ds6,← h]
def Ao4 (l:List UInt8):PipeS:=⟨byI l 1,byI l 2,byI l 3,byI l 4,Ds6 (l.drop 8),Im5 _⟩
def isP (l:List UInt8):Bool:=okP (Ao4 l) && decide (D3 (Ao4 l)=l)
theorem I49 (a:Option Addr) (c:Nat) (l:List UInt8) (hl:l.length=40):Ct A3 Bq6 [.slice a 40 c] [slC false A1 1 a 40 c (A0 l)] fun v own=>v=.tuple ⟨[.agg ⟨E9 (Ao4 l)⟩,.bool (isP l)]⟩∧own [slC false A1 1 a 40 c (A0 l)]:=by
 have hd:=(Ao4 l).len
 have hp:Ds6 (l.drop 8)=l.drop 8:=D22 (by simp [hl])
 have key:∀ a1:Option Addr,CtP A3 B9 [.slice a1 40 40,.slice a 40 c] [slC false A1 1 a1 40 40 (A0 (D3 (Ao4 l))),slC false A1 1 a 40 c (A0 l)] (.bool (decide (D3 (Ao4 l)=l))):=fun a1=>by
  have e:=Dx0 hd
  have J:=E81 (slC false A1 1 a1 (D3 (Ao4 l)).length 40 (A0 (D3 (Ao4 l)))) (slC false A1 1 a l.length c (A0 l)) a1 false 40 a false c (D3 (Ao4 l)) l (by rw [e];simp [A4])
  rwa [hl,e] at J
 refine Ct.of Ib1 rfl fun h r=>Tr.eq (Ib4 ..) ?_;refine Je ?_
 refine Yn fun b1 h=>?_
 refine Aa5 1 rfl fun hl2 hc2 _=>?_
 (refine Ja ?_;intros;repeat(refine Gw ?_;rintro px rfl;refine Ja ?_;intros))
 refine Tr.xIntS (v:=byI l 1) (Ac9 (by omega)) ?_
 (refine Ja ?_;intros)
 refine Tr.xIntS (v:=byI l 2) (Ac9 (by omega)) ?_
 (refine Ja ?_;intros)
 refine Tr.xIntS (v:=byI l 3) (Ac9 (by omega)) ?_
 (refine Ja ?_;intros)
 refine Tr.xIntS (v:=byI l 4) (Ac9 (by omega)) ?_
 simp only [byI,Ab5]
 refine Yn fun b2 h=>?_
 (refine Jb ?_;intros)
 rw [Gd4 (show 8<c by omega),Hq9]
 refine Tr.xAggS (xs:=A0 (l.drop 8)) ⟨by omega,by simp [N9,hl],?_⟩ ?_
 ·rw [Bs4,List.take_of_length_le (by simp [N9,hl])]
 rw [show pCells (some (⟨b2,4,none⟩:Addr))=pAgg ⟨b2,4,none⟩ from rfl]
 refine Tr.xPAgg (cs':=E9 (Ao4 l)) ⟨by simp [N9,hl],Ad2 _,by simp [E9,Ao4,byI,N9,hl,hp]⟩ fun h=>?_
 (refine Ja ?_;intros)
 refine Yc (H70 (Ao4 l)) ?_
 rintro v h (⟨hk,a1,rfl,o⟩|⟨hk,rfl,o⟩)
 ·refine (?_:Tr _ _ _ _) o
  refine Je ?_
  (refine Jb ?_;intros)
  refine Yb (Yt rfl ?_)
  refine Tr.pcall (key a1) ?_;refine Je ?_;(refine Jb ?_;intros)
  refine Ys fun o=>(?_:Tr _ _ _ _) o;refine Je ?_
  (refine Ja ?_;intros)
  refine Ys fun o=>?_
  exact ⟨by unfold isP;rw [hk,Bool.true_and],o.sub⟩
 ·refine (?_:Tr _ _ _ _) o
  refine Je ?_
  (refine Ja ?_;intros)
  refine Ys fun o=>?_
  exact ⟨by unfold isP;rw [hk];rfl,o.sub⟩
theorem Hq2 (k:Nat) (pb:HP) (ro:Bool) (a:Option Addr) (c:Nat) (l:List UInt8) (hl:l.length=40) [ks:IsSl pb a ro A1 1 40 c (A0 l)]:Ct A3 W7 [P0 k,.slice a 40 c] [Gp8 k,pb] fun v own=>v=.tuple ⟨[.agg ⟨E9 (if isP l then Ao4 l else .zero)⟩,.bool (isP l)]⟩∧own [Gp8 k,pb]:=by
 have hd:=(Ao4 l).len
 have hp:Ds6 (l.drop 8)=l.drop 8:=D22 (by simp [hl])
 refine Ct.of Dc3 rfl fun h r=>Tr.eq (Dc5 ..) ?_;refine Je ?_
 (refine Ja ?_;intros)
 refine Yf rfl ?_
 (refine Jb ?_;intros)
 refine Yc (Eo8 40 pb ro a c l hl (by simp [A4])) ?_;rintro _ h ⟨a1,c1,rfl,o⟩<;>(refine Jg o ?_;intros)
 refine Yc (I49 a1 c1 l hl) ?_;rintro _ h ⟨rfl,o⟩<;>(refine Jg o ?_;intros)
 cases hk:isP l with
 | false =>
  (refine Ja ?_;intros)
  refine Ys fun o=>?_
  exact ⟨rfl,o.sub⟩
 | true =>
  (refine Ja ?_;intros)
  refine Ys fun o=>?_
  exact ⟨rfl,o.sub⟩
def D8 (l:List UInt8):PipeS × Int:=if l.all (·==0) then (.zero,0) else if isP l then (Ao4 l,1) else (.zero,2)
theorem Hu6 (pb:HP) (ro:Bool) (a:Option Addr) (c:Nat) (l:List UInt8) (hl:l.length=40) [ks:IsSl pb a ro A1 1 40 c (A0 l)]:Ct A3 Aq1 [.slice a 40 c] [pb] fun v own=>v=.tuple ⟨[.agg ⟨E9 (D8 l).1⟩,int (D8 l).2]⟩∧own [pb]:=by
 have hd:=(Ao4 l).len
 have hp:Ds6 (l.drop 8)=l.drop 8:=D22 (by simp [hl])
 refine Ct.of Hc5 rfl fun h r=>Tr.eq (He5 ..) ?_;refine Je ?_
 refine Yn fun b1 h=>?_
 refine Yb (Yt rfl ?_)
 refine Tr.pcall (Eu0 40 pb ro a c l hl (by simp [A4])) ?_;refine Je ?_;(refine Jb ?_;intros)
 refine Ys fun o=>(?_:Tr _ _ _ _) o;refine Je ?_
 cases hb:l.all (·==0) with
 | true =>
  (refine Ja ?_;intros)
  refine Ys fun o=>?_
  exact ⟨by unfold D8;rw [hb];rfl,o.sub⟩
 | false =>
  (refine Jb ?_;intros)
  refine Yc (G92) ?_;rintro _ h ⟨k,rfl,o⟩<;>(refine Jg o ?_;intros)
  refine Yc (Hq2 k pb ro a c l hl) ?_;rintro _ h ⟨rfl,o⟩<;>(refine Jg o ?_;intros)
  cases hk:isP l with
  | false =>
   (refine Ja ?_;intros)
   refine Ys fun o=>?_
   exact ⟨by unfold D8;rw [hb,hk];rfl,o.sub⟩
  | true =>
   (refine Ja ?_;intros)
   refine Ys fun o=>?_
   exact ⟨by unfold D8;rw [hb,hk];rfl,o.sub⟩
theorem Ie6 (a:Option Addr) (c:Nat) (l:List UInt8) (hl:l.length=40):Ct A3 Aq1 [.slice a 40 c] [slC false A1 1 a 40 c (A0 l)] fun v own=>v=.tuple ⟨[.agg ⟨E9 (D8 l).1⟩,int (D8 l).2]⟩∧own [slC false A1 1 a 40 c (A0 l)]:=Hu6 (slC false A1 1 a 40 c (A0 l)) false a c l hl
structure ProcS where
 state:Int
 parent:Int
 group:Int
 code:Int
 pending:Int
 mask:Int
 ignored:Int
 caught:Int
 fds:List Int
 len:fds.length=8
abbrev Gc6:List Int:=[0,0,0,0,0,0,0,0]
abbrev ProcS.zero:ProcS:=⟨0,0,0,0,0,0,0,0,Gc6,rfl⟩
abbrev B6 (p:ProcS):List Value:=int p.state::int p.parent::int p.group::int p.code::int p.pending::int p.mask::int p.ignored::int p.caught::p.fds.map int
theorem Av5 (p:ProcS):(B6 p).length=16:=by simp [B6,p.len]
theorem G73 (p:ProcS):(B6 p).all Value.oneCell=true:=by simp [B6,Value.oneCell]
instance {p:ProcS}:LenC (B6 p) 16:=⟨Av5 p⟩
instance {p:ProcS}:PartC (B6 p) 0 16 (B6 p):=⟨B43 (Av5 p)⟩
instance {p:ProcS}:PartC (B6 p) 8 8 (p.fds.map int):=⟨by
 have h:Nat.ble (8+8) (B6 p).length=true:=by rw [Av5];rfl
 have e:((B6 p).drop 8).take 8=p.fds.map int:=by rw [show (B6 p).drop 8=p.fds.map int from rfl,List.take_of_length_le (by simp [p.len])]
 rw [Di5,h,e];rfl⟩
instance {p:ProcS} {cs:List Value} [k:LenC cs 16]:SetsC cs 0 (B6 p) (B6 p):=⟨A31 k.ok (Av5 p) (G73 p)⟩
instance {p:ProcS}:SameC (.agg ⟨B6 p⟩):=⟨D65 (by simp [B6])⟩
def Ap8 (n w:Int):Bool:=V3 .i64 n 65534==0 && B4 .i64 n w==0
def okS (p:ProcS):Bool :=
 !(decide (p.state<1) || decide (p.state>3) || decide (p.parent<0) || decide (p.parent>8) || decide (p.group<0) || decide (p.group≥8) || decide (p.code<0) || decide (p.code>255)) &&
 (!(!Ap8 p.pending 0 || !Ap8 p.mask 16896 || !Ap8 p.ignored 16896 || !Ap8 p.caught 16896 || B4 .i64 p.ignored p.caught != 0) &&
 (!(p.fds.any fun f=>decide (f<0) || decide (f>12)) &&
 (if p.state=2 then p.pending==0 && decide (p.fds=Gc6) else p.code==0)))
def hi2 (n:Int):UInt8:=if 0≤n∧n≤65535 then b8 (n / 256) else 0
def lo2 (n:Int):UInt8:=if 0≤n∧n≤65535 then b8 n else 0
abbrev put2 (n:Int):List UInt8:=[hi2 n,lo2 n]
def Au5 (p:ProcS):List UInt8:=[b8 p.state,b8 p.parent,b8 p.group,b8 p.code]++(put2 p.pending++(put2 p.mask++(put2 p.ignored++(put2 p.caught++(p.fds.map b8++[167])))))
theorem Iu6 (n:Int):(put2 n).length=2:=rfl
theorem Dm9 (p:ProcS):(Au5 p).length=21:=by simp [Au5,Iu6,p.len]
def N0 (p:ProcS):List UInt8:=Au5 p++[Bd4 (Au5 p),0,0]
theorem Bf4 (p:ProcS):(N0 p).length=24:=by simp [N0,Dm9]
theorem I17 (n w:Int):CtP A3 Ao7 [int n,int w] [] (.bool (Ap8 n w)):=by
 refine CtP.of Hl3 rfl fun h r=>Tr.eq (Ho4 ..) ?_;refine Je ?_
 exact Jz
instance {n w:Int} {l:List HP}:PCi A3 Ao7 [.int .i64 n,.int .i64 w] l (.bool (Ap8 n w)):=PCi.of (I17 n w)
theorem I44 (f:Int):CtP A3 Bq3 [int f] [] (.bool (decide (f<0) || decide (f>12))):=by
 refine CtP.of Ht8 rfl fun h r=>Tr.eq (Ho0 ..) ?_;refine Je ?_
 exact Jz
theorem Go2 (p:HP) (a:Option Addr) (ro:Bool) (c:Nat) (l:List Int) (g:FuncId) (f:Int→Bool) {e:TypeId} [ks:IsSl p a ro e 1 l.length c (l.map int)] (hl:l.length≤A4) (hf:∀ x,CtP A3 g [int x] [] (.bool (f x))):∀ (m i:Nat),l.length-i=m→i≤l.length →
  U3 E2 D9 N8 [(0,.slice a l.length c),(1,.func (.func g) ⟨[]⟩ ⟨[]⟩),(7,int l.length),(8,int i)] [p] (int (Bz1 f i (l.drop i))):=by
 intro m
 induction m with
 | zero =>
  intro i hm hi
  refine U3.of L9 fun h r=>Tr.eq (U5 ..) ?_;refine Je ?_
  refine Yf (by simp;omega) ?_
  refine Ys fun o=>?_
  rw [List.drop_eq_nil_of_le (by omega)];exact ⟨rfl,rfl⟩
 | succ m ih =>
  intro i hm hi
  have hlt:i<l.length:=by omega
  have hp:l[i]?=some l[i]:=List.getElem?_eq_getElem hlt
  have hd:l.drop i=l[i]::l.drop (i+1):=List.drop_eq_getElem_cons hlt
  generalize l[i]=x at hp hd
  have e1:IntKind.wrap .i64 ((i:Int)+1)=((i+1:Nat):Int):=by rw [A8];simp only [A4] at hl;omega
  refine U3.of L9 fun h r=>Tr.eq (U5 ..) ?_;refine Je ?_
  refine Yt (by simp;omega) ?_
  (refine Ja ?_;unhygienic intros;repeat(refine Gw ?_;rintro px rfl;refine Ja ?_;unhygienic intros))
  refine Tr.xIntS (v:=x) (by simp [hp]) ?_
  (refine Ja ?_;unhygienic intros)
  refine Tr.pcall (hf x) ?_
  cases hx:f x with
  | true =>
   (refine Ja ?_;unhygienic intros)
   refine Ys fun o=>?_
   rw [hd,Bz1,if_pos hx];exact ⟨by first|rfl|trivial,by first|rfl|trivial⟩
  | false =>
   (refine Ja ?_;unhygienic intros)
   rw [e1]
   refine Aa2 (ih (i+1) (by omega) (by omega)) (r:=r) (by simp) fun o=>?_
   rw [hd,Bz1,if_neg (by simp [hx])];exact ⟨by first|rfl|trivial,by first|rfl|trivial⟩
theorem Gn3 (p:HP) (a:Option Addr) (ro:Bool) (c:Nat) (l:List Int) (g:FuncId) (f:Int→Bool) {e:TypeId} [ks:IsSl p a ro e 1 l.length c (l.map int)] (hl:l.length≤A4) (hf:∀ x,CtP A3 g [int x] [] (.bool (f x))) :
  CtP A3 E7 [.slice a l.length c,.func (.func g) ⟨[]⟩ ⟨[]⟩] [p] (.bool (l.any f)):=by
 have j:CtP A3 D9 [.slice a l.length c,.func (.func g) ⟨[]⟩ ⟨[]⟩] [p] (int (Bz1 f 0 l)):=by
  refine CtP.of L9 rfl fun h r=>Tr.eq (A94 ..) ?_;refine Je ?_
  exact Aa2 (Go2 p a ro c l g f hl hf _ 0 rfl (by omega)) (r:=r) (by simp) fun o=>⟨rfl,rfl⟩
 refine CtP.of Az3 rfl fun h r=>Tr.eq (Az5 ..) ?_;refine Je ?_
 refine B47 j (r:=r) (by simp) ?_
 (refine Ja ?_;unhygienic intros)
 refine Ys fun o=>?_
 rw [E29];exact ⟨by first|rfl|trivial,by first|rfl|trivial⟩
theorem Hj9:∀ (l m:List Int),l.length=m.length→eqs (l.map int) (m.map int)=some (decide (l=m))
 | [],[],_=>rfl
 | [],_::_,h=>by simp at h
 | _::_,[],h=>by simp at h
 | a::l,b::m,h=>by
  have ih:=Hj9 l m (by simpa using h)
  simp only [List.map_cons,eqs,eq1,decide_true,ih]
  by_cases h1:a=b<;>by_cases h2:l=m<;>simp [h1,h2]
theorem Gm2:∀ (l:List Int),H1 (List.replicate l.length (TypeDesc.int .i64)) (l.map int)=true
 | []=>rfl
 | a::l=>by
  have:=Gm2 l
  simp only [List.length_cons,List.replicate_succ,List.map_cons,H1,decide_true,this,Bool.and_self]
theorem eq8 {α:Type} (l m:List Int) (hl:l.length=8) (hm:m.length=8) (k:Bool→Option α):A67 PR G07 (l.map int) (m.map int) k=k (decide (l=m)):=by
 have e:Ak2 PR 8 G07=some (List.replicate 8 (TypeDesc.int .i64)):=by kernel_rfl
 have f1:=Gm2 l;have f2:=Gm2 m
 rw [hl] at f1;rw [hm] at f2
 rw [A67,e]
 simp only [f1,f2,Hj9 l m (by omega),Bool.and_self,ckB,cond_true,eqK]
theorem I98 (p:ProcS):Ct A3 Du7 [.agg ⟨B6 p⟩] [] fun v own=>v=.bool (okS p)∧own []:=by
 have h8:=p.len
 refine Ct.of H72 rfl fun h r=>Tr.eq (Ia9 ..) ?_;refine Je ?_
 (refine Ja ?_;unhygienic intros)
 refine Tr.cond (fun h1=>?_) fun h1=>?_
 ·refine Ys fun o=>?_
  refine ⟨?_,o.sub⟩
  unfold okS;rw [h1];rfl
 (refine Ja ?_;unhygienic intros)
 refine Tr.cond (fun h2=>?_) fun h2=>?_
 ·refine Ys fun o=>?_
  refine ⟨?_,o.sub⟩
  unfold okS;rw [h1,h2];rfl
 (refine Ja ?_;unhygienic intros)
 refine G26 0 rfl [int p.state,int p.parent,int p.group,int p.code,int p.pending,int p.mask,int p.ignored,int p.caught] (p.fds.map int) [] (by simp [B6]) 1 8 8 8 ⟨by simp [h8],by omega,by simp,by simp [B6],by omega,by omega⟩ ?_
 refine Je ?_
 have J:=Gn3 (e:=B1) (slX false B1 1 (some ⟨b,8,none⟩) p.fds.length 8 ([int p.state,int p.parent,int p.group,int p.code,int p.pending,int p.mask,int p.ignored,int p.caught],[]) (p.fds.map int)) (some ⟨b,8,none⟩) false 8 p.fds Bq3 (fun f=>decide (f<0) || decide (f>12)) (by rw [h8];simp [A4]) I44
 rw [h8] at J
 refine Tr.pcall (J) ?_;refine Je ?_;(refine Ja ?_;unhygienic intros)
 refine E04 0 rfl (B6 p) (by simp [B6]) ?_
 refine Je ?_
 cases h3:p.fds.any fun f=>decide (f<0) || decide (f>12) with
 | true =>
  (refine Ja ?_;unhygienic intros)
  refine Ys fun o=>?_
  refine ⟨?_,o.sub⟩
  unfold okS;rw [h1,h2,h3];rfl
 | false =>
  (refine Ja ?_;unhygienic intros)
  have e:okS p=if p.state=2 then p.pending==0 && decide (p.fds=Gc6) else p.code==0:=by unfold okS;rw [h1,h2,h3];rfl
  rw [e]
  by_cases h4:p.state=2
  ·refine Yt (by simpa using h4) ?_
   rw [if_pos h4]
   (repeat' first|refine Gu ?_|(with_reducible first|refine Gn fun b h=>?_|apply Gx|apply Gy|rintro px rfl|apply Gw|refine fun(h:H)=>?_|intro hb)|refine Gs ?_|refine Gt ?_|exact Gz rfl|fail)
   rw [show ([int 0,int 0,int 0,int 0,int 0,int 0,int 0,int 0]:List Value)=Gc6.map int from rfl,eq8 _ _ h8 rfl]
   (repeat' first|refine Gu ?_|(with_reducible first|refine Gn fun b h=>?_|apply Gx|apply Gy|rintro px rfl|apply Gw|refine fun(h:H)=>?_|intro hb)|refine Gs ?_|refine Gt ?_|exact Gz rfl|fail)
   refine Ys fun o=>?_
   exact ⟨rfl,o.sub⟩
  ·refine Yf (by simpa using h4) ?_
   rw [if_neg h4]
   (refine Ja ?_;unhygienic intros)
   refine Ys fun o=>?_
   exact ⟨rfl,o.sub⟩
theorem I63 (a:Option Addr) (c:Nat) (cs:List Value) (j:Nat) (n:Int) (hj:j+2≤cs.length) (hm:cs.length≤A4):Ct A3 Bn4 [.slice a cs.length c,int j,int n] [slC false A1 1 a cs.length c cs] fun v own =>
  (∃ ok,v=.bool ok)∧own [slC false A1 1 a cs.length c (if 0≤n∧n≤65535 then (cs.set j (.int .u8 ((b8 (n / 256)).toNat:Int))).set (j+1) (.int .u8 ((b8 n).toNat:Int)) else cs)]:=by
 simp only [A4] at hm
 have e1:IntKind.wrap .i64 ((cs.length:Int)-2)=(cs.length:Int)-2:=by rw [A8];omega
 have e2:=wN j
 refine Ct.of Hn0 rfl fun h r=>Tr.eq (Hj1 ..) ?_;refine Je ?_
 rw [e1,e2]
 (refine Ja ?_;unhygienic intros)
 by_cases h:0≤n∧n≤65535
 ·refine Yf (by simp;omega) ?_
  rw [if_pos h]
  (refine Ja ?_;unhygienic intros;repeat(refine Gw ?_;rintro px rfl;refine Ja ?_;unhygienic intros))
  rw [Int.toNat_natCast,show Int.fdiv n (2 ^ 8)=n / 256 by rw [Int.fdiv_eq_ediv_of_nonneg _ (by omega)];rfl,A15,A15]
  refine Je ?_
  refine Tr.xVS (cs':=cs.set j (.int .u8 ((b8 (n / 256)).toNat:Int))) ⟨by omega,rfl,rfl⟩ fun h=>?_
  (refine Ja ?_;unhygienic intros)
  rw [Int.toNat_natCast]
  refine Je ?_
  refine Tr.xVS (cs':=(cs.set j (.int .u8 ((b8 (n / 256)).toNat:Int))).set (j+1) (.int .u8 ((b8 n).toNat:Int))) ⟨by simp;omega,rfl,rfl⟩ fun h=>?_
  refine Ys fun o=>?_
  exact ⟨⟨_,rfl⟩,o.sub⟩
 ·refine Yt (by simp;omega) ?_
  rw [if_neg h]
  refine Ys fun o=>?_
  exact ⟨⟨_,rfl⟩,o.sub⟩
theorem Eg9 (l:List UInt8) (j:Nat) (x:UInt8):(A0 l).set j (.int .u8 (x.toNat:Int))=A0 (l.set j x):=by simp [A0,List.map_set]
theorem Ek2 (a:Option Addr) (c m:Nat) (l:List UInt8) (j:Nat) (n:Int) (hm:l.length=m) (hj:j+2≤m) (h1:l[j]?=some 0) (h2:l[j+1]?=some 0) (hl:m≤A4):Ct A3 Bn4 [.slice a m c,int j,int n] [slC false A1 1 a m c (A0 l)] fun v own =>
  (∃ ok,v=.bool ok)∧own [slC false A1 1 a m c (A0 ((l.set j (hi2 n)).set (j+1) (lo2 n)))]:=by
 subst hm
 have J:=I63 a c (A0 l) j n (by rw [N9];omega) (by rw [N9];omega)
 rw [N9] at J
 have e:(if 0≤n∧n≤65535 then ((A0 l).set j (.int .u8 ((b8 (n / 256)).toNat:Int))).set (j+1) (.int .u8 ((b8 n).toNat:Int)) else A0 l)=A0 ((l.set j (hi2 n)).set (j+1) (lo2 n)):=by
  unfold hi2 lo2
  split
  ·rw [Eg9,Eg9]
  ·rw [E42 h1,E42 h2]
 rw [e] at J
 exact J
def two (l:List UInt8) (j:Nat):Int:=byI l j*256+byI l (j+1)
theorem Ij4 (x y:UInt8):De7 .i64 (IntKind.wrap .i64 (IntKind.wrap .i64 (x.toNat:Int)*2 ^ 8)) (IntKind.wrap .i64 (y.toNat:Int))=(x.toNat:Int)*256+y.toNat:=by
 have hx:=x.toNat_lt;have hy:=y.toNat_lt
 have e1:IntKind.wrap .i64 (IntKind.wrap .i64 (x.toNat:Int)*2 ^ 8)=((x.toNat*256:Nat):Int):=by rw [Ab5,A8];omega
 rw [e1,Ab5]
 unfold De7
 have e0:IntKind.bits .i64=64:=rfl
 rw [e0,BitVec.ofInt_natCast,BitVec.ofInt_natCast,BitVec.toNat_or,BitVec.toNat_ofNat,BitVec.toNat_ofNat,Nat.mod_eq_of_lt (by omega),Nat.mod_eq_of_lt (by omega)]
 have e2:x.toNat*256 ||| y.toNat=x.toNat*256+y.toNat:=by
  have:=Nat.two_pow_add_eq_or_of_lt (i:=8) (b:=y.toNat) (by omega) x.toNat
  rw [show 2 ^ 8*x.toNat=x.toNat*256 by omega] at this
  exact this.symm
 rw [e2,A8];omega
theorem Gb9 (a:Option Addr) (c n:Nat) (l:List UInt8) (j:Nat) (hn:l.length=n) (hj:j+2≤n) (hm:n≤A4):CtP A3 B89 [.slice a n c,int j] [slC false A1 1 a n c (A0 l)] (.tuple ⟨[int (two l j),.bool true]⟩):=by
 simp only [A4] at hm
 have e1:IntKind.wrap .i64 ((n:Int)-2)=(n:Int)-2:=by rw [A8];omega
 have e2:=wN j
 refine CtP.of Hg6 rfl fun h r=>Tr.eq (Hk1 ..) ?_;refine Je ?_
 rw [e1,e2]
 (refine Ja ?_;unhygienic intros)
 refine Yf (by simp;omega) ?_
 (refine Ja ?_;unhygienic intros;repeat(refine Gw ?_;rintro px rfl;refine Ja ?_;unhygienic intros))
 rw [Int.toNat_natCast]
 refine Je ?_
 refine Tr.xIntS (v:=byI l j) (Ac9 (by omega)) ?_
 (refine Ja ?_;unhygienic intros)
 rw [Int.toNat_natCast]
 refine Je ?_
 refine Tr.xIntS (v:=byI l (j+1)) (Ac9 (by omega)) ?_
 refine Ys fun o=>?_
 rw [Ij4];exact ⟨rfl,rfl⟩
theorem I26 (a:Option Addr) (c:Nat) (p:ProcS):Ct A3 P4 [.agg ⟨B6 p⟩,.slice a 24 c] [slC false A1 1 a 24 c (A0 (List.replicate 24 0))] fun v own=>v=.bool (okS p)∧own [slC false A1 1 a 24 c (A0 (if okS p then N0 p else List.replicate 24 0))]:=by
 refine Ct.of I3 rfl fun h r=>Tr.eq (Hv8 ..) ?_;refine Je ?_
 refine Yn fun b1 h=>?_
 (refine Ja ?_;intros)
 refine Yc (I98 p) ?_;rintro _ h ⟨rfl,o⟩<;>(refine Jf o ?_;intros)
 cases hk:okS p with
 | false =>
  (refine Ja ?_;intros)
  refine Ys fun o=>?_
  rw [if_neg (by simp)]
  exact ⟨rfl,o.sub⟩
 | true =>
  simp only [if_true]
  obtain ⟨st,pa,gr,co,pe,ma,ig,ca,fds,len⟩:=p
  match fds,len with
  | [f0,f1,f2,f3,f4,f5,f6,f7],len =>
  (refine Ja ?_;intros)
  rename_i b2 h2
  refine Aa5 2 rfl fun hl hc _=>?_
  simp only [List.map]
  refine Tr.jmp I3 (Tr.eq (A86 ..) ?_);(try simp only[Nr,Nl,wl,Nat.reduceAdd,Nat.reduceMul,Int.reduceToNat])
  (refine Jd ?_;intros;repeat(refine Gw ?_;rintro px rfl;refine Jd ?_;intros))
  refine Tr.jmp I3 (Tr.eq (A86 ..) ?_);(try simp only[Nr,Nl,wl,Nat.reduceAdd,Nat.reduceMul,Int.reduceToNat])
  (refine Jd ?_;intros)
  refine Tr.jmp I3 (Tr.eq (A86 ..) ?_);(try simp only[Nr,Nl,wl,Nat.reduceAdd,Nat.reduceMul,Int.reduceToNat])
  (refine Jd ?_;intros)
  refine Tr.jmp I3 (Tr.eq (A86 ..) ?_);(try simp only[Nr,Nl,wl,Nat.reduceAdd,Nat.reduceMul,Int.reduceToNat])
  (refine Jd ?_;intros)
  refine Tr.jmp I3 (Tr.eq (A86 ..) ?_);(try simp only[Nr,Nl,wl,Nat.reduceAdd,Nat.reduceMul,Int.reduceToNat])
  (refine Jd ?_;intros)
  simp only [A15,Eg9,List.replicate,List.set_cons_zero,List.set_cons_succ,Nat.mul_one]
  refine Tr.jmp I3 (Tr.eq (A93 ..) ?_);(try simp only[Nr,Nl,wl,Nat.reduceAdd,Nat.reduceMul,Int.reduceToNat])
  (refine Jd ?_;intros)
  refine Yc (Ek2 (some px) c 24 [b8 st,b8 pa,b8 gr,b8 co,0,0,0,0,0,0,0,0,0,0,0,0,0,0,0,0,0,0,0,0] 4 pe rfl (by omega) rfl rfl (by simp [A4])) ?_;rintro _ h ⟨⟨_,rfl⟩,o⟩<;>(refine Jf o ?_;intros)
  refine Tr.jmp I3 (Tr.eq (A93 ..) ?_);(try simp only[Nr,Nl,wl,Nat.reduceAdd,Nat.reduceMul,Int.reduceToNat])
  (refine Jd ?_;intros)
  refine Yc (Ek2 (some px) c 24 [b8 st,b8 pa,b8 gr,b8 co,hi2 pe,lo2 pe,0,0,0,0,0,0,0,0,0,0,0,0,0,0,0,0,0,0] 6 ma rfl (by omega) rfl rfl (by simp [A4])) ?_;rintro _ h ⟨⟨_,rfl⟩,o⟩<;>(refine Jf o ?_;intros)
  refine Tr.jmp I3 (Tr.eq (A93 ..) ?_);(try simp only[Nr,Nl,wl,Nat.reduceAdd,Nat.reduceMul,Int.reduceToNat])
  (refine Jd ?_;intros)
  refine Yc (Ek2 (some px) c 24 [b8 st,b8 pa,b8 gr,b8 co,hi2 pe,lo2 pe,hi2 ma,lo2 ma,0,0,0,0,0,0,0,0,0,0,0,0,0,0,0,0] 8 ig rfl (by omega) rfl rfl (by simp [A4])) ?_;rintro _ h ⟨⟨_,rfl⟩,o⟩<;>(refine Jf o ?_;intros)
  refine Tr.jmp I3 (Tr.eq (A93 ..) ?_);(try simp only[Nr,Nl,wl,Nat.reduceAdd,Nat.reduceMul,Int.reduceToNat])
  (refine Jd ?_;intros)
  refine Yc (Ek2 (some px) c 24 [b8 st,b8 pa,b8 gr,b8 co,hi2 pe,lo2 pe,hi2 ma,lo2 ma,hi2 ig,lo2 ig,0,0,0,0,0,0,0,0,0,0,0,0,0,0] 10 ca rfl (by omega) rfl rfl (by simp [A4])) ?_;rintro _ h ⟨⟨_,rfl⟩,o⟩<;>(refine Jf o ?_;intros)
  refine Tr.jmp I3 (Tr.eq (A93 ..) ?_);(try simp only[Nr,Nl,wl,Nat.reduceAdd,Nat.reduceMul,Int.reduceToNat])
  (refine Jd ?_;intros)
  refine Tr.jmp I3 (Tr.eq (Z7 ..) ?_);(try simp only[Nr,Nl,wl,Nat.reduceAdd,Nat.reduceMul,Int.reduceToNat])
  (refine Jd ?_;intros)
  refine Tr.jmp I3 (Tr.eq (Z7 ..) ?_);(try simp only[Nr,Nl,wl,Nat.reduceAdd,Nat.reduceMul,Int.reduceToNat])
  (refine Jd ?_;intros)
  refine Tr.jmp I3 (Tr.eq (Z7 ..) ?_);(try simp only[Nr,Nl,wl,Nat.reduceAdd,Nat.reduceMul,Int.reduceToNat])
  (refine Jd ?_;intros)
  refine Tr.jmp I3 (Tr.eq (Z7 ..) ?_);(try simp only[Nr,Nl,wl,Nat.reduceAdd,Nat.reduceMul,Int.reduceToNat])
  (refine Jd ?_;intros)
  refine Tr.jmp I3 (Tr.eq (Z7 ..) ?_);(try simp only[Nr,Nl,wl,Nat.reduceAdd,Nat.reduceMul,Int.reduceToNat])
  (refine Jd ?_;intros)
  refine Tr.jmp I3 (Tr.eq (Z7 ..) ?_);(try simp only[Nr,Nl,wl,Nat.reduceAdd,Nat.reduceMul,Int.reduceToNat])
  (refine Jd ?_;intros)
  refine Tr.jmp I3 (Tr.eq (Z7 ..) ?_);(try simp only[Nr,Nl,wl,Nat.reduceAdd,Nat.reduceMul,Int.reduceToNat])
  (refine Jd ?_;intros)
  refine Tr.jmp I3 (Tr.eq (Z7 ..) ?_);(try simp only[Nr,Nl,wl,Nat.reduceAdd,Nat.reduceMul,Int.reduceToNat])
  (refine Jd ?_;intros)
  refine Tr.jmp I3 (Tr.eq (Z7 ..) ?_);(try simp only[Nr,Nl,wl,Nat.reduceAdd,Nat.reduceMul,Int.reduceToNat])
  (refine Jd ?_;intros)
  simp only [A15,Eg9,List.set_cons_zero,List.set_cons_succ,Nat.mul_one]
  rw [show (.int .u8 167:Value)=.int .u8 ((167:UInt8).toNat:Int) from rfl,Eg9]
  simp only [List.set_cons_zero,List.set_cons_succ]
  refine Tr.pcall (Gq8 (slC false A1 1 (some px) 24 c (A0 [b8 st,b8 pa,b8 gr,b8 co,hi2 pe,lo2 pe,hi2 ma,lo2 ma,hi2 ig,lo2 ig,hi2 ca,lo2 ca,b8 f0,b8 f1,b8 f2,b8 f3,b8 f4,b8 f5,b8 f6,b8 f7,167,0,0,0])) (some px) false 24 c c [b8 st,b8 pa,b8 gr,b8 co,hi2 pe,lo2 pe,hi2 ma,lo2 ma,hi2 ig,lo2 ig,hi2 ca,lo2 ca,b8 f0,b8 f1,b8 f2,b8 f3,b8 f4,b8 f5,b8 f6,b8 f7,167,0,0,0] 21 (by simp) (by simp [A4])) ?_
  refine Je ?_
  (refine Ja ?_;intros)
  rw [Dz4]
  (refine Jd ?_;intros)
  refine Ys fun o=>?_
  rw [Eg9] at o
  simp only [List.set_cons_zero,List.set_cons_succ] at o
  simp only [N0,Au5,put2,List.map,List.cons_append,List.nil_append]
  exact ⟨trivial,o.sub⟩
abbrev Gp7 (k:Nat):HP:=pt k (.cells By2 false [int 24,.func (.func P4) ⟨[]⟩ ⟨[]⟩,.func (.func Y7) ⟨[]⟩ ⟨[]⟩])
theorem H09 (k:Nat) (f:ProcS):Ct A3 W3 [P0 k,.agg ⟨B6 f⟩] [Gp7 k] fun v own=>(okS f=true∧∃ a,v=.tuple ⟨[.slice a 24 24,.bool true]⟩∧own [Gp7 k,slC false A1 1 a 24 24 (A0 (N0 f))])∨(okS f=false∧v=.tuple ⟨[.slice none 0 0,.bool false]⟩∧own [Gp7 k]):=by
 refine Ct.of Dc1 rfl fun h r=>Tr.eq (Dd1 ..) ?_;refine Je ?_
 (refine Ja ?_;intros)
 refine Tr.ck ⟨by omega,by omega,by simp [A4]⟩ ?_
 refine Yn fun b1 h=>?_
 rw [show I1 (Int.toNat 24) [.int .u8 0]=A0 (List.replicate 24 0) from rfl]
 refine Ai6 0 rfl 1 24 rfl (by omega) ?_
 simp only [List.set_cons_zero]
 refine Je ?_
 (refine Jb ?_;intros)
 refine Yb (Yf rfl ?_)
 (refine Jb ?_;intros)
 refine Yc (I26 (some ⟨b1,0,none⟩) 24 f) ?_;rintro _ h ⟨rfl,o⟩<;>(refine Jg o ?_;intros)
 refine Ys fun o=>(?_:Tr _ _ _ _) o;refine Je ?_
 cases hk:okS f with
 | false =>
  (refine Ja ?_;intros)
  refine Ys fun o=>?_
  exact .inr ⟨rfl,rfl,o.sub⟩
 | true =>
  (refine Ja ?_;intros)
  refine Ys fun o=>?_
  simp only [if_true] at o
  exact .inl ⟨rfl,_,rfl,o.sub⟩
theorem I18:Ct A3 Au1 [int 24,.func (.func P4) ⟨[]⟩ ⟨[]⟩,.func (.func Y7) ⟨[]⟩ ⟨[]⟩] [] fun v own=>∃ k,v=P0 k∧own [Gp7 k]:=by
 refine Ct.of Em7 rfl fun h r=>Tr.eq (Ek4 ..) ?_;refine Je ?_
 rw [show mm2 false (mm2 true 24 0) 64=24 from rfl]
 (refine Ja ?_;intros)
 refine Ys fun o=>?_
 exact ⟨_,rfl,o.sub⟩
theorem G95:Ct A3 Bi0 [] [] fun v own=>∃ k,v=P0 k∧own [Gp7 k]:=by
 refine Ct.of He6 rfl fun h r=>Tr.eq (Hc9 ..) ?_;refine Je ?_
 refine Yc (I18) ?_;rintro _ h ⟨k,rfl,o⟩<;>(refine Jf o ?_;intros)
 refine Ys fun o=>?_
 exact ⟨_,rfl,o.sub⟩
theorem Gx2 (f:ProcS):Ct A3 Ba3 [.agg ⟨B6 f⟩] [] fun v own=>(okS f=true∧∃ a,v=.tuple ⟨[.slice a 24 24,.bool true]⟩∧own [slC false A1 1 a 24 24 (A0 (N0 f))])∨(okS f=false∧v=.tuple ⟨[.slice none 0 0,.bool false]⟩∧own []):=by
 refine Ct.of G24 rfl fun h r=>Tr.eq (G35 ..) ?_;refine Je ?_
 (refine Ja ?_;intros)
 refine Yc (G95) ?_;rintro _ h ⟨k,rfl,o⟩<;>(refine Jg o ?_;intros)
 refine Yc (H09 k f) ?_
 rintro v h (⟨hk,a,rfl,o⟩|⟨hk,rfl,o⟩)
 ·refine (?_:Tr _ _ _ _) o
  refine Je ?_
  (refine Ja ?_;intros)
  refine Ys fun o=>?_
  exact .inl ⟨hk,a,rfl,o.sub⟩
 ·refine (?_:Tr _ _ _ _) o
  refine Je ?_
  (refine Ja ?_;intros)
  refine Ys fun o=>?_
  exact .inr ⟨hk,rfl,o.sub⟩
def Ao8 (l:List UInt8):ProcS:=⟨byI l 0,byI l 1,byI l 2,byI l 3,two l 4,two l 6,two l 8,two l 10,[byI l 12,byI l 13,byI l 14,byI l 15,byI l 16,byI l 17,byI l 18,byI l 19],rfl⟩
def isS (l:List UInt8):Bool:=okS (Ao8 l) && decide (N0 (Ao8 l)=l)
theorem I35 (a:Option Addr) (c:Nat) (l:List UInt8) (hl:l.length=24):Ct A3 Y7 [.slice a 24 c] [slC false A1 1 a 24 c (A0 l)] fun v own=>v=.tuple ⟨[.agg ⟨B6 (Ao8 l)⟩,.bool (isS l)]⟩∧own [slC false A1 1 a 24 c (A0 l)]:=by
 have key:∀ a1:Option Addr,CtP A3 B9 [.slice a1 24 24,.slice a 24 c] [slC false A1 1 a1 24 24 (A0 (N0 (Ao8 l))),slC false A1 1 a 24 c (A0 l)] (.bool (decide (N0 (Ao8 l)=l))):=fun a1=>by
  have e:=Bf4 (Ao8 l)
  have J:=E81 (slC false A1 1 a1 (N0 (Ao8 l)).length 24 (A0 (N0 (Ao8 l)))) (slC false A1 1 a l.length c (A0 l)) a1 false 24 a false c (N0 (Ao8 l)) l (by rw [e];simp [A4])
  rwa [hl,e] at J
 refine Ct.of P2 rfl fun h r=>Tr.eq (Hv4 ..) ?_;refine Je ?_
 refine Yn fun b1 h=>?_
 refine Aa5 1 rfl fun hl2 hc2 _=>?_
 (refine Ja ?_;intros;repeat(refine Gw ?_;rintro px rfl;refine Ja ?_;intros))
 refine Tr.xIntS (v:=byI l 0) (Ac9 (by omega)) ?_
 (refine Ja ?_;intros)
 refine Tr.xIntS (v:=byI l 1) (Ac9 (by omega)) ?_
 (refine Ja ?_;intros)
 refine Tr.xIntS (v:=byI l 2) (Ac9 (by omega)) ?_
 (refine Ja ?_;intros)
 refine Tr.xIntS (v:=byI l 3) (Ac9 (by omega)) ?_
 (refine Ja ?_;intros)
 simp only [byI,Ab5]
 refine Tr.jmp P2 (Tr.eq (Ba9 ..) ?_);(try simp only[Nr,Nl,wl,Nat.reduceAdd,Nat.reduceMul,Int.reduceToNat])
 (refine Jd ?_;intros)
 refine Tr.pcall (Gb9 (some px) c 24 l 4 hl (by omega) (by simp [A4])) ?_;refine Je ?_;(refine Ja ?_;intros)
 refine Tr.jmp P2 (Tr.eq (Ba9 ..) ?_);(try simp only[Nr,Nl,wl,Nat.reduceAdd,Nat.reduceMul,Int.reduceToNat])
 (refine Jd ?_;intros)
 refine Tr.pcall (Gb9 (some px) c 24 l 6 hl (by omega) (by simp [A4])) ?_;refine Je ?_;(refine Ja ?_;intros)
 refine Tr.jmp P2 (Tr.eq (Ba9 ..) ?_);(try simp only[Nr,Nl,wl,Nat.reduceAdd,Nat.reduceMul,Int.reduceToNat])
 (refine Jd ?_;intros)
 refine Tr.pcall (Gb9 (some px) c 24 l 8 hl (by omega) (by simp [A4])) ?_;refine Je ?_;(refine Ja ?_;intros)
 refine Tr.jmp P2 (Tr.eq (Ba9 ..) ?_);(try simp only[Nr,Nl,wl,Nat.reduceAdd,Nat.reduceMul,Int.reduceToNat])
 (refine Jd ?_;intros)
 refine Tr.pcall (Gb9 (some px) c 24 l 10 hl (by omega) (by simp [A4])) ?_;refine Je ?_;(refine Ja ?_;intros)
 refine Tr.jmp P2 (Tr.eq (Ba9 ..) ?_);(try simp only[Nr,Nl,wl,Nat.reduceAdd,Nat.reduceMul,Int.reduceToNat])
 (refine Jd ?_;intros)
 refine Tr.jmp P2 (Tr.eq (Z4 ..) ?_);(try simp only[Nr,Nl,wl,Nat.reduceAdd,Nat.reduceMul,Int.reduceToNat])
 (refine Jd ?_;intros)
 refine Tr.xIntS (v:=byI l 12) (Ac9 (by omega)) ?_
 (refine Jd ?_;intros)
 simp only [byI,Ab5]
 refine Tr.jmp P2 (Tr.eq (Z4 ..) ?_);(try simp only[Nr,Nl,wl,Nat.reduceAdd,Nat.reduceMul,Int.reduceToNat])
 (refine Jd ?_;intros)
 refine Tr.xIntS (v:=byI l 13) (Ac9 (by omega)) ?_
 (refine Jd ?_;intros)
 simp only [byI,Ab5]
 refine Tr.jmp P2 (Tr.eq (Z4 ..) ?_);(try simp only[Nr,Nl,wl,Nat.reduceAdd,Nat.reduceMul,Int.reduceToNat])
 (refine Jd ?_;intros)
 refine Tr.xIntS (v:=byI l 14) (Ac9 (by omega)) ?_
 (refine Jd ?_;intros)
 simp only [byI,Ab5]
 refine Tr.jmp P2 (Tr.eq (Z4 ..) ?_);(try simp only[Nr,Nl,wl,Nat.reduceAdd,Nat.reduceMul,Int.reduceToNat])
 (refine Jd ?_;intros)
 refine Tr.xIntS (v:=byI l 15) (Ac9 (by omega)) ?_
 (refine Jd ?_;intros)
 simp only [byI,Ab5]
 refine Tr.jmp P2 (Tr.eq (Z4 ..) ?_);(try simp only[Nr,Nl,wl,Nat.reduceAdd,Nat.reduceMul,Int.reduceToNat])
 (refine Jd ?_;intros)
 refine Tr.xIntS (v:=byI l 16) (Ac9 (by omega)) ?_
 (refine Jd ?_;intros)
 simp only [byI,Ab5]
 refine Tr.jmp P2 (Tr.eq (Z4 ..) ?_);(try simp only[Nr,Nl,wl,Nat.reduceAdd,Nat.reduceMul,Int.reduceToNat])
 (refine Jd ?_;intros)
 refine Tr.xIntS (v:=byI l 17) (Ac9 (by omega)) ?_
 (refine Jd ?_;intros)
 simp only [byI,Ab5]
 refine Tr.jmp P2 (Tr.eq (Z4 ..) ?_);(try simp only[Nr,Nl,wl,Nat.reduceAdd,Nat.reduceMul,Int.reduceToNat])
 (refine Jd ?_;intros)
 refine Tr.xIntS (v:=byI l 18) (Ac9 (by omega)) ?_
 (refine Jd ?_;intros)
 simp only [byI,Ab5]
 refine Tr.jmp P2 (Tr.eq (Z4 ..) ?_);(try simp only[Nr,Nl,wl,Nat.reduceAdd,Nat.reduceMul,Int.reduceToNat])
 (refine Jd ?_;intros)
 refine Tr.xIntS (v:=byI l 19) (Ac9 (by omega)) ?_
 (refine Jd ?_;intros)
 simp only [byI,Ab5]
 refine Tr.jmp P2 (Tr.eq (Z4 ..) ?_);(try simp only[Nr,Nl,wl,Nat.reduceAdd,Nat.reduceMul,Int.reduceToNat])
 refine Yf rfl ?_
 refine Tr.xAgg (xs:=B6 (Ao8 l)) ⟨Nat.le_of_ble_eq_true rfl,rfl⟩ ?_
 refine Yc (Gx2 (Ao8 l)) ?_
 rintro v h (⟨hk,a1,rfl,o⟩|⟨hk,rfl,o⟩)
 ·refine (?_:Tr _ _ _ _) o
  refine Je ?_
  refine Tr.dx ?_
  refine Tr.dx ?_
  refine Tr.dx ?_
  refine Tr.xAgg (xs:=B6 (Ao8 l)) ⟨Nat.le_of_ble_eq_true rfl,rfl⟩ ?_
  refine Yb (Yt rfl ?_)
  refine Tr.pcall (key a1) ?_
  refine Tr.dx ?_
  refine Tr.xAgg (xs:=B6 (Ao8 l)) ⟨Nat.le_of_ble_eq_true rfl,rfl⟩ ?_
  (refine Ja ?_;intros)
  refine Ys fun o=>(?_:Tr _ _ _ _) o;refine Je ?_
  (refine Ja ?_;intros)
  refine Ys fun o=>?_
  exact ⟨by unfold isS;rw [hk,Bool.true_and],o.sub⟩
 ·refine (?_:Tr _ _ _ _) o
  refine Je ?_
  refine Tr.dx ?_
  refine Tr.dx ?_
  refine Tr.dx ?_
  refine Tr.xAgg (xs:=B6 (Ao8 l)) ⟨Nat.le_of_ble_eq_true rfl,rfl⟩ ?_
  (refine Ja ?_;intros)
  refine Ys fun o=>?_
  exact ⟨by unfold isS;rw [hk];rfl,o.sub⟩
theorem Hp3 (k:Nat) (pb:HP) (ro:Bool) (a:Option Addr) (c:Nat) (l:List UInt8) (hl:l.length=24) [ks:IsSl pb a ro A1 1 24 c (A0 l)]:Ct A3 W2 [P0 k,.slice a 24 c] [Gp7 k,pb] fun v own=>v=.tuple ⟨[.agg ⟨B6 (if isS l then Ao8 l else .zero)⟩,.bool (isS l)]⟩∧own [Gp7 k,pb]:=by
 refine Ct.of Dd0 rfl fun h r=>Tr.eq (Dc6 ..) ?_;refine Je ?_
 (refine Ja ?_;intros)
 refine Yf rfl ?_
 (refine Jb ?_;intros)
 refine Yc (Eo8 24 pb ro a c l hl (by simp [A4])) ?_;rintro _ h ⟨a1,c1,rfl,o⟩<;>(refine Jg o ?_;intros)
 refine Yc (I35 a1 c1 l hl) ?_;rintro _ h ⟨rfl,o⟩<;>(refine Jg o ?_;intros)
 cases hk:isS l with
 | false =>
  (refine Ja ?_;intros)
  refine Ys fun o=>?_
  exact ⟨rfl,o.sub⟩
 | true =>
  (refine Ja ?_;intros)
  refine Ys fun o=>?_
  exact ⟨rfl,o.sub⟩
def H2 (l:List UInt8):ProcS × Int:=if l.all (·==0) then (.zero,0) else if isS l then (Ao8 l,1) else (.zero,2)
theorem Hw1 (pb:HP) (ro:Bool) (a:Option Addr) (c:Nat) (l:List UInt8) (hl:l.length=24) [ks:IsSl pb a ro A1 1 24 c (A0 l)]:Ct A3 Aw1 [.slice a 24 c] [pb] fun v own=>v=.tuple ⟨[.agg ⟨B6 (H2 l).1⟩,int (H2 l).2]⟩∧own [pb]:=by
 refine Ct.of G42 rfl fun h r=>Tr.eq (G54 ..) ?_;refine Je ?_
 refine Yn fun b1 h=>?_
 refine Yb (Yt rfl ?_)
 refine Tr.pcall (Eu0 24 pb ro a c l hl (by simp [A4])) ?_;refine Je ?_;(refine Jb ?_;intros)
 refine Ys fun o=>(?_:Tr _ _ _ _) o;refine Je ?_
 cases hb:l.all (·==0) with
 | true =>
  (refine Ja ?_;intros)
  refine Ys fun o=>?_
  exact ⟨by unfold H2;rw [hb];rfl,o.sub⟩
 | false =>
  (refine Jb ?_;intros)
  refine Yc (G95) ?_;rintro _ h ⟨k,rfl,o⟩<;>(refine Jg o ?_;intros)
  refine Yc (Hp3 k pb ro a c l hl) ?_;rintro _ h ⟨rfl,o⟩<;>(refine Jg o ?_;intros)
  cases hk:isS l with
  | false =>
   (refine Ja ?_;intros)
   refine Ys fun o=>?_
   exact ⟨by unfold H2;rw [hb,hk];rfl,o.sub⟩
  | true =>
   (refine Ja ?_;intros)
   refine Ys fun o=>?_
   exact ⟨by unfold H2;rw [hb,hk];rfl,o.sub⟩
theorem Ig4 (a:Option Addr) (c:Nat) (l:List UInt8) (hl:l.length=24):Ct A3 Aw1 [.slice a 24 c] [slC false A1 1 a 24 c (A0 l)] fun v own=>v=.tuple ⟨[.agg ⟨B6 (H2 l).1⟩,int (H2 l).2]⟩∧own [slC false A1 1 a 24 c (A0 l)]:=Hw1 (slC false A1 1 a 24 c (A0 l)) false a c l hl
def B7 (l:List UInt8) (a:Nat) (b:List UInt8):List UInt8:=l.take a++b++l.drop (a+b.length)
theorem Q2 {l b:List UInt8} {a:Nat} (h:a+b.length≤l.length):(B7 l a b).length=l.length:=by simp [B7];omega
theorem Bq8 {l b:List UInt8} {a:Nat} (h:a+b.length≤l.length) (i:Nat):(B7 l a b)[i]?=if a≤i∧i<a+b.length then b[i-a]? else l[i]?:=by
 unfold B7
 by_cases h1:i<a
 ·rw [if_neg (by omega),List.append_assoc,List.getElem?_append_left (by simp;omega),List.getElem?_take,if_pos h1]
 ·rw [List.append_assoc,List.getElem?_append_right (by simp;omega),List.length_take,Nat.min_eq_left (by omega)]
  by_cases h2:i<a+b.length
  ·rw [if_pos ⟨by omega,h2⟩,List.getElem?_append_left (by omega)]
  ·rw [if_neg (by omega),List.getElem?_append_right (by omega),List.getElem?_drop];congr 1;omega
def slice (l:List UInt8) (a n:Nat):List UInt8:=(l.drop a).take n
theorem B48 (l:List UInt8) (a n i:Nat):(slice l a n)[i]?=if i<n then l[a+i]? else none:=by
 unfold slice;rw [List.getElem?_take];split
 ·rw [List.getElem?_drop]
 ·rfl
theorem D55 {l:List UInt8} {a n:Nat} (h:a+n≤l.length):(slice l a n).length=n:=by simp [slice];omega
abbrev Rg:=List (Nat × Nat)
def Ao9:List UInt8→Rg→List (List UInt8)→List UInt8
 | l,(lo,_)::rg,x::m=>Ao9 (B7 l lo x) rg m
 | l,_,_=>l
structure Fit (size:Nat) (rg:Rg) (m:List (List UInt8)):Prop where
 len:m.length=rg.length
 each:∀ (j lo n:Nat),rg[j]?=some (lo,n)→lo+n≤size∧∃ x,m[j]?=some x∧x.length=n
def RgOk (rg:Rg):Prop:=∀ (i j lo n lo' n':Nat),i≠j→rg[i]?=some (lo,n)→rg[j]?=some (lo',n')→lo+n≤lo'∨lo'+n'≤lo
theorem Fit.tail {size:Nat} {p:Nat × Nat} {rg:Rg} {x:List UInt8} {m:List (List UInt8)} (f:Fit size (p::rg) (x::m)):Fit size rg m:=⟨by simpa using f.len,fun j lo n h=>by simpa using f.each (j+1) lo n (by simpa using h)⟩
theorem Fit.head {size lo n:Nat} {rg:Rg} {x:List UInt8} {m:List (List UInt8)} (f:Fit size ((lo,n)::rg) (x::m)):lo+n≤size∧x.length=n:=by
 obtain ⟨h,y,hy,hl⟩:=f.each 0 lo n rfl
 simp at hy;subst hy;exact ⟨h,hl⟩
theorem RgOk.tail {p:Nat × Nat} {rg:Rg} (k:RgOk (p::rg)):RgOk rg:=fun i j lo n lo' n' hij hi hj=>k (i+1) (j+1) lo n lo' n' (by omega) (by simpa using hi) (by simpa using hj)
theorem B15:∀ {rg:Rg} {m:List (List UInt8)} {l:List UInt8},Fit l.length rg m→(Ao9 l rg m).length=l.length
 | [],m,l,f=>by simp [Ao9]
 | (lo,n)::rg,[],l,f=>by simp [Ao9]
 | (lo,n)::rg,x::m,l,f=>by
  have h:=f.head
  have e:=Q2 (l:=l) (b:=x) (a:=lo) (by omega)
  unfold Ao9
  rw [B15 (by rw [e];exact f.tail),e]
theorem Dz6:∀ {rg:Rg} {m:List (List UInt8)} {l:List UInt8},Fit l.length rg m→∀ i,(∀ (j lo n:Nat),rg[j]?=some (lo,n)→i<lo∨lo+n≤i)→(Ao9 l rg m)[i]?=l[i]?
 | [],m,l,f,i,h=>by simp [Ao9]
 | (lo,n)::rg,[],l,f,i,h=>by simp [Ao9]
 | (lo,n)::rg,x::m,l,f,i,h=>by
  have h0:=f.head
  have e:=Q2 (l:=l) (b:=x) (a:=lo) (by omega)
  unfold Ao9
  rw [Dz6 (by rw [e];exact f.tail) i (fun j lo' n' hj=>h (j+1) lo' n' (by simpa using hj)),Bq8 (by omega),if_neg]
  have:=h 0 lo n rfl;omega
theorem Di1:∀ {rg:Rg} {m:List (List UInt8)} {l:List UInt8},Fit l.length rg m→RgOk rg→∀ (j lo n:Nat) (x:List UInt8),rg[j]?=some (lo,n)→m[j]?=some x→∀ i,i<n→(Ao9 l rg m)[lo+i]?=x[i]?
 | [],m,l,f,k,j,lo,n,x,h,hx,i,hi=>by simp at h
 | (lo0,n0)::rg,[],l,f,k,j,lo,n,x,h,hx,i,hi=>by simp at hx
 | (lo0,n0)::rg,x0::m,l,f,k,j,lo,n,x,h,hx,i,hi=>by
  have h0:=f.head
  have e:=Q2 (l:=l) (b:=x0) (a:=lo0) (by omega)
  unfold Ao9
  cases j with
  | zero =>
   simp at h hx
   obtain ⟨rfl,rfl⟩:=h;subst hx
   rw [Dz6 (by rw [e];exact f.tail) (lo0+i) (fun j lo' n' hj=>by
    have:=k 0 (j+1) lo0 n0 lo' n' (by omega) rfl (by simpa using hj)
    omega),Bq8 (by omega),if_pos (by omega)]
   congr 1;omega
  | succ j=>exact Di1 (by rw [e];exact f.tail) k.tail j lo n x (by simpa using h) (by simpa using hx) i hi
theorem Ep1 {rg:Rg} {m:List (List UInt8)} {l:List UInt8} (f:Fit l.length rg m) (k:RgOk rg) {j lo n:Nat} {x:List UInt8} (h:rg[j]?=some (lo,n)) (hx:m[j]?=some x) {a c:Nat} (hc:a+c≤n):slice (Ao9 l rg m) (lo+a) c=slice x a c:=by
 refine List.ext_getElem? fun i=>?_
 rw [B48,B48]
 split
 ·rw [Nat.add_assoc,Di1 f k j lo n x h hx (a+i) (by omega)]
 ·rfl
theorem Fit.set {size:Nat} {rg:Rg} {m:List (List UInt8)} (f:Fit size rg m) {j lo n:Nat} (h:rg[j]?=some (lo,n)) {y:List UInt8} (hy:y.length=n):Fit size rg (m.set j y):=⟨by simpa using f.len,fun i lo' n' hi=>by
 obtain ⟨h1,z,hz,hl⟩:=f.each i lo' n' hi
 refine ⟨h1,?_⟩
 by_cases hij:j=i
 ·subst hij
  rw [h] at hi;cases hi
  exact ⟨y,by simp [(List.getElem?_eq_some_iff.1 hz).1],hy⟩
 ·exact ⟨z,by rw [List.getElem?_set_ne hij];exact hz,hl⟩⟩
theorem H13 {rg:Rg} {m:List (List UInt8)} {l:List UInt8} (f:Fit l.length rg m) (k:RgOk rg) {j lo n:Nat} {x:List UInt8} (h:rg[j]?=some (lo,n)) (hx:m[j]?=some x) {a:Nat} {b:List UInt8} (hc:a+b.length≤n):B7 (Ao9 l rg m) (lo+a) b=Ao9 l rg (m.set j (B7 x a b)):=by
 obtain ⟨h1,y,hy,hl⟩:=f.each j lo n h
 rw [hx] at hy;cases hy
 have e:=Q2 (l:=x) (b:=b) (a:=a) (by omega)
 have f2:=f.set h (y:=B7 x a b) (by omega)
 have lp:=B15 f
 refine List.ext_getElem? fun i=>?_
 rw [Bq8 (by omega)]
 by_cases hi:lo≤i∧i<lo+n
 ·obtain ⟨i',rfl⟩:∃ i',i=lo+i':=⟨i-lo,by omega⟩
  rw [Di1 f2 k j lo n (B7 x a b) h (by simp [(List.getElem?_eq_some_iff.1 hx).1]) i' (by omega),Bq8 (by omega),Di1 f k j lo n x h hx i' (by omega)]
  by_cases h2:a≤i'∧i'<a+b.length
  ·rw [if_pos (by omega),if_pos h2];congr 1;omega
  ·rw [if_neg (by omega),if_neg h2]
 ·rw [if_neg (by omega)]
  by_cases ho:∃ (j' lo' n':Nat),rg[j']?=some (lo',n')∧lo'≤i∧i<lo'+n'
  ·obtain ⟨j',lo',n',hj',h3,h4⟩:=ho
   have hne:j≠j':=fun e=>by subst e;rw [h] at hj';cases hj';omega
   obtain ⟨_,z,hz,_⟩:=f.each j' lo' n' hj'
   obtain ⟨i',rfl⟩:∃ i',i=lo'+i':=⟨i-lo',by omega⟩
   rw [Di1 f k j' lo' n' z hj' hz i' (by omega),Di1 f2 k j' lo' n' z hj' (by rw [List.getElem?_set_ne hne];exact hz) i' (by omega)]
  ·have hall:∀ (j' lo' n':Nat),rg[j']?=some (lo',n')→i<lo'∨lo'+n'≤i:=fun j' lo' n' hj'=>by
    by_cases hh:lo'≤i∧i<lo'+n'
    ·exact absurd ⟨j',lo',n',hj',hh.1,hh.2⟩ ho
    ·omega
   rw [Dz6 f i hall,Dz6 f2 i hall]
structure RecS where
 kind:Int
 index:Int
deriving DecidableEq
abbrev G9 (r:RecS):List Value:=[int r.kind,int r.index]
structure Fr where
 S:KS
 N:Nat
 env:Int
 caps:List Int
 rg:Rg
structure FrOk (F:Fr):Prop where
 ok:KOk F.N F.S
 hN:F.N+1<1000000000
 ne:0<F.caps.length
 small:F.caps.length≤40
 len:F.rg.length=F.caps.length
 env:¬ (F.env<0∨F.env≥(F.S.envs.length:Int))
 pl:∀ (j:Nat) (cap:Int) (lo n:Nat),F.caps[j]?=some cap→F.rg[j]?=some (lo,n)→∀ (a m:Nat) (right:Int),right=1∨right=2→a+m≤n→Q4 F.S.tabs F.S.regs F.env cap right a m=(((lo+a:Nat):Int),0)
 dj:RgOk F.rg
 own:∃ lo,F.rg[0]?=some (lo,492)
 brs:∀ (j lo n:Nat),0<j→F.rg[j]?=some (lo,n)→n=40
def Fr.at (F:Fr) (m:List (List UInt8)):KS:=An6 F.S (Ao9 F.S.mem F.rg m)
structure CX where
 m:List (List UInt8)
 bad:List RecS
def Aj7:Nat→List RecS→List MapEntry
 | _,[]=>[]
 | i,r::l=>{ key:=.agg ⟨G9 r⟩,val:=int 1,born:=i }::Aj7 (i+1) l
abbrev I97 (c k:Nat) (env:Int) (caps:List Int) (bad:List RecS) (x:Option Addr × Nat × Nat):List HP :=
 [pt c (.cells Dq5 false [P0 k,int env,.slice x.1 caps.length x.2.1,.map (some x.2.2)]),slC false B2 1 x.1 caps.length x.2.1 (caps.map int),pt x.2.2 (.map (Aj7 0 bad) bad.length)]
def N4 (c k:Nat) (env:Int) (caps:List Int) (bad:List RecS):HP:=hex fun x=>sl (I97 c k env caps bad x)
instance {c k:Nat} {env:Int} {caps:List Int} {bad:List RecS}:Chk (N4 c k env caps bad) (I97 c k env caps bad):=⟨rfl⟩
abbrev cmF (c k:Nat) (F:Fr) (x:CX):List HP:=[D5 k (F.at x.m),N4 c k F.env F.caps x.bad,pu (Fit F.S.mem.length F.rg x.m)]
def cmC (c k:Nat) (F:Fr) (x:CX):HP:=hex fun _:Unit=>sl (cmF c k F x)
instance {c k:Nat} {F:Fr} {x:CX}:Chk (cmC c k F x) (fun _:Unit=>cmF c k F x):=⟨rfl⟩
def H9 (nc:Nat) (kind:Int):Int:=if kind=1 then 8 else if kind=2 then 12 else if kind=3 then 3+nc else 1
def E4 (nc:Nat) (r:RecS):Option (Nat × Nat × Nat) :=
 if r.index<0∨r.index≥H9 nc r.kind then none
 else if r.kind=1 then some (0,24*r.index.toNat,24)
 else if r.kind=2 then some (0,192+8*r.index.toNat,8)
 else if r.kind=3 then if r.index<4 then some (0,288+40*r.index.toNat,40) else some (r.index.toNat-3,0,40)
 else if r.kind=4 then some (0,448,40)
 else some (0,488,4)
def Hm9 (caps:List Int):Option (Nat × Nat × Nat)→List Value
 | some (j,a,n)=>[int (caps.getD j 0),int a,int n]
 | none=>[int 0,int 0,int 0]
theorem Gl8 (c k:Nat) (env:Int) (caps:List Int) (bad:List RecS) (kind:Int) (hs:caps.length≤40):CtP A3 U8 [P0 c,int kind] [N4 c k env caps bad] (int (H9 caps.length kind)):=by
 have e:IntKind.wrap .i64 (IntKind.wrap .i64 (4+(caps.length:Int))-1)=3+(caps.length:Int):=by rw [A8,A8];omega
 refine CtP.of Ed4 rfl fun h r=>Tr.eq (Ec3 ..) ?_;refine Je ?_
 refine A9 (N4 c k env caps bad) fun ⟨a,n,mb⟩=>?_;refine Je ?_
 unfold H9
 by_cases h1:kind=1
 ·refine Yt (by simpa using h1) ?_
  rw [if_pos h1];exact Jz
 refine Yf (by simpa using h1) ?_
 rw [if_neg h1]
 by_cases h2:kind=2
 ·refine Yt (by simpa using h2) ?_
  rw [if_pos h2];exact Jz
 refine Yf (by simpa using h2) ?_
 rw [if_neg h2]
 by_cases h3:kind=3
 ·refine Yt (by simpa using h3) ?_
  rw [if_pos h3];(refine Ja ?_;intros)
  refine Ys fun o=>?_
  rw [e];exact ⟨by first|rfl|trivial,by first|rfl|trivial⟩
 refine Yf (by simpa using h3) ?_
 rw [if_neg h3];exact Jz
theorem E56 (c k:Nat) (env:Int) (caps:List Int) (bad:List RecS) (rc:RecS) (hs:caps.length≤40) (hn:0<caps.length):Ct A3 S6 [P0 c,.agg ⟨G9 rc⟩] [N4 c k env caps bad] fun v own =>
  v=.tuple ⟨[.agg ⟨Hm9 caps (E4 caps.length rc)⟩,.bool (E4 caps.length rc).isSome]⟩∧own [N4 c k env caps bad]:=by
 have hg:∀ j,j<caps.length→(caps.map int)[j]?=some (int (caps.getD j 0)):=fun j hj=>by rw [List.getElem?_map,M9 0 hj];rfl
 refine Ct.of D37 rfl fun h r=>Tr.eq (D34 ..) ?_;refine Je ?_
 (refine Jb ?_;intros)
 refine Tr.orG (c:=decide (rc.index≥H9 caps.length rc.kind)) (fun hb=>?_) ?_
 ·(refine Ja ?_;intros)
  refine Tr.pcall (Gl8 c k env caps bad rc.kind hs) ?_;refine Je ?_;exact Jz
 by_cases hi:rc.index<0∨rc.index≥H9 caps.length rc.kind
 ·refine Yt (by simp only [Bool.or_eq_true,decide_eq_true_eq];exact hi) ?_
  have e:E4 caps.length rc=none:=by unfold E4;rw [if_pos hi]
  rw [e]
  (refine Ja ?_;intros)
  refine Ys fun o=>?_
  exact ⟨rfl,o.sub⟩
 refine Yf (by simp only [Bool.or_eq_false_iff,decide_eq_false_iff_not];omega) ?_
 refine A9 (N4 c k env caps bad) fun ⟨a,n,mb⟩=>?_;refine Je ?_
 (refine Ja ?_;intros;repeat(refine Gw ?_;rintro px rfl;refine Ja ?_;intros))
 refine Tr.xIntS (v:=caps.getD 0 0) (hg 0 hn) ?_
 (refine Ja ?_;intros)
 by_cases h1:rc.kind=1
 ·refine Yt (by simpa using h1) ?_
  have e:E4 caps.length rc=some (0,24*rc.index.toNat,24):=by unfold E4;rw [if_neg hi,if_pos h1]
  have hm:H9 caps.length rc.kind=8:=by unfold H9;rw [if_pos h1]
  have e1:IntKind.wrap .i64 (24*rc.index)=((24*rc.index.toNat:Nat):Int):=by rw [A8];omega
  rw [e,e1]
  (refine Ja ?_;intros)
  refine A5 (N4 c k env caps bad) ⟨some px,n,mb⟩ ?_;refine Je ?_
  refine Ys fun o=>?_
  exact ⟨rfl,o.sub⟩
 refine Yf (by simpa using h1) ?_
 by_cases h2:rc.kind=2
 ·(refine Ja ?_;intros)
  refine Yt (by simpa using h2) ?_
  have e:E4 caps.length rc=some (0,192+8*rc.index.toNat,8):=by unfold E4;rw [if_neg hi,if_neg h1,if_pos h2]
  have hm:H9 caps.length rc.kind=12:=by unfold H9;rw [if_neg h1,if_pos h2]
  have e1:IntKind.wrap .i64 (192+IntKind.wrap .i64 (8*rc.index))=((192+8*rc.index.toNat:Nat):Int):=by rw [A8,A8];omega
  rw [e,e1]
  (refine Ja ?_;intros)
  refine A5 (N4 c k env caps bad) ⟨some px,n,mb⟩ ?_;refine Je ?_
  refine Ys fun o=>?_
  exact ⟨rfl,o.sub⟩
 (refine Ja ?_;intros)
 refine Yf (by simpa using h2) ?_
 (refine Jb ?_;intros)
 refine Tr.andG (c:=decide (rc.index<4)) (fun hb=>?_) ?_
 ·exact Jz
 by_cases h3:rc.kind=3
 ·have hm:H9 caps.length rc.kind=3+caps.length:=by unfold H9;rw [if_neg h1,if_neg h2,if_pos h3]
  by_cases h4:rc.index<4
  ·refine Yt (by simp [h3,h4]) ?_
   have e:E4 caps.length rc=some (0,288+40*rc.index.toNat,40):=by unfold E4;rw [if_neg hi,if_neg h1,if_neg h2,if_pos h3,if_pos h4]
   have e1:IntKind.wrap .i64 (288+IntKind.wrap .i64 (40*rc.index))=((288+40*rc.index.toNat:Nat):Int):=by rw [A8,A8];omega
   rw [e,e1]
   (refine Ja ?_;intros)
   refine A5 (N4 c k env caps bad) ⟨some px,n,mb⟩ ?_;refine Je ?_
   refine Ys fun o=>?_
   exact ⟨rfl,o.sub⟩
  ·refine Yf (by simp [h4]) ?_
   have e:E4 caps.length rc=some (rc.index.toNat-3,0,40):=by unfold E4;rw [if_neg hi,if_neg h1,if_neg h2,if_pos h3,if_neg h4]
   have e1:IntKind.wrap .i64 (IntKind.wrap .i64 (rc.index-4)+1)=((rc.index.toNat-3:Nat):Int):=by rw [A8,A8];omega
   rw [e,e1]
   (refine Ja ?_;intros)
   refine Yt (by simpa using h3) ?_
   (refine Ja ?_;intros)
   rw [Int.toNat_natCast]
   refine Je ?_
   refine Tr.xIntS (v:=caps.getD (rc.index.toNat-3) 0) (hg _ (by omega)) ?_
   (refine Ja ?_;intros)
   refine A5 (N4 c k env caps bad) ⟨some px,n,mb⟩ ?_;refine Je ?_
   refine Ys fun o=>?_
   exact ⟨rfl,o.sub⟩
 refine Yf (by simp [h3]) ?_
 (refine Ja ?_;intros)
 refine Yf (by simpa using h3) ?_
 (refine Ja ?_;intros)
 by_cases h4:rc.kind=4
 ·refine Yt (by simpa using h4) ?_
  have e:E4 caps.length rc=some (0,448,40):=by unfold E4;rw [if_neg hi,if_neg h1,if_neg h2,if_neg h3,if_pos h4]
  rw [e]
  (refine Ja ?_;intros)
  refine A5 (N4 c k env caps bad) ⟨some px,n,mb⟩ ?_;refine Je ?_
  refine Ys fun o=>?_
  exact ⟨rfl,o.sub⟩
 refine Yf (by simpa using h4) ?_
 have e:E4 caps.length rc=some (0,488,4):=by unfold E4;rw [if_neg hi,if_neg h1,if_neg h2,if_neg h3,if_neg h4]
 rw [e]
 (refine Ja ?_;intros)
 refine A5 (N4 c k env caps bad) ⟨some px,n,mb⟩ ?_;refine Je ?_
 refine Ys fun o=>?_
 exact ⟨rfl,o.sub⟩
theorem Ij3:Ak2 PR 8 A6=some [TypeDesc.int .i64,TypeDesc.int .i64]:=by kernel_rfl
theorem I47:Eu4 PR A6=some true:=by kernel_rfl
instance {a b:Int}:KeyC PR A6 (.agg ⟨[.int .i64 a,.int .i64 b]⟩):=⟨fun x=>by
 unfold NN.keyN;rw [Ij3,I47];rfl⟩
theorem E92 (r:RecS):∀ (l:List RecS) (i j:Nat),Ak0 (.agg ⟨G9 r⟩) (Aj7 j l) i=some (if r ∈ l then some (i+l.idxOf r) else none)
 | [],i,j=>by simp [Aj7,Ak0]
 | q::l,i,j=>by
  have ih:=E92 r l (i+1) (j+1)
  obtain ⟨qk,qi⟩:=q
  obtain ⟨rk,ri⟩:=r
  simp only [Aj7,Ak0,Bl6,G9,eqs,eq1,decide_true,List.mem_cons] at ih ⊢
  by_cases h:rk=qk∧ri=qi
  ·obtain ⟨rfl,rfl⟩:=h
   simp
  ·have e:(rk==qk && (ri==qi && true))=false:=by
    rw [Bool.and_eq_false_iff]
    by_cases h1:rk=qk
    ·right;simp;intro h2;exact h ⟨h1,h2⟩
    ·left;simpa using h1
   have hne:¬ (({ kind:=rk,index:=ri }:RecS)={ kind:=qk,index:=qi }):=fun e=>by
    rw [RecS.mk.injEq] at e;exact h e
   rw [e]
   simp only [hne,false_or]
   rw [ih,List.idxOf_cons]
   have:(({ kind:=qk,index:=qi }:RecS)=={ kind:=rk,index:=ri })=false:=by
    rw [beq_eq_false_iff_ne];exact fun e=>hne e.symm
   rw [this,cond_false]
   split<;>simp;omega
theorem D01:∀ (l:List RecS) (j:Nat),(Aj7 j l).length=l.length
 | [],_=>rfl
 | _::l,j=>by simp [Aj7,D01 l]
theorem Hg9:∀ (l:List RecS) (j i:Nat) (r:RecS),l[i]?=some r→(Aj7 j l)[i]?=some { key:=.agg ⟨G9 r⟩,val:=int 1,born:=j+i }
 | [],_,i,r,h=>by simp at h
 | q::l,j,0,r,h=>by simp at h;subst h;rfl
 | q::l,j,i+1,r,h=>by
  have:=Hg9 l (j+1) i r (by simpa using h)
  rw [Aj7,List.getElem?_cons_succ,this];congr 2;omega
theorem Bo3 (r:RecS) (l:List RecS):Am9 (int 0) (.agg ⟨G9 r⟩) (Aj7 0 l)=some (if r ∈ l then (int 1,true) else (int 0,false)):=by
 unfold Am9
 rw [E92]
 by_cases h:r ∈ l
 ·rw [if_pos h,if_pos h]
  have hi:=List.idxOf_lt_length_of_mem h
  have hg:l[l.idxOf r]?=some r:=by rw [List.getElem?_eq_getElem hi,List.getElem_idxOf]
  simp only [Nat.zero_add]
  rw [Hg9 l 0 _ r hg]
 ·rw [if_neg h,if_neg h]
theorem Hl4:∀ (l m:List RecS) (j:Nat),Aj7 j (l++m)=Aj7 j l++Aj7 (j+l.length) m
 | [],m,j=>by simp [Aj7]
 | q::l,m,j=>by simp only [List.cons_append,Aj7,Hl4 l m (j+1),List.length_cons];congr 2;congr 1;omega
theorem Er3 {r:RecS} {l:List RecS} (h:¬ r ∈ l):Ea0 (int 0) (.agg ⟨G9 r⟩) (Aj7 0 l) l.length=some (int 0,l.length,.map (Aj7 0 l++[{ key:=.agg ⟨G9 r⟩,val:=int 0,born:=l.length }]) (l.length+1)):=by
 unfold Ea0;rw [E92,if_neg h]
theorem G74 (r:RecS) (e:MapEntry):∀ (l:List RecS) (i j:Nat),¬ r ∈ l→Ak0 (.agg ⟨G9 r⟩) (Aj7 j l++[e]) i=Ak0 (.agg ⟨G9 r⟩) [e] (i+l.length)
 | [],i,j,h=>by simp [Aj7]
 | q::l,i,j,h=>by
  have ih:=G74 r e l (i+1) (j+1) (fun hm=>h (List.mem_cons_of_mem _ hm))
  have hq:Bl6 (.agg ⟨G9 r⟩) (.agg ⟨G9 q⟩)=some false:=by
   obtain ⟨qk,qi⟩:=q
   obtain ⟨rk,ri⟩:=r
   simp only [Bl6,G9,eqs,eq1,decide_true]
   congr 1
   rw [Bool.and_eq_false_iff]
   by_cases h1:rk=qk
   ·right;simp;intro h2;exact h (by subst h1 h2;exact List.mem_cons_self ..)
   ·left;simpa using h1
  show (match Bl6 (.agg ⟨G9 r⟩) (.agg ⟨G9 q⟩) with
   | some true=>some (some i)
   | some false=>Ak0 (.agg ⟨G9 r⟩) (Aj7 (j+1) l++[e]) (i+1)
   | none=>none)=_
  rw [hq]
  simp only
  rw [ih];congr 1;simp;omega
theorem D50 {r:RecS} {l:List RecS} (h:¬ r ∈ l):Am9 (int 0) (.agg ⟨G9 r⟩) (Aj7 0 l++[{ key:=.agg ⟨G9 r⟩,val:=int 0,born:=l.length }])=some (int 0,true):=by
 unfold Am9
 rw [G74 r _ l 0 0 h]
 obtain ⟨rk,ri⟩:=r
 simp only [Ak0,Bl6,G9,eqs,eq1,decide_true,BEq.rfl,Bool.and_self,Nat.zero_add]
 rw [List.getElem?_append_right (by rw [D01];exact Nat.le_refl _),D01];simp
theorem Dk6:∀ (l:List RecS) (j:Nat) (n:Nat) (e:MapEntry) (i:Nat),e.born=n→j+l.length≤n→Br3 (n:Int) (Aj7 j l++[e]) i=some (i+l.length)
 | [],j,n,e,i,h,hl=>by simp [Aj7,Br3,h]
 | q::l,j,n,e,i,h,hl=>by
  have ih:=Dk6 l (j+1) n e (i+1) h (by simp at hl;omega)
  simp only [Aj7,List.cons_append,Br3]
  have:(((j:Nat):Int)==(n:Int))=false:=by simp at hl ⊢;omega
  rw [this,cond_false,ih];congr 1;simp;omega
theorem G84 (f:MapEntry→MapEntry) (e:MapEntry):∀ (l:List MapEntry),modN f l.length (l++[e])=l++[f e]
 | []=>rfl
 | q::l=>by simp [modN,G84 f e l]
theorem Eu1 (r:RecS) (l:List RecS):modN (fun e=>{ e with val:=int (IntKind.wrap .i64 (0+1)) }) l.length (Aj7 0 l++[{ key:=.agg ⟨G9 r⟩,val:=int 0,born:=l.length }])=Aj7 0 (l++[r]):=by
 rw [show l.length=(Aj7 0 l).length from (D01 l 0).symm,G84,Hl4]
 simp [Aj7,D01];decide
theorem Fr.mem_at (F:Fr) (m:List (List UInt8)):(F.at m).mem=Ao9 F.S.mem F.rg m:=rfl
theorem Fr.at_ok {F:Fr} (k:FrOk F) {m:List (List UInt8)} (f:Fit F.S.mem.length F.rg m):KOk F.N (F.at m):=by
 have:=k.ok
 exact ⟨this.envs,this.tabs,this.space,this.quota,by rw [Fr.mem_at,B15 f];exact this.mem,this.regs,this.may,this.mayl,this.nsect,this.sects,this.now⟩
theorem Iv3 {F:Fr} (k:FrOk F) {r:RecS} {j a n:Nat} (h:E4 F.caps.length r=some (j,a,n)):∃ lo z,F.rg[j]?=some (lo,z)∧a+n≤z∧j<F.caps.length:=by
 obtain ⟨lo0,h0⟩:=k.own
 have hl:=k.len;have hn:=k.ne
 unfold E4 at h
 split at h;· cases h
 rename_i hi
 split at h
 ·rename_i h1
  have hm:H9 F.caps.length r.kind=8:=by unfold H9;rw [if_pos h1]
  cases h;exact ⟨lo0,492,h0,by omega,hn⟩
 rename_i h1
 split at h
 ·rename_i h2
  have hm:H9 F.caps.length r.kind=12:=by unfold H9;rw [if_neg h1,if_pos h2]
  cases h;exact ⟨lo0,492,h0,by omega,hn⟩
 rename_i h2
 split at h
 ·rename_i h3
  have hm:H9 F.caps.length r.kind=3+F.caps.length:=by unfold H9;rw [if_neg h1,if_neg h2,if_pos h3]
  split at h
  ·cases h;exact ⟨lo0,492,h0,by omega,hn⟩
  ·cases h
   have hlt:r.index.toNat-3<F.rg.length:=by omega
   have hg:=List.getElem?_eq_getElem hlt
   generalize hx:F.rg[r.index.toNat-3]=x at hg
   obtain ⟨lo,z⟩:=x
   have:=k.brs _ lo z (by omega) hg
   exact ⟨lo,z,hg,by omega,by omega⟩
 split at h<;>(cases h;exact ⟨lo0,492,h0,by omega,hn⟩)
def O8 (kind:Int):Nat:=if kind=1 then 24 else if kind=2 then 8 else if kind=3 then 40 else if kind=4 then 40 else 4
theorem B99 {nc:Nat} {r:RecS} {j a n:Nat} (h:E4 nc r=some (j,a,n)):n=O8 r.kind:=by
 unfold E4 at h;unfold O8
 split at h;· cases h
 split at h
 ·rename_i h1;cases h;rw [if_pos h1]
 rename_i h1
 rw [if_neg h1]
 split at h
 ·rename_i h2;cases h;rw [if_pos h2]
 rename_i h2
 rw [if_neg h2]
 split at h
 ·rename_i h3;rw [if_pos h3];split at h<;>(cases h;rfl)
 rename_i h3
 rw [if_neg h3]
 split at h
 ·rename_i h4;cases h;rw [if_pos h4]
 ·rename_i h4;cases h;rw [if_neg h4]
def rdX (X:CX) (r:RecS):Option (List UInt8) :=
 match E4 X.m.length r with
 | some (j,a,n)=>if r ∈ X.bad then none else some (slice (X.m.getD j []) a n)
 | none=>none
def wrX (X:CX) (r:RecS) (b:List UInt8) (ok:Bool):Bool × CX :=
 match E4 X.m.length r with
 | some (j,a,n)=>if ok=true∧¬ r ∈ X.bad then (true,{ X with m:=X.m.set j (B7 (X.m.getD j []) a b) }) else (false,X)
 | none=>(false,X)
theorem Fit.mlen {F:Fr} (k:FrOk F) {m:List (List UInt8)} (f:Fit F.S.mem.length F.rg m):m.length=F.caps.length:=by rw [f.len,k.len]
theorem En9 {F:Fr} (k:FrOk F) {m:List (List UInt8)} (f:Fit F.S.mem.length F.rg m) {r:RecS} {j a n:Nat} (h:E4 F.caps.length r=some (j,a,n)) :
  ∃ lo z cap,F.caps[j]?=some cap∧F.rg[j]?=some (lo,z)∧a+n≤z∧m[j]?=some (m.getD j [])∧(m.getD j []).length=z∧lo+z≤F.S.mem.length∧cap=F.caps.getD j 0:=by
 obtain ⟨lo,z,hr,ha,hj⟩:=Iv3 k h
 obtain ⟨h1,x,hx,hl⟩:=f.each j lo z hr
 have e:m.getD j []=x:=by rw [List.getD_eq_getElem?_getD,hx];rfl
 exact ⟨lo,z,F.caps.getD j 0,M9 0 hj,hr,ha,by rw [e];exact hx,by rw [e];exact hl,h1,rfl⟩
theorem I75 {F:Fr} (k:FrOk F) {X:CX} (f:Fit F.S.mem.length F.rg X.m) {r:RecS} {l:List UInt8} (h:rdX X r=some l):l.length=O8 r.kind:=by
 unfold rdX at h
 rw [f.mlen k] at h
 cases hp:E4 F.caps.length r with
 | none=>rw [hp] at h;cases h
 | some p =>
  obtain ⟨j,a,n⟩:=p
  rw [hp] at h
  obtain ⟨lo,z,cap,_,_,ha,hx,hl,_⟩:=En9 k f hp
  simp only at h
  split at h
  ·cases h
  ·cases h;rw [D55 (by omega),B99 hp]
theorem Je3 {F:Fr} (k:FrOk F) {m:List (List UInt8)} (f:Fit F.S.mem.length F.rg m) {r:RecS} {j a n:Nat} (h:E4 F.caps.length r=some (j,a,n)) :
  W0 (F.at m) F.env ⟨1,F.caps.getD j 0,(a:Int),(n:Int),0,0,[]⟩=((0,0,slice (m.getD j []) a n),F.at m):=by
 obtain ⟨lo,z,cap,hc,hr,ha,hx,hl,hz,rfl⟩:=En9 k f h
 have hp:=k.pl j _ lo z hc hr a n 1 (.inl rfl) ha
 have lp:=B15 f
 have hb:Dj9 (Ao9 F.S.mem F.rg m) ((lo+a:Nat):Int) (n:Int)=some (slice (m.getD j []) a n):=by
  unfold Dj9
  rw [if_pos (by rw [lp];omega),Int.toNat_natCast,Int.toNat_natCast]
  rw [← Ep1 f k.dj hr hx ha];rfl
 have e:Au2 (F.at m).tabs (F.at m).regs (F.at m).mem F.env (F.caps.getD j 0) (a:Int) (n:Int)=(slice (m.getD j []) a n,0):=by
  unfold Au2
  rw [show Q4 (F.at m).tabs (F.at m).regs F.env (F.caps.getD j 0) 1 (a:Int) (n:Int)=(((lo+a:Nat):Int),0) from hp]
  rw [if_neg (by simp),show Dj9 (F.at m).mem _ _=_ from hb]
 unfold W0
 rw [if_neg (show ¬ (F.env<0∨F.env≥((F.at m).envs.length:Int)) from k.env)]
 unfold kDo
 rw [if_pos rfl,e]
theorem Jb4 {F:Fr} (k:FrOk F) {m:List (List UInt8)} (f:Fit F.S.mem.length F.rg m) {r:RecS} {j a n:Nat} (h:E4 F.caps.length r=some (j,a,n)) {b:List UInt8} (hb:b.length=n) :
  W0 (F.at m) F.env ⟨2,F.caps.getD j 0,(a:Int),0,0,0,b⟩=((0,0,[]),F.at (m.set j (B7 (m.getD j []) a b))):=by
 obtain ⟨lo,z,cap,hc,hr,ha,hx,hl,hz,rfl⟩:=En9 k f h
 have hp:=k.pl j _ lo z hc hr a n 2 (.inr rfl) ha
 have lp:=B15 f
 have hs:Bh5 (Ao9 F.S.mem F.rg m) ((lo+a:Nat):Int) b=some (Ao9 F.S.mem F.rg (m.set j (B7 (m.getD j []) a b))):=by
  unfold Bh5
  rw [if_pos (by rw [lp];omega),Int.toNat_natCast]
  rw [← H13 f k.dj hr hx (by omega)];rfl
 have e:Ao5 (F.at m).tabs (F.at m).regs (F.at m).mem F.env (F.caps.getD j 0) (a:Int) b=(0,Ao9 F.S.mem F.rg (m.set j (B7 (m.getD j []) a b))):=by
  unfold Ao5
  rw [hb,show Q4 (F.at m).tabs (F.at m).regs F.env (F.caps.getD j 0) 2 (a:Int) (n:Int)=(((lo+a:Nat):Int),0) from hp]
  rw [if_neg (by simp),show Bh5 (F.at m).mem _ _=_ from hs]
 unfold W0
 rw [if_neg (show ¬ (F.env<0∨F.env≥((F.at m).envs.length:Int)) from k.env)]
 unfold kDo
 rw [if_neg (show ¬ ((2:Int)=1) by decide),if_pos rfl,e];rfl
theorem I22 {F:Fr} (k:FrOk F) {X:CX} (f:Fit F.S.mem.length F.rg X.m) {r:RecS} {b:List UInt8} {ok:Bool} (hb:ok=true→b.length=O8 r.kind):Fit F.S.mem.length F.rg (wrX X r b ok).2.m:=by
 unfold wrX
 rw [f.mlen k]
 cases hp:E4 F.caps.length r with
 | none=>exact f
 | some p =>
  obtain ⟨j,a,n⟩:=p
  obtain ⟨lo,z,cap,hc,hr,ha,hx,hl,hz,_⟩:=En9 k f hp
  simp only
  split
  ·rename_i hk
   exact f.set hr (by rw [Q2 (by rw [hb hk.1,← B99 hp];omega)];exact hl)
  ·exact f
instance {caps:List Int} {o:Option (Nat × Nat × Nat)}:LenC (Hm9 caps o) 3:=⟨by cases o<;>rfl⟩
theorem Ix5 (caps:List Int) (o:Option (Nat × Nat × Nat)):(Hm9 caps o).all Value.oneCell=true:=by cases o<;>rfl
instance {caps:List Int} {o:Option (Nat × Nat × Nat)} {cs:List Value} [k:LenC cs 3]:SetsC cs 0 (Hm9 caps o) (Hm9 caps o):=⟨A31 k.ok LenC.ok (Ix5 caps o)⟩
instance {rc:RecS}:PartC (G9 rc) 0 2 (G9 rc):=⟨rfl⟩
theorem H41 (r:RecS) (l:List RecS):(if r ∈ l then (int 1,true) else (int 0,false))=(int (if r ∈ l then 1 else 0),decide (r ∈ l)):=by split<;>simp [*]
theorem H40 (r:RecS) (l:List RecS):decide ((if r ∈ l then (1:Int) else 0)>0)=decide (r ∈ l):=by split<;>simp [*]
theorem B34 (k:Nat) (S:KS) (N:Nat) (ok:KOk N S) (hN:N+1<1000000000) (env:Int) (c:CallS) (ba:Option Addr) (bc:Nat) (ro:Bool) (h5:c.op≠5) :
  Ct A3 U9 [P0 k,int env,.agg ⟨An0 c ba bc⟩] [D5 k S,slC ro A1 1 ba c.b.length bc (A0 c.b)] fun v own=>∃ x d,v=.agg ⟨[int (W0 S env c).1.1,int (W0 S env c).1.2.1,.slice x (W0 S env c).1.2.2.length d]⟩ ∧
    own [slC false A1 1 x (W0 S env c).1.2.2.length d (A0 (W0 S env c).1.2.2),D5 k (W0 S env c).2,slC ro A1 1 ba c.b.length bc (A0 c.b)]:=by
 intro h r o
 obtain ⟨pq,o1⟩:=Own.ex (f:=fun pq=>slX ro A1 1 ba c.b.length bc pq (A0 c.b)) (o.perm (.swap _ _ _))
 obtain ⟨v,h',e,x,d,rfl,o2⟩:=Ij6 k S N ok hN env c ba bc ro pq h5 h r (o1.perm (.swap _ _ _))
 refine ⟨_,h',e,x,d,rfl,?_⟩
 have o3:=o2.picks [2] rfl
 exact (Own.inex (f:=fun pq=>slX ro A1 1 ba c.b.length bc pq (A0 c.b)) pq o3).picks [1,1,0] rfl
theorem Eo9 (c k:Nat) (F:Fr) (X:CX) (rc:RecS) (ok:FrOk F):Ct A3 P3 [P0 c,.agg ⟨G9 rc⟩] [cmC c k F X] fun v own =>
  (∃ l a cp,rdX X rc=some l∧l.length=O8 rc.kind∧v=.tuple ⟨[.slice a l.length cp,.bool true]⟩∧own [slC false A1 1 a l.length cp (A0 l),cmC c k F X]) ∨
  (rdX X rc=none∧v=.tuple ⟨[.slice none 0 0,.bool false]⟩∧own [cmC c k F X]):=by
 refine Ct.of Eb3 rfl fun h r=>Tr.eq (Eb9 ..) ?_;refine Je ?_
 refine A9 (cmC c k F X) fun u=>?_;refine Je ?_
 refine L8 2 rfl fun f=>?_
 (refine Ja ?_;intros)
 refine Yc (E56 c k F.env F.caps X.bad rc ok.small ok.ne) ?_;rintro _ h ⟨rfl,o⟩<;>(refine Jg o ?_;intros)
 have em:=f.mlen ok
 cases hp:E4 F.caps.length rc with
 | none =>
  (refine Jb ?_;intros)
  refine Yb (Yt rfl ?_)
  refine Ys fun o=>(?_:Tr _ _ _ _) o;refine Je ?_
  (refine Ja ?_;intros)
  refine A5 (cmC c k F X) () ?_;refine Je ?_
  refine Ys fun o=>?_
  exact .inr ⟨by unfold rdX;rw [em,hp],rfl,o.sub⟩
 | some p =>
  obtain ⟨j,a,n⟩:=p
  refine A9 (N4 c k F.env F.caps X.bad) fun ⟨ca,cn,mb⟩=>?_;refine Je ?_
  (refine Jb ?_;intros)
  refine Tr.orG (c:=decide (rc ∈ X.bad)) (fun _=>?_) ?_
  ·(refine Ja ?_;intros)
   rw [Bo3,H41]
   (refine Ja ?_;intros)
   refine Ys fun o=>?_
   rw [H40];exact ⟨by first|rfl|trivial,by first|rfl|trivial⟩
  by_cases hb:rc ∈ X.bad
  ·rw [decide_eq_true hb]
   (refine Ja ?_;intros)
   refine A5 (N4 c k F.env F.caps X.bad) ⟨ca,cn,mb⟩ ?_;refine Je ?_
   refine A5 (cmC c k F X) () ?_;refine Je ?_
   refine Ys fun o=>?_
   exact .inr ⟨by unfold rdX;rw [em,hp];exact if_pos hb,rfl,o.sub⟩
  ·rw [decide_eq_false hb]
   refine Yf rfl ?_
   (refine Ja ?_;intros)
   refine A5 (N4 c k F.env F.caps X.bad) ⟨ca,cn,mb⟩ ?_;refine Je ?_
   have J:=I69 k (F.at X.m) F.N (F.at_ok ok f) ok.hN F.env 1 (F.caps.getD j 0) (a:Int) (n:Int) 0 0 (by decide)
   rw [Je3 ok f hp] at J
   refine Yc (J) ?_;rintro _ h ⟨y,d,rfl,o⟩<;>(refine Jf o ?_;intros)
   refine Yf rfl ?_
   (refine Ja ?_;intros)
   refine A5 (cmC c k F X) () ?_;refine Je ?_
   refine Ys fun o=>?_
   have e:rdX X rc=some (slice (X.m.getD j []) a n):=by unfold rdX;rw [em,hp];exact if_neg hb
   exact .inl ⟨_,y,d,e,I75 ok f e,rfl,o.sub⟩
theorem Dm2 (c k:Nat) (F:Fr) (X:CX) (rc:RecS) (ok:FrOk F) (bs:List UInt8) (g:Bool) (ba:Option Addr) (bc:Nat) (hb:g=true→bs.length=O8 rc.kind) :
  Ct A3 O0 [P0 c,.agg ⟨G9 rc⟩,.slice ba bs.length bc,.bool g] [cmC c k F X,slC false A1 1 ba bs.length bc (A0 bs)] fun v own =>
   v=.bool (wrX X rc bs g).1∧own [cmC c k F (wrX X rc bs g).2,slC false A1 1 ba bs.length bc (A0 bs)]:=by
 refine Ct.of D36 rfl fun h r=>Tr.eq (D35 ..) ?_;refine Je ?_
 refine A9 (cmC c k F X) fun u=>?_;refine Je ?_
 refine L8 2 rfl fun f=>?_
 (refine Ja ?_;intros)
 refine Yc (E56 c k F.env F.caps X.bad rc ok.small ok.ne) ?_;rintro _ h ⟨rfl,o⟩<;>(refine Jg o ?_;intros)
 have em:=f.mlen ok
 cases hp:E4 F.caps.length rc with
 | none =>
  (refine Jb ?_;intros)
  refine Yb (Yt rfl ?_)
  refine Ys fun o=>(?_:Tr _ _ _ _) o;refine Je ?_
  refine Yb (Yt rfl ?_)
  refine Ys fun o=>(?_:Tr _ _ _ _) o;refine Je ?_
  (refine Ja ?_;intros)
  refine A5 (cmC c k F X) () ?_;refine Je ?_
  refine Ys fun o=>?_
  have e:wrX X rc bs g=(false,X):=by unfold wrX;rw [em,hp]
  rw [e]
  exact ⟨by first|rfl|trivial,o.sub⟩
 | some p =>
  obtain ⟨j,a,n⟩:=p
  refine A9 (N4 c k F.env F.caps X.bad) fun ⟨ca,cn,mb⟩=>?_;refine Je ?_
  (refine Jb ?_;intros)
  refine Yb (Yf rfl ?_)
  refine Ys fun o=>(?_:Tr _ _ _ _) o;refine Je ?_
  (refine Jb ?_;intros)
  refine Tr.orG (c:=decide (rc ∈ X.bad)) (fun _=>?_) ?_
  ·(refine Ja ?_;intros)
   rw [Bo3,H41]
   (refine Ja ?_;intros)
   refine Ys fun o=>?_
   rw [H40];exact ⟨by first|rfl|trivial,by first|rfl|trivial⟩
  by_cases hg:g=true∧¬ rc ∈ X.bad
  ·have e:wrX X rc bs g=(true,{ X with m:=X.m.set j (B7 (X.m.getD j []) a bs) }):=by unfold wrX;rw [em,hp];exact if_pos hg
   have f2:=I22 (r:=rc) (b:=bs) (ok:=g) ok f hb
   rw [e] at f2
   obtain ⟨rfl,hg2⟩:=hg
   rw [e,decide_eq_false hg2]
   refine Yf rfl ?_
   (refine Ja ?_;intros)
   refine A5 (N4 c k F.env F.caps X.bad) ⟨ca,cn,mb⟩ ?_;refine Je ?_
   have hl:bs.length=n:=by rw [hb rfl,B99 hp]
   have J:=B34 k (F.at X.m) F.N (F.at_ok ok f) ok.hN F.env ⟨2,F.caps.getD j 0,(a:Int),0,0,0,bs⟩ ba bc false (show ((2:Int)≠5) by decide)
   rw [Jb4 ok f hp hl] at J
   refine Yc (J) ?_;rintro _ h ⟨y,d,rfl,o⟩<;>(refine Jf o ?_;intros)
   refine As5 (show Fit F.S.mem.length F.rg (X.m.set j (B7 (X.m.getD j []) a bs)) from f2) ?_
   refine A5 (cmC c k F { X with m:=X.m.set j (B7 (X.m.getD j []) a bs) }) () ?_;refine Je ?_
   refine Ys fun o=>?_
   exact ⟨rfl,o.sub⟩
  ·have e:wrX X rc bs g=(false,X):=by unfold wrX;rw [em,hp];exact if_neg hg
   rw [e]
   refine Yt ?_ ?_
   ·cases g with
    | false=>rfl
    | true=>simpa using hg
   refine A5 (N4 c k F.env F.caps X.bad) ⟨ca,cn,mb⟩ ?_;refine Je ?_
   refine A5 (cmC c k F X) () ?_;refine Je ?_
   refine Ys fun o=>?_
   exact ⟨by first|rfl|trivial,o.sub⟩
def M0 {α:Type} (dec:List UInt8→α × Int) (z:α) (X:CX) (rc:RecS):(α × Int) × CX :=
 match rdX X rc with
 | some l=>(dec l,if (dec l).2=2 then { X with bad:=X.bad++[rc] } else X)
 | none=>((z,2),X)
theorem Ek0 {X:CX} {rc:RecS} {l:List UInt8} (h:rdX X rc=some l):¬ rc ∈ X.bad:=by
 unfold rdX at h
 split at h
 ·split at h
  ·cases h
  ·assumption
 ·cases h
theorem In6 (l:List UInt8) (h:(H2 l).2≠1):(H2 l).1=.zero:=by
 unfold H2 at *;split<;>first|rfl|(split<;>first|rfl|(simp_all;done))
theorem In8 (l:List UInt8) (h:(J7 l).2≠1):(J7 l).1=.zero:=by
 unfold J7 at *;split<;>first|rfl|(split<;>first|rfl|(simp_all;done))
theorem Iq3 (l:List UInt8) (h:(D8 l).2≠1):(D8 l).1=.zero:=by
 unfold D8 at *;split<;>first|rfl|(split<;>first|rfl|(simp_all;done))
theorem I24 (c k:Nat) (F:Fr) (X:CX) (rc:RecS) (ok:FrOk F) (hk:O8 rc.kind=24):Ct A3 L1 [P0 c,.agg ⟨G9 rc⟩,.func (.func Aw1) ⟨[]⟩ ⟨[]⟩] [cmC c k F X] fun v own =>
  v=.tuple ⟨[.agg ⟨B6 (M0 H2 .zero X rc).1.1⟩,int (M0 H2 .zero X rc).1.2]⟩∧own [cmC c k F (M0 H2 .zero X rc).2]:=by
 refine Ct.of As3 rfl fun h r=>Tr.eq (Ds0 ..) ?_;refine Je ?_
 (refine Ja ?_;intros)
 refine Yc (Eo9 c k F X rc ok) ?_
 rintro v h (⟨l,a,cp,hr,hl,rfl,o⟩|⟨hr,rfl,o⟩)
 ·refine (?_:Tr _ _ _ _) o
  refine Je ?_
  have e:M0 H2 .zero X rc=(H2 l,if (H2 l).2=2 then { X with bad:=X.bad++[rc] } else X):=by unfold M0;rw [hr]
  have hb:=Ek0 hr
  rw [e]
  rw [hk] at hl
  rw [hl]
  (refine Ja ?_;intros)
  refine Yc (Ig4 a cp l hl) ?_;rintro _ h ⟨rfl,o⟩<;>(refine Jf o ?_;intros)
  by_cases h2:(H2 l).2=2
  ·refine Yt (by simpa using h2) ?_
   have hz:=In6 l (by omega)
   simp only [if_pos h2]
   refine A9 (cmC c k F X) fun u=>?_;refine Je ?_
   refine A9 (N4 c k F.env F.caps X.bad) fun ⟨ca,cn,mb⟩=>?_;refine Je ?_
   (refine Ja ?_;intros)
   rw [Bo3,if_neg hb]
   (refine Ja ?_;intros)
   rw [Er3 hb]
   (refine Ja ?_;intros)
   rw [D50 hb]
   (refine Ja ?_;intros)
   rw [Dk6 X.bad 0 X.bad.length _ 0 rfl (by omega),Nat.zero_add]
   (refine Ja ?_;intros)
   rw [Eu1]
   refine Tr.jmp As3 (Tr.eq (A95 ..) ?_);(try simp only[Nr,Nl,wl,Nat.reduceAdd,Nat.reduceMul,Int.reduceToNat])
   refine Yt (by rw [bne_iff_ne];omega) ?_
   (refine Ja ?_;intros)
   rw [show X.bad.length+1=(X.bad++[rc]).length by simp]
   refine A5 (N4 c k F.env F.caps (X.bad++[rc])) ⟨ca,cn,mb⟩ ?_;refine Je ?_
   refine A5 (cmC c k F { X with bad:=X.bad++[rc] }) () ?_;refine Je ?_
   refine Ys fun o=>?_
   exact ⟨by rw [hz]<;>rfl,o.sub⟩
  ·refine Yf (by simpa using h2) ?_
   simp only [if_neg h2]
   refine Tr.jmp As3 (Tr.eq (A95 ..) ?_);(try simp only[Nr,Nl,wl,Nat.reduceAdd,Nat.reduceMul,Int.reduceToNat])
   by_cases h1:(H2 l).2=1
   ·refine Yf (by simpa using h1) ?_
    (refine Ja ?_;intros)
    refine Ys fun o=>?_
    exact ⟨rfl,o.sub⟩
   ·refine Yt (by simpa using h1) ?_
    (refine Ja ?_;intros)
    refine Ys fun o=>?_
    exact ⟨by rw [In6 l h1]<;>rfl,o.sub⟩
 ·refine (?_:Tr _ _ _ _) o
  refine Je ?_
  have e:M0 H2 .zero X rc=((.zero,2),X):=by unfold M0;rw [hr]
  rw [e]
  (refine Ja ?_;intros)
  refine Ys fun o=>?_
  exact ⟨rfl,o.sub⟩
theorem I71 (c k:Nat) (F:Fr) (X:CX) (rc:RecS) (ok:FrOk F) (hk:O8 rc.kind=8):Ct A3 L7 [P0 c,.agg ⟨G9 rc⟩,.func (.func Aw4) ⟨[]⟩ ⟨[]⟩] [cmC c k F X] fun v own =>
  v=.tuple ⟨[.agg ⟨A74 (M0 J7 .zero X rc).1.1⟩,int (M0 J7 .zero X rc).1.2]⟩∧own [cmC c k F (M0 J7 .zero X rc).2]:=by
 refine Ct.of Ar6 rfl fun h r=>Tr.eq (Dr6 ..) ?_;refine Je ?_
 (refine Ja ?_;intros)
 refine Yc (Eo9 c k F X rc ok) ?_
 rintro v h (⟨l,a,cp,hr,hl,rfl,o⟩|⟨hr,rfl,o⟩)
 ·refine (?_:Tr _ _ _ _) o
  refine Je ?_
  have e:M0 J7 .zero X rc=(J7 l,if (J7 l).2=2 then { X with bad:=X.bad++[rc] } else X):=by unfold M0;rw [hr]
  have hb:=Ek0 hr
  rw [e]
  rw [hk] at hl
  rw [hl]
  (refine Ja ?_;intros)
  refine Yc (If3 a cp l hl) ?_;rintro _ h ⟨rfl,o⟩<;>(refine Jf o ?_;intros)
  by_cases h2:(J7 l).2=2
  ·refine Yt (by simpa using h2) ?_
   have hz:=In8 l (by omega)
   simp only [if_pos h2]
   refine A9 (cmC c k F X) fun u=>?_;refine Je ?_
   refine A9 (N4 c k F.env F.caps X.bad) fun ⟨ca,cn,mb⟩=>?_;refine Je ?_
   (refine Ja ?_;intros)
   rw [Bo3,if_neg hb]
   (refine Ja ?_;intros)
   rw [Er3 hb]
   (refine Ja ?_;intros)
   rw [D50 hb]
   (refine Ja ?_;intros)
   rw [Dk6 X.bad 0 X.bad.length _ 0 rfl (by omega),Nat.zero_add]
   (refine Ja ?_;intros)
   rw [Eu1]
   refine Tr.jmp Ar6 (Tr.eq (Bb0 ..) ?_);(try simp only[Nr,Nl,wl,Nat.reduceAdd,Nat.reduceMul,Int.reduceToNat])
   refine Yt (by rw [bne_iff_ne];omega) ?_
   (refine Ja ?_;intros)
   rw [show X.bad.length+1=(X.bad++[rc]).length by simp]
   refine A5 (N4 c k F.env F.caps (X.bad++[rc])) ⟨ca,cn,mb⟩ ?_;refine Je ?_
   refine A5 (cmC c k F { X with bad:=X.bad++[rc] }) () ?_;refine Je ?_
   refine Ys fun o=>?_
   exact ⟨by rw [hz]<;>rfl,o.sub⟩
  ·refine Yf (by simpa using h2) ?_
   simp only [if_neg h2]
   refine Tr.jmp Ar6 (Tr.eq (Bb0 ..) ?_);(try simp only[Nr,Nl,wl,Nat.reduceAdd,Nat.reduceMul,Int.reduceToNat])
   by_cases h1:(J7 l).2=1
   ·refine Yf (by simpa using h1) ?_
    (refine Ja ?_;intros)
    refine Ys fun o=>?_
    exact ⟨rfl,o.sub⟩
   ·refine Yt (by simpa using h1) ?_
    (refine Ja ?_;intros)
    refine Ys fun o=>?_
    exact ⟨by rw [In8 l h1]<;>rfl,o.sub⟩
 ·refine (?_:Tr _ _ _ _) o
  refine Je ?_
  have e:M0 J7 .zero X rc=((.zero,2),X):=by unfold M0;rw [hr]
  rw [e]
  (refine Ja ?_;intros)
  refine Ys fun o=>?_
  exact ⟨rfl,o.sub⟩
theorem H47 (c k:Nat) (F:Fr) (X:CX) (rc:RecS) (ok:FrOk F) (hk:O8 rc.kind=40):Ct A3 I7 [P0 c,.agg ⟨G9 rc⟩,.func (.func Aq1) ⟨[]⟩ ⟨[]⟩] [cmC c k F X] fun v own =>
  v=.tuple ⟨[.agg ⟨E9 (M0 D8 .zero X rc).1.1⟩,int (M0 D8 .zero X rc).1.2]⟩∧own [cmC c k F (M0 D8 .zero X rc).2]:=by
 refine Ct.of Au3 rfl fun h r=>Tr.eq (Dt9 ..) ?_;refine Je ?_
 (refine Ja ?_;intros)
 refine Yc (Eo9 c k F X rc ok) ?_
 rintro v h (⟨l,a,cp,hr,hl,rfl,o⟩|⟨hr,rfl,o⟩)
 ·refine (?_:Tr _ _ _ _) o
  refine Je ?_
  have e:M0 D8 .zero X rc=(D8 l,if (D8 l).2=2 then { X with bad:=X.bad++[rc] } else X):=by unfold M0;rw [hr]
  have hb:=Ek0 hr
  rw [e]
  rw [hk] at hl
  rw [hl]
  (refine Ja ?_;intros)
  refine Yc (Ie6 a cp l hl) ?_;rintro _ h ⟨rfl,o⟩<;>(refine Jf o ?_;intros)
  by_cases h2:(D8 l).2=2
  ·refine Yt (by simpa using h2) ?_
   have hz:=Iq3 l (by omega)
   simp only [if_pos h2]
   refine A9 (cmC c k F X) fun u=>?_;refine Je ?_
   refine A9 (N4 c k F.env F.caps X.bad) fun ⟨ca,cn,mb⟩=>?_;refine Je ?_
   (refine Ja ?_;intros)
   rw [Bo3,if_neg hb]
   (refine Ja ?_;intros)
   rw [Er3 hb]
   (refine Ja ?_;intros)
   rw [D50 hb]
   (refine Ja ?_;intros)
   rw [Dk6 X.bad 0 X.bad.length _ 0 rfl (by omega),Nat.zero_add]
   (refine Ja ?_;intros)
   rw [Eu1]
   refine Tr.jmp Au3 (Tr.eq (Ba2 ..) ?_);(try simp only[Nr,Nl,wl,Nat.reduceAdd,Nat.reduceMul,Int.reduceToNat])
   refine Yt (by rw [bne_iff_ne];omega) ?_
   (refine Ja ?_;intros)
   rw [show X.bad.length+1=(X.bad++[rc]).length by simp]
   refine A5 (N4 c k F.env F.caps (X.bad++[rc])) ⟨ca,cn,mb⟩ ?_;refine Je ?_
   refine A5 (cmC c k F { X with bad:=X.bad++[rc] }) () ?_;refine Je ?_
   refine Ys fun o=>?_
   exact ⟨by rw [hz]<;>rfl,o.sub⟩
  ·refine Yf (by simpa using h2) ?_
   simp only [if_neg h2]
   refine Tr.jmp Au3 (Tr.eq (Ba2 ..) ?_);(try simp only[Nr,Nl,wl,Nat.reduceAdd,Nat.reduceMul,Int.reduceToNat])
   by_cases h1:(D8 l).2=1
   ·refine Yf (by simpa using h1) ?_
    (refine Ja ?_;intros)
    refine Ys fun o=>?_
    exact ⟨rfl,o.sub⟩
   ·refine Yt (by simpa using h1) ?_
    (refine Ja ?_;intros)
    refine Ys fun o=>?_
    exact ⟨by rw [Iq3 l h1]<;>rfl,o.sub⟩
 ·refine (?_:Tr _ _ _ _) o
  refine Je ?_
  have e:M0 D8 .zero X rc=((.zero,2),X):=by unfold M0;rw [hr]
  rw [e]
  (refine Ja ?_;intros)
  refine Ys fun o=>?_
  exact ⟨rfl,o.sub⟩
def E82 (g:Int):List UInt8:=[b8 g,211,Bd4 [b8 g,211],0]
def S4 (l:List UInt8):Int × Int:=if byI l 0<8∧E82 (byI l 0)=l then (byI l 0,1) else (0,2)
theorem Hf3 (g:Int):Ct A3 At5 [int g] [] fun v own =>
  (0≤g∧g<8∧∃ a c,v=.tuple ⟨[.slice a 4 c,.bool true]⟩∧own [slC false A1 1 a 4 c (A0 (E82 g))])∨(¬ (0≤g∧g<8)∧v=.tuple ⟨[.slice none 0 0,.bool false]⟩∧own []):=by
 refine Ct.of Et3 rfl fun h r=>Tr.eq (Ek3 ..) ?_;refine Je ?_
 (refine Ja ?_;intros)
 by_cases hg:0≤g∧g<8
 ·refine Yf (by simp;omega) ?_
  rw [A15]
  refine Yn fun b h=>?_
  rw [show ([.int .u8 ((b8 g).toNat:Int),.int .u8 211]:List Value)=A0 [b8 g,211] from rfl]
  refine Ai6 0 rfl 1 2 rfl (by omega) ?_
  refine Je ?_
  refine Tr.pcall (Gq8 (slC false A1 1 (some ⟨b,0,none⟩) 2 2 (A0 [b8 g,211])) (some ⟨b,0,none⟩) false 2 2 2 [b8 g,211] 2 (by simp) (by simp [A4])) ?_
  (refine Ja ?_;intros)
  rw [show List.take 2 [b8 g,211]=[b8 g,211] from rfl,Dz4]
  refine Tr.xApd ⟨rfl,rfl,by simp [A4]⟩ fun a' c' h'=>?_
  refine Je ?_
  refine Ys fun o=>?_
  exact .inl ⟨hg.1,hg.2,a',c',rfl,(show Own h' (_::slC false A1 1 a' 4 c' (A0 (E82 g))::_) from o).sub⟩
 ·refine Yt (by simp;omega) ?_
  refine Ys fun o=>?_
  exact .inr ⟨hg,rfl,o.sub⟩
theorem I67 (l:List UInt8):∀ (m i:Nat) (r:List UInt8),l.length-i=m→ByteArray.toList.loop ⟨⟨l⟩⟩ i r=r.reverse++l.drop i:=by
 intro m
 induction m with
 | zero =>
  intro i r hm
  unfold ByteArray.toList.loop
  rw [if_neg (show ¬ i<(ByteArray.mk ⟨l⟩).size by show ¬ i<l.length;omega),List.drop_eq_nil_of_le (by omega)];simp
 | succ m ih =>
  intro i r hm
  have hlt:i<l.length:=by omega
  unfold ByteArray.toList.loop
  rw [if_pos (show i<(ByteArray.mk ⟨l⟩).size from hlt),ih (i+1) _ (by omega),List.drop_eq_getElem_cons hlt]
  have:(ByteArray.mk ⟨l⟩).get! i=l[i]:=by
   show (Array.mk l)[i]! = l[i]
   simp [hlt]
  rw [this];simp
theorem Ai9 (l:List UInt8):(ByteArray.mk ⟨l⟩).toList=l:=by
 unfold ByteArray.toList
 rw [I67 l _ 0 [] rfl];simp
theorem Hw4 (pb:HP) (ro:Bool) (a:Option Addr) (c:Nat) (l:List UInt8) (hl:l.length=4) [ks:IsSl pb a ro A1 1 4 c (A0 l)]:Ct A3 Ai5 [.slice a 4 c] [pb] fun v own=>v=.tuple ⟨[int (S4 l).1,int (S4 l).2]⟩∧own [pb]:=by
 refine Ct.of Gf3 rfl fun h r=>Tr.eq (Gf1 ..) ?_;refine Je ?_
 refine Yf rfl ?_
 (refine Ja ?_;intros;repeat(refine Gw ?_;rintro px rfl;refine Ja ?_;intros))
 refine Tr.xIntS (v:=byI l 0) (Ac9 (by omega)) ?_
 simp only [byI,Ab5]
 refine Yc (Hf3 (byI l 0)) ?_
 rintro v h (⟨h1,h2,a1,c1,rfl,o⟩|⟨hn,rfl,o⟩)
 ·refine (?_:Tr _ _ _ _) o
  refine Je ?_
  (refine Ja ?_;intros)
  rw [Ai9,Ai9]
  by_cases he:E82 (byI l 0)=l
  ·have e:S4 l=(byI l 0,1):=by unfold S4;rw [if_pos ⟨h2,he⟩]
   refine Yf (by simp [he]) ?_
   (refine Ja ?_;intros)
   refine Tr.xIntS (v:=byI l 0) (Ac9 (by omega)) ?_
   refine Ys fun o=>?_
   rw [e];exact ⟨by simp only [byI,Ab5],o.sub⟩
  ·have e:S4 l=(0,2):=by unfold S4;rw [if_neg (fun hh=>he hh.2)]
   refine Yt (by simp [he]) ?_
   refine Ys fun o=>?_
   rw [e];exact ⟨rfl,o.sub⟩
 ·refine (?_:Tr _ _ _ _) o
  refine Je ?_
  (refine Jb ?_;intros)
  refine Yb (Yt rfl ?_)
  refine Ys fun o=>(?_:Tr _ _ _ _) o;refine Je ?_
  (refine Ja ?_;intros)
  refine Ys fun o=>?_
  exact ⟨by unfold S4;rw [if_neg (by simp only [byI] at *;omega)],o.sub⟩
theorem Ia5 (a:Option Addr) (c:Nat) (l:List UInt8) (hl:l.length=4):Ct A3 Ai5 [.slice a 4 c] [slC false A1 1 a 4 c (A0 l)] fun v own=>v=.tuple ⟨[int (S4 l).1,int (S4 l).2]⟩∧own [slC false A1 1 a 4 c (A0 l)]:=Hw4 (slC false A1 1 a 4 c (A0 l)) false a c l hl
theorem Il1 (l:List UInt8) (h:(S4 l).2≠1):(S4 l).1=0:=by
 unfold S4 at *;split<;>simp_all
theorem I70 (c k:Nat) (F:Fr) (X:CX) (rc:RecS) (ok:FrOk F) (hk:O8 rc.kind=4):Ct A3 U0 [P0 c,.agg ⟨G9 rc⟩,.func (.func Ai5) ⟨[]⟩ ⟨[]⟩] [cmC c k F X] fun v own =>
  v=.tuple ⟨[int (M0 S4 0 X rc).1.1,int (M0 S4 0 X rc).1.2]⟩∧own [cmC c k F (M0 S4 0 X rc).2]:=by
 refine Ct.of Bd6 rfl fun h r=>Tr.eq (En7 ..) ?_;refine Je ?_
 (refine Ja ?_;intros)
 refine Yc (Eo9 c k F X rc ok) ?_
 rintro v h (⟨l,a,cp,hr,hl,rfl,o⟩|⟨hr,rfl,o⟩)
 ·refine (?_:Tr _ _ _ _) o
  refine Je ?_
  have e:M0 S4 0 X rc=(S4 l,if (S4 l).2=2 then { X with bad:=X.bad++[rc] } else X):=by unfold M0;rw [hr]
  have hb:=Ek0 hr
  rw [e]
  rw [hk] at hl
  rw [hl]
  (refine Ja ?_;intros)
  refine Yc (Ia5 a cp l hl) ?_;rintro _ h ⟨rfl,o⟩<;>(refine Jf o ?_;intros)
  by_cases h2:(S4 l).2=2
  ·refine Yt (by simpa using h2) ?_
   have hz:=Il1 l (by omega)
   simp only [if_pos h2]
   refine A9 (cmC c k F X) fun u=>?_;refine Je ?_
   refine A9 (N4 c k F.env F.caps X.bad) fun ⟨ca,cn,mb⟩=>?_;refine Je ?_
   (refine Ja ?_;intros)
   rw [Bo3,if_neg hb]
   (refine Ja ?_;intros)
   rw [Er3 hb]
   (refine Ja ?_;intros)
   rw [D50 hb]
   (refine Ja ?_;intros)
   rw [Dk6 X.bad 0 X.bad.length _ 0 rfl (by omega),Nat.zero_add]
   (refine Ja ?_;intros)
   rw [Eu1]
   refine Tr.jmp Bd6 (Tr.eq (Bt6 ..) ?_);(try simp only[Nr,Nl,wl,Nat.reduceAdd,Nat.reduceMul,Int.reduceToNat])
   refine Yt (by rw [bne_iff_ne];omega) ?_
   rw [show X.bad.length+1=(X.bad++[rc]).length by simp]
   refine A5 (N4 c k F.env F.caps (X.bad++[rc])) ⟨ca,cn,mb⟩ ?_;refine Je ?_
   refine A5 (cmC c k F { X with bad:=X.bad++[rc] }) () ?_;refine Je ?_
   refine Ys fun o=>?_
   exact ⟨by rw [hz],o.sub⟩
  ·refine Yf (by simpa using h2) ?_
   simp only [if_neg h2]
   refine Tr.jmp Bd6 (Tr.eq (Bt6 ..) ?_);(try simp only[Nr,Nl,wl,Nat.reduceAdd,Nat.reduceMul,Int.reduceToNat])
   by_cases h1:(S4 l).2=1
   ·refine Yf (by simpa using h1) ?_
    refine Ys fun o=>?_
    exact ⟨rfl,o.sub⟩
   ·refine Yt (by simpa using h1) ?_
    refine Ys fun o=>?_
    exact ⟨by rw [Il1 l h1],o.sub⟩
 ·refine (?_:Tr _ _ _ _) o
  refine Je ?_
  have e:M0 S4 0 X rc=((0,2),X):=by unfold M0;rw [hr]
  rw [e]
  (refine Ja ?_;intros)
  refine Ys fun o=>?_
  exact ⟨rfl,o.sub⟩
abbrev Dj2 (X:CX) (i:Int):(ProcS × Int) × CX:=M0 H2 .zero X ⟨1,i⟩
abbrev D60 (X:CX) (i:Int):(FileS × Int) × CX:=M0 J7 .zero X ⟨2,i⟩
abbrev D84 (X:CX) (i:Int):(PipeS × Int) × CX:=M0 D8 .zero X ⟨3,i⟩
abbrev Eu3 (X:CX):(PipeS × Int) × CX:=M0 D8 .zero X ⟨4,0⟩
abbrev Ej3 (X:CX):(Int × Int) × CX:=M0 S4 0 X ⟨5,0⟩
abbrev B10 (X:CX) (i:Int) (p:ProcS):Bool × CX:=wrX X ⟨1,i⟩ (N0 p) (okS p)
abbrev Bo0 (X:CX) (i:Int) (p:FileS):Bool × CX:=wrX X ⟨2,i⟩ (Ai1 p) (okF p)
abbrev Gn8 (X:CX) (i:Int) (p:PipeS):Bool × CX:=wrX X ⟨3,i⟩ (D3 p) (okP p)
abbrev Dt2 (X:CX) (rc:RecS):Bool × CX:=wrX X rc (List.replicate (O8 rc.kind) 0) true
theorem E17 (X:CX) (rc:RecS) (b:List UInt8):wrX X rc b false=(false,X):=by
 unfold wrX;split<;>simp
theorem Ih7 (c k:Nat) (F:Fr) (X:CX) (rc:RecS) (ok:FrOk F):Ct A3 Ak3 [P0 c,.agg ⟨G9 rc⟩] [cmC c k F X] fun v own =>
  v=.bool (Dt2 X rc).1∧own [cmC c k F (Dt2 X rc).2]:=by
 refine Ct.of D32 rfl fun h r=>Tr.eq (D38 ..) ?_;refine Je ?_
 refine A9 (cmC c k F X) fun u=>?_;refine Je ?_
 refine L8 2 rfl fun f=>?_
 (repeat' first|refine Gu ?_|(with_reducible first|refine Gn fun b h=>?_|apply Gx|apply Gy|rintro px rfl|apply Gw|refine fun(h:H)=>?_|intro hb)|refine Gs ?_|refine Gt ?_|exact Gz rfl|fail)
 refine Yc (E56 c k F.env F.caps X.bad rc ok.small ok.ne) ?_;rintro _ h ⟨rfl,o⟩<;>(refine (?_:Tr _ _ _ _) o;refine Je ?_;(repeat' first|refine Gu ?_|(with_reducible first|refine Gn fun b h=>?_|apply Gx|apply Gy|rintro px rfl|apply Gw|refine fun(h:H)=>?_|intro hb)|refine Gs ?_|refine Gt ?_|exact Gz rfl|fail))
 have em:=f.mlen ok
 cases hp:E4 F.caps.length rc with
 | none =>
  (repeat' first|refine Gu ?_|(with_reducible first|refine Gn fun b h=>?_|apply Gx|apply Gy|rintro px rfl|apply Gw|refine fun(h:H)=>?_|intro hb)|refine Gs ?_|refine Gt ?_|exact Gz rfl|fail)
  rw [show I1 (Int.toNat 0) [.int .u8 0]=A0 [] from rfl]
  refine Ai6 0 rfl 1 0 rfl (by omega) ?_
  refine Je ?_
  refine A5 (cmC c k F X) () ?_;refine Je ?_
  refine Yc (Dm2 c k F X rc ok [] false (some ⟨b,0,none⟩) 0 (by simp)) ?_;rintro _ h ⟨rfl,o⟩<;>(refine (?_:Tr _ _ _ _) o;refine Je ?_;(repeat' first|refine Gu ?_|(with_reducible first|refine Gn fun b h=>?_|apply Gx|apply Gy|rintro px rfl|apply Gw|refine fun(h:H)=>?_|intro hb)|refine Gs ?_|refine Gt ?_|exact Gz rfl|fail))
  refine Ys fun o=>?_
  have e:Dt2 X rc=(false,X):=by unfold Dt2 wrX;rw [em,hp]
  rw [E17] at o
  rw [e,E17]
  exact ⟨by first|rfl|trivial,o.sub⟩
 | some p =>
  obtain ⟨j,a,n⟩:=p
  have hn:=B99 hp
  subst hn
  have h40:O8 rc.kind≤40:=by unfold O8;(repeat' split)<;>omega
  (repeat' first|refine Gu ?_|(with_reducible first|refine Gn fun b h=>?_|apply Gx|apply Gy|rintro px rfl|apply Gw|refine fun(h:H)=>?_|intro hb)|refine Gs ?_|refine Gt ?_|exact Gz rfl|fail)
  refine Tr.ck ⟨by omega,by omega,by simp only [A4];omega⟩ ?_
  refine Yn fun b1 h=>?_
  rw [Int.toNat_natCast,show I1 (O8 rc.kind) [.int .u8 0]=A0 (List.replicate (O8 rc.kind) 0) by simp [I1,A0]]
  refine Ai6 0 rfl 1 (O8 rc.kind) (by simp [A0]) (by omega) ?_
  refine Je ?_
  refine A5 (cmC c k F X) () ?_;refine Je ?_
  have J:=Dm2 c k F X rc ok (List.replicate (O8 rc.kind) 0) true (some ⟨b1,0,none⟩) (O8 rc.kind) (by simp)
  rw [List.length_replicate] at J
  refine Yc (J) ?_;rintro _ h ⟨rfl,o⟩<;>(refine (?_:Tr _ _ _ _) o;refine Je ?_;(repeat' first|refine Gu ?_|(with_reducible first|refine Gn fun b h=>?_|apply Gx|apply Gy|rintro px rfl|apply Gw|refine fun(h:H)=>?_|intro hb)|refine Gs ?_|refine Gt ?_|exact Gz rfl|fail))
  refine Ys fun o=>?_
  exact ⟨rfl,o.sub⟩
theorem Gw6 (c k:Nat) (F:Fr) (X:CX) (rc:RecS) (ok:FrOk F):Ct A3 O0 [P0 c,.agg ⟨G9 rc⟩,.slice none 0 0,.bool false] [cmC c k F X] fun v own=>v=.bool false∧own [cmC c k F X]:=by
 intro h r o
 have o1:Own h (slC false A1 1 none 0 0 (A0 [])::cmC c k F X::r):=o.slNil false A1 (by omega)
 obtain ⟨v,h',e,rfl,o2⟩:=Dm2 c k F X rc ok [] false none 0 (by simp) h r (o1.perm (.swap _ _ _))
 rw [E17] at e o2
 exact ⟨_,h',e,rfl,o2.sub⟩
theorem El6 (i:Int):Ct A3 Aw5 [int i] [] fun v own=>v=.agg ⟨G9 ⟨1,i⟩⟩∧own []:=by
 refine Ct.of G64 rfl fun h r=>Tr.eq (G48 ..) ?_;refine Je ?_
 (refine Ja ?_;intros)
 refine Ys fun o=>?_
 exact ⟨rfl,o.sub⟩
theorem Gm1 (i:Int):Ct A3 A85 [int i] [] fun v own=>v=.agg ⟨G9 ⟨2,i⟩⟩∧own []:=by
 refine Ct.of G39 rfl fun h r=>Tr.eq (G55 ..) ?_;refine Je ?_
 (refine Ja ?_;intros)
 refine Ys fun o=>?_
 exact ⟨rfl,o.sub⟩
theorem It7 (i:Int):Ct A3 Br5 [int i] [] fun v own=>v=.agg ⟨G9 ⟨3,i⟩⟩∧own []:=by
 refine Ct.of G05 rfl fun h r=>Tr.eq (G67 ..) ?_;refine Je ?_
 (refine Ja ?_;intros)
 refine Ys fun o=>?_
 exact ⟨rfl,o.sub⟩
theorem D02 (c k:Nat) (F:Fr) (X:CX) (ok:FrOk F) (i:Int):Ct A3 J4 [P0 c,int i] [cmC c k F X] fun v own=>v=.tuple ⟨[.agg ⟨B6 (Dj2 X i).1.1⟩,int (Dj2 X i).1.2]⟩∧own [cmC c k F (Dj2 X i).2]:=by
 refine Ct.of Ec1 rfl fun h r=>Tr.eq (Ea3 ..) ?_;refine Je ?_
 (refine Ja ?_;intros)
 refine Yc (El6 i) ?_;rintro _ h ⟨rfl,o⟩<;>(refine Jf o ?_;intros)
 refine Yc (I24 c k F X ⟨1,i⟩ ok rfl) ?_;rintro _ h ⟨rfl,o⟩<;>(refine Jf o ?_;intros)
 refine Ys fun o=>?_
 exact ⟨rfl,o.sub⟩
theorem Gk6 (c k:Nat) (F:Fr) (X:CX) (ok:FrOk F) (i:Int):Ct A3 U7 [P0 c,int i] [cmC c k F X] fun v own=>v=.tuple ⟨[.agg ⟨A74 (D60 X i).1.1⟩,int (D60 X i).1.2]⟩∧own [cmC c k F (D60 X i).2]:=by
 refine Ct.of Ea1 rfl fun h r=>Tr.eq (Ea2 ..) ?_;refine Je ?_
 (refine Ja ?_;intros)
 refine Yc (Gm1 i) ?_;rintro _ h ⟨rfl,o⟩<;>(refine Jf o ?_;intros)
 refine Yc (I71 c k F X ⟨2,i⟩ ok rfl) ?_;rintro _ h ⟨rfl,o⟩<;>(refine Jf o ?_;intros)
 refine Ys fun o=>?_
 exact ⟨rfl,o.sub⟩
theorem Ix0 (c k:Nat) (F:Fr) (X:CX) (ok:FrOk F) (i:Int):Ct A3 Am7 [P0 c,int i] [cmC c k F X] fun v own=>v=.tuple ⟨[.agg ⟨E9 (D84 X i).1.1⟩,int (D84 X i).1.2]⟩∧own [cmC c k F (D84 X i).2]:=by
 refine Ct.of Ee0 rfl fun h r=>Tr.eq (Ed6 ..) ?_;refine Je ?_
 (refine Ja ?_;intros)
 refine Yc (It7 i) ?_;rintro _ h ⟨rfl,o⟩<;>(refine Jf o ?_;intros)
 refine Yc (H47 c k F X ⟨3,i⟩ ok rfl) ?_;rintro _ h ⟨rfl,o⟩<;>(refine Jf o ?_;intros)
 refine Ys fun o=>?_
 exact ⟨rfl,o.sub⟩
theorem Ix4 (c k:Nat) (F:Fr) (X:CX) (ok:FrOk F):Ct A3 An1 [P0 c] [cmC c k F X] fun v own=>v=.tuple ⟨[.agg ⟨E9 (Eu3 X).1.1⟩,int (Eu3 X).1.2]⟩∧own [cmC c k F (Eu3 X).2]:=by
 refine Ct.of Ed2 rfl fun h r=>Tr.eq (Ea7 ..) ?_;refine Je ?_
 (refine Ja ?_;intros)
 refine Yc (H47 c k F X ⟨4,0⟩ ok rfl) ?_;rintro _ h ⟨rfl,o⟩<;>(refine Jf o ?_;intros)
 refine Ys fun o=>?_
 exact ⟨rfl,o.sub⟩
theorem Im0 (c k:Nat) (F:Fr) (X:CX) (ok:FrOk F):Ct A3 Ak5 [P0 c] [cmC c k F X] fun v own=>v=.tuple ⟨[int (Ej3 X).1.1,.bool ((Ej3 X).1.2==1)]⟩∧own [cmC c k F (Ej3 X).2]:=by
 refine Ct.of D30 rfl fun h r=>Tr.eq (D33 ..) ?_;refine Je ?_
 (refine Ja ?_;intros)
 refine Yc (I70 c k F X ⟨5,0⟩ ok rfl) ?_;rintro _ h ⟨rfl,o⟩<;>(refine Jf o ?_;intros)
 refine Ys fun o=>?_
 exact ⟨rfl,o.sub⟩
theorem Dy1 (f:FileS):(Ai1 f).length=8:=rfl
theorem H14 (c k:Nat) (F:Fr) (X:CX) (ok:FrOk F) (i:Int) (p:ProcS):Ct A3 V4 [P0 c,int i,.agg ⟨B6 p⟩] [cmC c k F X] fun v own=>v=.bool (B10 X i p).1∧own [cmC c k F (B10 X i p).2]:=by
 refine Ct.of Ds1 rfl fun h r=>Tr.eq (Du3 ..) ?_;refine Je ?_
 (refine Ja ?_;intros)
 refine Yc (Gx2 p) ?_
 rintro v h (⟨hk,a,rfl,o⟩|⟨hk,rfl,o⟩)
 ·refine (?_:Tr _ _ _ _) o
  refine Je ?_
  (refine Ja ?_;intros)
  refine Yc (El6 i) ?_;rintro _ h ⟨rfl,o⟩<;>(refine Jf o ?_;intros)
  have J:=Dm2 c k F X ⟨1,i⟩ ok (N0 p) true a 24 (fun _=>Bf4 p)
  rw [Bf4] at J
  refine Yc (J) ?_;rintro _ h ⟨rfl,o⟩<;>(refine Jf o ?_;intros)
  refine Ys fun o=>?_
  unfold B10;rw [hk]
  exact ⟨rfl,o.sub⟩
 ·refine (?_:Tr _ _ _ _) o
  refine Je ?_
  (refine Ja ?_;intros)
  refine Yc (El6 i) ?_;rintro _ h ⟨rfl,o⟩<;>(refine Jf o ?_;intros)
  refine Yc (Gw6 c k F X ⟨1,i⟩ ok) ?_;rintro _ h ⟨rfl,o⟩<;>(refine Jf o ?_;intros)
  refine Ys fun o=>?_
  unfold B10;rw [hk,E17]
  exact ⟨rfl,o.sub⟩
theorem H21 (c k:Nat) (F:Fr) (X:CX) (ok:FrOk F) (i:Int) (p:FileS):Ct A3 Ae9 [P0 c,int i,.agg ⟨A74 p⟩] [cmC c k F X] fun v own=>v=.bool (Bo0 X i p).1∧own [cmC c k F (Bo0 X i p).2]:=by
 refine Ct.of Dt4 rfl fun h r=>Tr.eq (Ds3 ..) ?_;refine Je ?_
 (refine Ja ?_;intros)
 refine Yc (Gr5 p) ?_
 rintro v h (⟨hk,a,rfl,o⟩|⟨hk,rfl,o⟩)
 ·refine (?_:Tr _ _ _ _) o
  refine Je ?_
  (refine Ja ?_;intros)
  refine Yc (Gm1 i) ?_;rintro _ h ⟨rfl,o⟩<;>(refine Jf o ?_;intros)
  have J:=Dm2 c k F X ⟨2,i⟩ ok (Ai1 p) true a 8 (fun _=>Dy1 p)
  rw [Dy1] at J
  refine Yc (J) ?_;rintro _ h ⟨rfl,o⟩<;>(refine Jf o ?_;intros)
  refine Ys fun o=>?_
  unfold Bo0;rw [hk]
  exact ⟨rfl,o.sub⟩
 ·refine (?_:Tr _ _ _ _) o
  refine Je ?_
  (refine Ja ?_;intros)
  refine Yc (Gm1 i) ?_;rintro _ h ⟨rfl,o⟩<;>(refine Jf o ?_;intros)
  refine Yc (Gw6 c k F X ⟨2,i⟩ ok) ?_;rintro _ h ⟨rfl,o⟩<;>(refine Jf o ?_;intros)
  refine Ys fun o=>?_
  unfold Bo0;rw [hk,E17]
  exact ⟨rfl,o.sub⟩
theorem Hs8 (c k:Nat) (F:Fr) (X:CX) (ok:FrOk F) (i:Int):Ct A3 O2 [P0 c,int i] [cmC c k F X] fun v own=>v=.bool (Dt2 X ⟨1,i⟩).1∧own [cmC c k F (Dt2 X ⟨1,i⟩).2]:=by
 refine Ct.of Dn9 rfl fun h r=>Tr.eq (Do0 ..) ?_;refine Je ?_
 refine Yc (El6 i) ?_;rintro _ h ⟨rfl,o⟩<;>(refine Jf o ?_;intros)
 refine Yc (Ih7 c k F X ⟨1,i⟩ ok) ?_;rintro _ h ⟨rfl,o⟩<;>(refine Jf o ?_;intros)
 refine Ys fun o=>?_
 exact ⟨rfl,o.sub⟩
def Ak9 (f:CX→Int→CX):Nat→Int→CX→CX
 | 0,_,X=>X
 | m+1,i,X=>Ak9 f m (i+1) (f X i)
def E53 (X:CX):CX:=(Ej3 (Eu3 X).2).2
def Gw9 (nc:Nat) (X:CX):CX:=E53 (Ak9 (fun X i=>(D84 X i).2) (3+nc) 0 X)
def Gu0 (nc:Nat) (X:CX):CX:=Gw9 nc (Ak9 (fun X i=>(D60 X i).2) 12 0 X)
def lookN (nc:Nat) (X:CX):CX:=Gu0 nc (Ak9 (fun X i=>(Dj2 X i).2) 8 0 X)
def D82 (X:CX):CX:=lookN X.m.length X
theorem Id5 (c k:Nat) (F:Fr) (ok:FrOk F):∀ (m:Nat) (i:Int) (X:CX),0≤i→i+m=3+F.caps.length →
  CtJ E2 B8 Af0 [(0,P0 c),(20,int (3+F.caps.length)),(21,int i)] [cmC c k F X] fun v own=>v=.tuple ⟨[]⟩∧own [cmC c k F (E53 (Ak9 (fun X i=>(D84 X i).2) m i X))]:=by
 have hs:=ok.small
 intro m
 induction m with
 | zero =>
  intro i X h0 hi
  refine CtJ.of P6 fun h r=>Tr.eq (Bl3 ..) ?_;refine Je ?_
  refine Yf (by simp;omega) ?_
  refine Yc (Ix4 c k F X ok) ?_;rintro _ h ⟨rfl,o⟩<;>(refine Jf o ?_;intros)
  refine Yc (Im0 c k F (Eu3 X).2 ok) ?_;rintro _ h ⟨rfl,o⟩<;>(refine Jf o ?_;intros)
  refine Ys fun o=>?_
  exact ⟨rfl,o⟩
 | succ m ih =>
  intro i X h0 hi
  have e1:=wI i
  refine CtJ.of P6 fun h r=>Tr.eq (Bl3 ..) ?_;refine Je ?_
  refine Yt (by simp;omega) ?_
  refine Yc (Ix0 c k F X ok i) ?_;rintro _ h ⟨rfl,o⟩<;>(refine Jf o ?_;intros)
  rw [e1]
  refine Yr (ih (i+1) (D84 X i).2 (by omega) (by omega)) ?_
  rintro _ h ⟨rfl,o⟩
  exact ⟨rfl,o⟩
theorem H89 (c k:Nat) (F:Fr) (ok:FrOk F):∀ (m:Nat) (i:Int) (X:CX),0≤i→i+m=12 →
  CtJ E2 B8 Ae8 [(0,P0 c),(12,int i)] [cmC c k F X] fun v own=>v=.tuple ⟨[]⟩∧own [cmC c k F (Gw9 F.caps.length (Ak9 (fun X i=>(D60 X i).2) m i X))]:=by
 have hs:=ok.small
 intro m
 induction m with
 | zero =>
  intro i X h0 hi
  refine CtJ.of P6 fun h r=>Tr.eq (Bm8 ..) ?_;refine Je ?_
  refine Yf (by simp;omega) ?_
  refine A9 (cmC c k F X) fun u=>?_;refine Je ?_
  refine Tr.pcall (Gl8 c k F.env F.caps X.bad 3 ok.small) ?_;refine Je ?_;(refine Ja ?_;intros)
  refine A5 (cmC c k F X) () ?_;refine Je ?_
  refine Yr (Id5 c k F ok (3+F.caps.length) 0 X (by omega) (by omega)) ?_
  rintro _ h ⟨rfl,o⟩
  exact ⟨rfl,o⟩
 | succ m ih =>
  intro i X h0 hi
  have e1:=wI i
  refine CtJ.of P6 fun h r=>Tr.eq (Bm8 ..) ?_;refine Je ?_
  refine Yt (by simp;omega) ?_
  refine Yc (Gk6 c k F X ok i) ?_;rintro _ h ⟨rfl,o⟩<;>(refine Jf o ?_;intros)
  rw [e1]
  refine Yr (ih (i+1) (D60 X i).2 (by omega) (by omega)) ?_
  rintro _ h ⟨rfl,o⟩
  exact ⟨rfl,o⟩
theorem Id9 (c k:Nat) (F:Fr) (ok:FrOk F):∀ (m:Nat) (i:Int) (X:CX),0≤i→i+m=8 →
  CtJ E2 B8 Af1 [(0,P0 c),(5,int i)] [cmC c k F X] fun v own=>v=.tuple ⟨[]⟩∧own [cmC c k F (Gu0 F.caps.length (Ak9 (fun X i=>(Dj2 X i).2) m i X))]:=by
 intro m
 induction m with
 | zero =>
  intro i X h0 hi
  refine CtJ.of P6 fun h r=>Tr.eq (Bm3 ..) ?_;refine Je ?_
  refine Yf (by simp;omega) ?_
  refine Yr (H89 c k F ok 12 0 X (by omega) (by omega)) ?_
  rintro _ h ⟨rfl,o⟩
  exact ⟨rfl,o⟩
 | succ m ih =>
  intro i X h0 hi
  have e1:=wI i
  refine CtJ.of P6 fun h r=>Tr.eq (Bm3 ..) ?_;refine Je ?_
  refine Yt (by simp;omega) ?_
  refine Yc (D02 c k F X ok i) ?_;rintro _ h ⟨rfl,o⟩<;>(refine Jf o ?_;intros)
  rw [e1]
  refine Yr (ih (i+1) (Dj2 X i).2 (by omega) (by omega)) ?_
  rintro _ h ⟨rfl,o⟩
  exact ⟨rfl,o⟩
theorem H26 (c k:Nat) (F:Fr) (X:CX) (ok:FrOk F):Ct A3 B8 [P0 c] [cmC c k F X] fun v own=>v=.tuple ⟨[]⟩∧own [cmC c k F (D82 X)]:=by
 refine Ct.of P6 rfl fun h r=>Tr.eq (Ee1 ..) ?_;refine Je ?_
 intro o
 obtain ⟨u,o1⟩:=Own.unfold (cmC c k F X) o
 have f:=(Own.front o1 (i:=2) rfl).pure
 have e:D82 X=lookN F.caps.length X:=by unfold D82;rw [f.mlen ok]
 rw [e]
 refine (?_:Tr _ _ _ _) o
 refine Yr (Id9 c k F ok 8 0 X (by omega) (by omega)) ?_
 rintro _ h ⟨rfl,o⟩
 exact ⟨rfl,o⟩
end Go.EQ
