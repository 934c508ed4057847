/- Honest calls keep sound commons sound, whatever is called; no conditions. -/
import Derived.Test.YtoegoalficgneaaGreatMf
set_option linter.all false
set_option maxRecDepth 10000
namespace Go.EQ
open Go Go.NN
theorem Ab7 (l:List UInt8):(A0 l).length=l.length:=by simp [A0]
theorem Es7 {l:List UInt8} {i:Nat} {x:UInt8} (h:l[i]?=some x):(A0 l)[i]?=some (.int .u8 x.toNat):=by
 unfold A0;rw [List.getElem?_map,h];rfl
def E02 (n:Int) (l:List UInt8):Int:=l.foldl (fun n c=>IntKind.wrap .u8 (n+c.toNat)) n
def Hl8 (l:List UInt8):Int:=E02 (IntKind.wrap .u8 l.length) l
theorem I34 (p:HP) (a:Option Addr) (ro:Bool) (n c d:Nat) (l:List UInt8) [ks:IsSl p a ro A3 1 n c (A0 l)] (x:Nat) (hx:x≤l.length) (hl:l.length≤A9):∀ (m i:Nat) (acc:Int),x-i=m→i≤x →
  Ac1 D6 Ai0 B10 [(3,.int .u8 acc),(9,.slice a x d),(10,int x),(11,int i)] [p] (.int .u8 (E02 acc ((l.take x).drop i))):=by
 intro m
 induction m with
 | zero =>
  intro i acc hm hi
  refine Ac1.of En7 fun h r=>Tr.eq (Es9 ..) ?_;refine Je ?_
  refine Yf (by simp;omega) ?_
  refine Ys fun o=>?_
  rw [List.drop_eq_nil_of_le (by simp;omega)];exact ⟨rfl,rfl⟩
 | succ m ih =>
  intro i acc hm hi
  have hlt:i<(l.take x).length:=by rw [List.length_take];omega
  have hp:l[i]?=some (l.take x)[i]:=by
   rw [List.getElem_take];exact List.getElem?_eq_getElem (by omega)
  have hd:(l.take x).drop i=(l.take x)[i]::(l.take x).drop (i+1):=List.drop_eq_getElem_cons hlt
  generalize (l.take x)[i]=y at hp hd
  have e1:IntKind.wrap .i64 ((i:Int)+1)=((i+1:Nat):Int):=by rw [B4];simp only [A9] at hl;omega
  refine Ac1.of En7 fun h r=>Tr.eq (Es9 ..) ?_;refine Je ?_
  refine Yt (by simp;omega) ?_
  refine S5 0 rfl fun h1 h2 h3=>?_
  rw [Ab7] at h1
  (refine Ja ?_;intros;repeat(refine Gw ?_;rintro px rfl;refine Ja ?_;intros))
  refine Tr.xIntS (v:=y.toNat) (by simpa using Es7 hp) ?_
  rw [e1,hd]
  exact Ag2 (ih (i+1) _ (by omega) (by omega)) (r:=r) (by simp) fun o=>⟨rfl,rfl⟩
theorem Hc6 (p:HP) (a:Option Addr) (ro:Bool) (n c d:Nat) (l:List UInt8) [ks:IsSl p a ro A3 1 n c (A0 l)] (x:Nat) (hx:x≤l.length) (hl:l.length≤A9) :
  CtP A6 Ai0 [.slice a x d] [p] (.int .u8 (Hl8 (l.take x))):=by
 refine CtP.of En7 rfl fun h r=>Tr.eq (Ih3 ..) ?_;refine Je ?_
 have e:(l.take x).length=x:=by rw [List.length_take];omega
 have J:=I34 p a ro n c d l x hx hl _ 0 (IntKind.wrap .u8 x) rfl (by omega)
 rw [List.drop_zero] at J
 refine Ag2 J (r:=r) (by simp) fun o=>⟨?_,rfl⟩
 unfold Hl8;rw [e]
def Ej7:Nat→List UInt8→Int
 | _,[]=>-1
 | i,x::l=>if x≠0 then i else Ej7 (i+1) l
theorem Hq2:∀ (l:List UInt8) (i:Nat),decide (Ej7 i l≥0)=!l.all (·==0)
 | [],i=>by simp [Ej7]
 | x::l,i=>by
  unfold Ej7
  by_cases h:x=0
  ·rw [if_neg (by simp [h]),Hq2 l (i+1)];simp [h]
  ·rw [if_pos h];simp [h]
theorem Ju1 (x:UInt8):CtP A6 An6 [.int .u8 x.toNat] [] (.bool (x != 0)):=by
 refine CtP.of Hb3 rfl fun h r=>Tr.eq (Hd2 ..) ?_;refine Je ?_
 refine Ys fun o=>?_
 refine ⟨?_,rfl⟩
 congr 1
 have:((x.toNat:Int)=0)↔x=0:=by
  constructor
  ·intro h;exact UInt8.toNat.inj (by simpa using (show x.toNat=0 by omega))
  ·rintro rfl;rfl
 by_cases h:x=0
 ·subst h;rfl
 ·rw [bne_iff_ne.2 h,bne_iff_ne];intro h2;exact h (this.1 h2)
theorem G07 (p:HP) (a:Option Addr) (ro:Bool) (c:Nat) (l:List UInt8) [ks:IsSl p a ro A3 1 l.length c (A0 l)] (hl:l.length≤A9):∀ (m i:Nat),l.length-i=m→i≤l.length →
  Ac1 D6 H2 W6 [(0,.slice a l.length c),(1,.func (.func An6) ⟨[]⟩ ⟨[]⟩),(7,int l.length),(8,int i)] [p] (int (Ej7 i (l.drop i))):=by
 intro m
 induction m with
 | zero =>
  intro i hm hi
  refine Ac1.of Ao8 fun h r=>Tr.eq (A26 ..) ?_;refine Je ?_
  refine Yf (by simp;omega) ?_
  refine Ys fun o=>?_
  rw [List.drop_eq_nil_of_le (by omega)];exact ⟨rfl,rfl⟩
 | succ m ih =>
  intro i hm hi
  have hlt:i<l.length:=by omega
  have hp:l[i]?=some l[i]:=List.getElem?_eq_getElem hlt
  have hd:l.drop i=l[i]::l.drop (i+1):=List.drop_eq_getElem_cons hlt
  generalize l[i]=x at hp hd
  have e1:IntKind.wrap .i64 ((i:Int)+1)=((i+1:Nat):Int):=by rw [B4];simp only [A9] at hl;omega
  refine Ac1.of Ao8 fun h r=>Tr.eq (A26 ..) ?_;refine Je ?_
  refine Yt (by simp;omega) ?_
  (refine Ja ?_;intros;repeat(refine Gw ?_;rintro px rfl;refine Ja ?_;intros))
  refine Tr.xIntS (v:=x.toNat) (by simpa using Es7 hp) ?_
  (refine Ja ?_;intros)
  refine Df0 (Ju1 x) (r:=p::r) (by simp) ?_
  by_cases hx:x=0
  ·have:(x != 0)=false:=by simp [hx]
   rw [this]
   (refine Ja ?_;intros)
   rw [e1]
   refine Ag2 (ih (i+1) (by omega) (by omega)) (r:=r) (by simp) fun o=>?_
   rw [hd,Ej7,if_neg (by simp [hx])];exact ⟨by first|rfl|trivial,by first|rfl|trivial⟩
  ·have:(x != 0)=true:=by simp [hx]
   rw [this]
   (refine Ja ?_;intros)
   refine Ys fun o=>?_
   rw [hd,Ej7,if_pos hx];exact ⟨by first|rfl|trivial,by first|rfl|trivial⟩
theorem I69 (p:HP) (a:Option Addr) (ro:Bool) (c:Nat) (l:List UInt8) [ks:IsSl p a ro A3 1 l.length c (A0 l)] (hl:l.length≤A9) :
  CtP A6 Ax8 [.slice a l.length c] [p] (.bool (l.all (·==0))):=by
 have j:CtP A6 H2 [.slice a l.length c,.func (.func An6) ⟨[]⟩ ⟨[]⟩] [p] (int (Ej7 0 l)):=by
  refine CtP.of Ao8 rfl fun h r=>Tr.eq (Do3 ..) ?_;refine Je ?_
  exact Ag2 (G07 p a ro c l hl _ 0 rfl (by omega)) (r:=r) (by simp) fun o=>⟨rfl,rfl⟩
 have j2:CtP A6 W5 [.slice a l.length c,.func (.func An6) ⟨[]⟩ ⟨[]⟩] [p] (.bool (!l.all (·==0))):=by
  refine CtP.of B81 rfl fun h r=>Tr.eq (B75 ..) ?_;refine Je ?_
  refine Df0 j (r:=r) (by simp) ?_
  (refine Ja ?_;intros)
  refine Ys fun o=>?_
  rw [Hq2];exact ⟨by first|rfl|trivial,by first|rfl|trivial⟩
 refine CtP.of Hv5 rfl fun h r=>Tr.eq (Hr9 ..) ?_;refine Je ?_
 refine Df0 j2 (r:=r) (by simp) ?_
 (refine Ja ?_;intros)
 refine Ys fun o=>?_
 exact ⟨by simp,rfl⟩
theorem Hz8 (p q:HP) (a:Option Addr) (ro:Bool) (c:Nat) (a2:Option Addr) (ro2:Bool) (c2:Nat) (l m:List UInt8) [ks:IsSl p a ro A3 1 l.length c (A0 l)] [ks2:IsSl q a2 ro2 A3 1 m.length c2 (A0 m)] (hl:l.length≤A9) (hlm:m.length=l.length):∀ (k i:Nat),l.length-i=k→i≤l.length →
  Ac1 D6 D7 Ac8 [(0,.slice a l.length c),(1,.slice a2 m.length c2),(12,int l.length),(13,int i)] [p,q] (.bool (decide (l.drop i=m.drop i))):=by
 intro k
 induction k with
 | zero =>
  intro i hm hi
  refine Ac1.of Ax7 fun h r=>Tr.eq (Bf1 ..) ?_;refine Je ?_
  refine Yf (by simp;omega) ?_
  refine Ys fun o=>?_
  rw [List.drop_eq_nil_of_le (by omega),List.drop_eq_nil_of_le (by omega)];exact ⟨rfl,rfl⟩
 | succ k ih =>
  intro i hm hi
  have hlt:i<l.length:=by omega
  have hp:l[i]?=some l[i]:=List.getElem?_eq_getElem hlt
  have hd:l.drop i=l[i]::l.drop (i+1):=List.drop_eq_getElem_cons hlt
  have hlt2:i<m.length:=by omega
  have hp2:m[i]?=some m[i]:=List.getElem?_eq_getElem hlt2
  have hd2:m.drop i=m[i]::m.drop (i+1):=List.drop_eq_getElem_cons hlt2
  generalize l[i]=x at hp hd
  generalize m[i]=y at hp2 hd2
  have e1:IntKind.wrap .i64 ((i:Int)+1)=((i+1:Nat):Int):=by rw [B4];simp only [A9] at hl;omega
  refine Ac1.of Ax7 fun h r=>Tr.eq (Bf1 ..) ?_;refine Je ?_
  refine Yt (by simp;omega) ?_
  (refine Ja ?_;intros;repeat(refine Gw ?_;rintro px rfl;refine Ja ?_;intros))
  refine Tr.xIntS (v:=x.toNat) (by simpa using Es7 hp) ?_
  (refine Ja ?_;intros;repeat(refine Gw ?_;rintro px rfl;refine Ja ?_;intros))
  refine Tr.xIntS (v:=y.toNat) (by simpa using Es7 hp2) ?_
  by_cases hx:x=y
  ·subst hx
   refine Yf (by simp) ?_
   rw [e1]
   refine Ag2 (ih (i+1) (by omega) (by omega)) (r:=r) (by simp) fun o=>?_
   rw [hd,hd2];exact ⟨by simp,rfl⟩
  ·refine Yt (by rw [bne_iff_ne];intro h2;exact hx (UInt8.toNat.inj (by omega))) ?_
   refine Ys fun o=>?_
   rw [hd,hd2];exact ⟨by simp [hx],rfl⟩
theorem Gf2 (p q:HP) (a:Option Addr) (ro:Bool) (c:Nat) (a2:Option Addr) (ro2:Bool) (c2:Nat) (l m:List UInt8) [ks:IsSl p a ro A3 1 l.length c (A0 l)] [ks2:IsSl q a2 ro2 A3 1 m.length c2 (A0 m)] (hl:l.length≤A9) :
  CtP A6 D7 [.slice a l.length c,.slice a2 m.length c2] [p,q] (.bool (decide (l=m))):=by
 refine CtP.of Ax7 rfl fun h r=>Tr.eq (D26 ..) ?_;refine Je ?_
 by_cases h:m.length=l.length
 ·refine Yf (by simp [h]) ?_
  have J:=Hz8 p q a ro c a2 ro2 c2 l m hl h _ 0 rfl (by omega)
  simp only [List.drop_zero] at J
  exact Ag2 J (r:=r) (by simp) fun o=>⟨rfl,rfl⟩
 ·refine Yt (by rw [bne_iff_ne];omega) ?_
  refine Ys fun o=>?_
  exact ⟨by rw [decide_eq_false (fun e=>h (by rw [e]))],rfl⟩
theorem I68 (p:HP) (ro:Bool) (a:Option Addr) (c:Nat) (l:List UInt8) [ks:IsSl p a ro A3 1 l.length c (A0 l)] (hn:l.length≤A9) :
  Ct A6 H6 [.slice a l.length c] [p] fun v own=>∃ a' c',v=.slice a' l.length c'∧own [slC false A3 1 a' l.length c' (A0 l),p]:=by
 refine Ct.of Bq9 rfl fun h r=>Tr.eq (Bq4 ..) ?_;refine Je ?_
 refine S5 0 rfl fun hl hc _=>?_
 refine Tr.cond (fun hb=>?_) fun hb=>?_
 ·obtain rfl:a=none:=by simpa using hb
  refine E6 false A3 1 (by omega) ?_
  intro o
  have o1:=(o.tail.head ks.en).slNone
  obtain rfl:l=[]:=by
   have:=o1.2.2.1
   cases l with
   | nil=>rfl
   | cons x l=>simp [A0] at this
  obtain rfl:c=0:=o1.2.1
  exact ⟨_,_,rfl,none,0,rfl,o⟩
 ·(refine Ja ?_;intros)
  refine Ah3 0 rfl 1 0 rfl (by omega) ?_;refine Je ?_
  (refine Ja ?_;intros)
  refine Tr.xApd ⟨by simp [A0],by simp [A0,Value.oneCell],by omega⟩ fun a' c' h'=>?_
  refine Je ?_
  refine Ys fun o=>⟨a',c',by simp,by simpa using o⟩
end Go.EQ
namespace Go.NN
section
variable {l:List HP} {h:H} {α:Type} {Q:α→H→Prop} {ro:Bool} {e:TypeId} {cs:List Value}
instance {f:Fn} {a c:Array Value} {k:Option α}:Dx (one (.func f a c) k) k:=⟨rfl⟩
theorem I51 {x:Option (α × H)} {p:HP} (i:Nat) {a:Option Addr} {sz n c:Nat} (hi:l[i]?=some p) [k:IsSl p a ro e sz n c cs] (hn:0<n) (t:∀ y,a=some y→Tr l h x Q):Tr l h x Q:=fun ow=>by
 obtain ⟨y,hy⟩:=((ow.front hi).head k.en).slSome hn
 exact t y hy ow
theorem Tr.xPCells {a:Option Addr} {n c sz:Nat} {vs cs':List Value} {l':List HP} {k:H→Option (α × H)} [k1:LkO l a false e sz n c cs] (hn:0<n) (hj:vs≠[]∧vs.length≤cs.length∧vs.all Value.oneCell=true∧vs++cs.drop vs.length=cs') [k2:UpO l a (slC false e sz a n c cs') e sz n c cs l'] (t:∀ h',Tr l' h' (k h') Q):Tr l h (NN.pCells a vs h k) Q:=fun ow=>by
 obtain ⟨i,p,hi,hp⟩:=k1.ix
 obtain ⟨y,rfl⟩:=((ow.front hi).head hp).slSome hn
 have:NN.pCells (Option.some y) vs h k=NN.pAgg ((B3 y).add 0) vs h k:=by
  show NN.pAgg (B3 y) vs h k=_
  congr 1
 rw [this]
 exact Tr.xPAggS (k1:=k1) ⟨hj.1,by omega,hj.2.2.1,by simpa using hj.2.2.2⟩ (k2:=k2) t ow
end
end Go.NN

set_option maxRecDepth 10000
namespace Go.EQ
open Go Go.NN
def b8 (x:Int):UInt8:=UInt8.ofNat (x%256).toNat
theorem D77 (x:Int):IntKind.wrap .u8 x=x%256:=Jb5 x
theorem Bz5 (x:Int):IntKind.wrap .u8 x=((b8 x).toNat:Int):=by
 rw [D77,b8,UInt8.toNat_ofNat']
 omega
def Db2 (l:List UInt8):UInt8:=b8 (Hl8 l)
theorem H23:∀ (l:List UInt8) (n:Int),0≤n∧n<256→0≤E02 n l∧E02 n l<256
 | [],n,h=>h
 | x::l,n,h=>H23 l _ (by show 0≤IntKind.wrap .u8 (n+x.toNat)∧IntKind.wrap .u8 (n+x.toNat)<256;rw [D77];omega)
theorem Ec2 (l:List UInt8):Hl8 l=((Db2 l).toNat:Int):=by
 have:=H23 l (IntKind.wrap .u8 l.length) (by rw [D77];omega)
 unfold Db2
 rw [← Bz5,D77]
 unfold Hl8 at *;omega
structure FileS where
 kind:Int
 pipe:Int
 refs:Int
 flags:Int
abbrev FileS.zero:FileS:=⟨0,0,0,0⟩
abbrev Ag6 (f:FileS):List Value:=[int f.kind,int f.pipe,int f.refs,int f.flags]
def okF (f:FileS):Bool:=decide (f.kind≥1) && decide (f.kind≤3) && decide (f.pipe≥0) && decide (f.pipe≤7) && (f.kind != 3 || f.pipe==0) && decide (f.refs≥1) && decide (f.refs≤64) && (f.flags==0 || f.flags==1)
def Bl9 (f:FileS):List UInt8:=[b8 f.kind,b8 f.pipe,b8 f.refs,b8 f.flags,179]
def As9 (f:FileS):List UInt8:=Bl9 f++[Db2 (Bl9 f),0,0]
theorem Jo7 (f:FileS):Ct A6 D61 [.agg ⟨Ag6 f⟩] [] fun v own=>v=.bool (okF f)∧own []:=by
 refine Ct.of Io2 rfl fun h r=>Tr.eq (It9 ..) ?_;refine Je ?_
 (refine Ja ?_;intros)
 refine Ys fun o=>?_
 refine ⟨?_,o.sub⟩
 rfl
theorem Jl0 (a:Option Addr) (c:Nat) (f:FileS):Ct A6 A25 [.agg ⟨Ag6 f⟩,.slice a 8 c] [slC false A3 1 a 8 c (A0 (List.replicate 8 0))] fun v own=>v=.bool (okF f)∧own [slC false A3 1 a 8 c (A0 (if okF f then As9 f else List.replicate 8 0))]:=by
 refine Ct.of Ih0 rfl fun h r=>Tr.eq (If9 ..) ?_;refine Je ?_
 (refine Ja ?_;intros)
 refine Yc (Jo7 f) ?_;rintro _ h ⟨rfl,o⟩<;>(refine Jf o ?_;intros)
 cases hk:okF f with
 | false =>
  (refine Ja ?_;intros)
  refine Ys fun o=>?_
  rw [if_neg (by simp)]
  exact ⟨rfl,o.sub⟩
 | true =>
  (refine Ja ?_;intros)
  simp only [Bz5,List.drop_zero,List.take]
  refine S5 2 rfl fun hl hc _=>?_
  refine Tr.xPCells (cs':=A0 (Bl9 f++[0,0,0])) (by omega) ⟨by simp,by simp [A0],by simp [Value.oneCell],rfl⟩ fun h=>?_
  (refine Ja ?_;intros)
  refine Tr.pcall (Hc6 (slC false A3 1 a 8 c (A0 (Bl9 f++[0,0,0]))) a false 8 c c (Bl9 f++[0,0,0]) 5 (by simp [Bl9]) (by simp [Bl9,A9])) ?_
  refine Je ?_
  (refine Ja ?_;intros;repeat(refine Gw ?_;rintro px rfl;refine Ja ?_;intros))
  rw [show List.take 5 (Bl9 f++[0,0,0]:List UInt8)=Bl9 f from rfl,Ec2]
  refine Tr.xVS (cs':=A0 (As9 f)) ⟨by simp [A0,Bl9],rfl,rfl⟩ fun h=>?_
  refine Ys fun o=>?_
  simp only [if_true]
  exact ⟨trivial,o.sub⟩
theorem El1 {l:List Value} (h:l.all (fun v=>match v with|.int _ _=>true|_=>false)=true):Aw2 (.agg ⟨l⟩) (.agg ⟨l⟩)=true:=by
 show B94 l l=true
 induction l with
 | nil=>rfl
 | cons v l ih =>
  simp only [List.all_cons,Bool.and_eq_true] at h
  show (Aw3 v v && B94 l l)=true
  rw [ih h.2,Bool.and_true]
  cases v<;>first|(simp [Aw3];done)|exact absurd h.1 (by simp)
abbrev Ia0 (k:Nat):HP:=pt k (.cells At7 false [int 8,.func (.func A25) ⟨[]⟩ ⟨[]⟩,.func (.func A30) ⟨[]⟩ ⟨[]⟩])
theorem Ib6 (k:Nat) (f:FileS):Ct A6 Ac3 [P0 k,.agg ⟨Ag6 f⟩] [Ia0 k] fun v own=>(okF f=true∧∃ a,v=.tuple ⟨[.slice a 8 8,.bool true]⟩∧own [Ia0 k,slC false A3 1 a 8 8 (A0 (As9 f))])∨(okF f=false∧v=.tuple ⟨[.slice none 0 0,.bool false]⟩∧own [Ia0 k]):=by
 refine Ct.of Dp2 rfl fun h r=>Tr.eq (Dp5 ..) ?_;refine Je ?_
 (refine Ja ?_;intros)
 refine Tr.ck ⟨by omega,by omega,by simp [A9]⟩ ?_
 refine Yn fun b1 h=>?_
 rw [show I6 (Int.toNat 8) [.int .u8 0]=A0 (List.replicate 8 0) from rfl]
 refine Ah3 0 rfl 1 8 rfl (by omega) ?_
 simp only [List.set_cons_zero]
 refine Je ?_
 (refine Jb ?_;intros)
 refine Yb (Yf rfl ?_)
 (refine Jb ?_;intros)
 refine Yc (Jl0 (some ⟨b1,0,none⟩) 8 f) ?_;rintro _ h ⟨rfl,o⟩<;>(refine Jg o ?_;intros)
 refine Ys fun o=>(?_:Tr _ _ _ _) o;refine Je ?_
 cases hk:okF f with
 | false =>
  (refine Ja ?_;intros)
  refine Ys fun o=>?_
  exact .inr ⟨rfl,rfl,o.sub⟩
 | true =>
  (refine Ja ?_;intros)
  refine Ys fun o=>?_
  simp only [if_true] at o
  exact .inl ⟨rfl,_,rfl,o.sub⟩
theorem Jk3:Ct A6 Az6 [int 8,.func (.func A25) ⟨[]⟩ ⟨[]⟩,.func (.func A30) ⟨[]⟩ ⟨[]⟩] [] fun v own=>∃ k,v=P0 k∧own [pt k (.cells At7 false [int 8,.func (.func A25) ⟨[]⟩ ⟨[]⟩,.func (.func A30) ⟨[]⟩ ⟨[]⟩])]:=by
 refine Ct.of E62 rfl fun h r=>Tr.eq (E15 ..) ?_;refine Je ?_
 rw [show mm2 false (mm2 true 8 0) 64=8 from rfl]
 (refine Ja ?_;intros)
 refine Ys fun o=>?_
 exact ⟨_,rfl,o.sub⟩
theorem Hp5:Ct A6 Bq8 [] [] fun v own=>∃ k,v=P0 k∧own [pt k (.cells At7 false [int 8,.func (.func A25) ⟨[]⟩ ⟨[]⟩,.func (.func A30) ⟨[]⟩ ⟨[]⟩])]:=by
 refine Ct.of Ht0 rfl fun h r=>Tr.eq (Ht8 ..) ?_;refine Je ?_
 refine Yc (Jk3) ?_;rintro _ h ⟨k,rfl,o⟩<;>(refine Jf o ?_;intros)
 refine Ys fun o=>?_
 exact ⟨_,rfl,o.sub⟩
theorem Hd3 (f:FileS):Ct A6 Bh8 [.agg ⟨Ag6 f⟩] [] fun v own=>(okF f=true∧∃ a,v=.tuple ⟨[.slice a 8 8,.bool true]⟩∧own [slC false A3 1 a 8 8 (A0 (As9 f))])∨(okF f=false∧v=.tuple ⟨[.slice none 0 0,.bool false]⟩∧own []):=by
 refine Ct.of Hk9 rfl fun h r=>Tr.eq (Hi1 ..) ?_;refine Je ?_
 (refine Ja ?_;intros)
 refine Yc (Hp5) ?_;rintro _ h ⟨k,rfl,o⟩<;>(refine Jf o ?_;intros)
 refine Tr.same (El1 rfl) ?_
 refine Yc (Ib6 k f) ?_
 rintro v h (⟨hk,a,rfl,o⟩|⟨hk,rfl,o⟩)
 ·refine (?_:Tr _ _ _ _) o
  refine Je ?_
  (refine Ja ?_;intros)
  refine Ys fun o=>?_
  exact .inl ⟨hk,a,rfl,o.sub⟩
 ·refine (?_:Tr _ _ _ _) o
  refine Je ?_
  (refine Ja ?_;intros)
  refine Ys fun o=>?_
  exact .inr ⟨hk,rfl,o.sub⟩
theorem Al4 {l:List UInt8} {i:Nat} (h:i<l.length):(A0 l)[i]?=some (.int .u8 ((l.getD i 0).toNat:Int)):=by
 rw [List.getD_eq_getElem?_getD,List.getElem?_eq_getElem h];exact Es7 (List.getElem?_eq_getElem h)
theorem Ay1 (x:UInt8):IntKind.wrap .i64 (x.toNat:Int)=(x.toNat:Int):=by
 have:=x.toNat_lt;rw [B4];omega
abbrev byI (l:List UInt8) (i:Nat):Int:=((l.getD i 0).toNat:Int)
def Dv3 (l:List UInt8):FileS:=⟨byI l 0,byI l 1,byI l 2,byI l 3⟩
def isF (l:List UInt8):Bool:=okF (Dv3 l) && decide (As9 (Dv3 l)=l)
theorem Jn0 (a:Option Addr) (c:Nat) (l:List UInt8) (hl:l.length=8):Ct A6 A30 [.slice a 8 c] [slC false A3 1 a 8 c (A0 l)] fun v own=>v=.tuple ⟨[.agg ⟨Ag6 (Dv3 l)⟩,.bool (isF l)]⟩∧own [slC false A3 1 a 8 c (A0 l)]:=by
 have key:∀ a1:Option Addr,CtP A6 D7 [.slice a1 8 8,.slice a 8 c] [slC false A3 1 a1 8 8 (A0 (As9 (Dv3 l))),slC false A3 1 a 8 c (A0 l)] (.bool (decide (As9 (Dv3 l)=l))):=fun a1=>by
  have J:=Gf2 (slC false A3 1 a1 8 8 (A0 (As9 (Dv3 l)))) (slC false A3 1 a l.length c (A0 l)) a1 false 8 a false c (As9 (Dv3 l)) l (by simp [As9,Bl9,A9])
  rwa [hl,show (As9 (Dv3 l)).length=8 from rfl] at J
 refine Ct.of Ig9 rfl fun h r=>Tr.eq (If6 ..) ?_;refine Je ?_
 refine Yn fun b1 h=>?_
 (refine Ja ?_;intros;repeat(refine Gw ?_;rintro px rfl;refine Ja ?_;intros))
 refine Tr.xIntS (v:=byI l 0) (Al4 (by omega)) ?_
 (refine Ja ?_;intros)
 refine Tr.xIntS (v:=byI l 1) (Al4 (by omega)) ?_
 (refine Ja ?_;intros)
 refine Tr.xIntS (v:=byI l 2) (Al4 (by omega)) ?_
 (refine Ja ?_;intros)
 refine Tr.xIntS (v:=byI l 3) (Al4 (by omega)) ?_
 simp only [byI,Ay1]
 refine Yn fun b2 h=>?_
 (refine Jb ?_;intros)
 refine Yc (Hd3 (Dv3 l)) ?_
 rintro v h (⟨hk,a1,rfl,o⟩|⟨hk,rfl,o⟩)
 ·refine (?_:Tr _ _ _ _) o
  refine Je ?_
  (refine Jb ?_;intros)
  refine Yb (Yt rfl ?_)
  refine Tr.pcall (key a1) ?_;refine Je ?_;(refine Jb ?_;intros)
  refine Tr.same (El1 rfl) ?_
  refine Ys fun o=>(?_:Tr _ _ _ _) o;refine Je ?_
  (refine Ja ?_;intros)
  refine Ys fun o=>?_
  exact ⟨by unfold isF;rw [hk,Bool.true_and];rfl,o.sub⟩
 ·refine (?_:Tr _ _ _ _) o
  refine Je ?_
  (refine Ja ?_;intros)
  refine Ys fun o=>?_
  exact ⟨by unfold isF;rw [hk];rfl,o.sub⟩
theorem E06 (n:Nat) (pb:HP) (ro:Bool) (a:Option Addr) (c:Nat) (l:List UInt8) (hl:l.length=n) (hn:n≤A9) [ks:IsSl pb a ro A3 1 n c (A0 l)]:Ct A6 H6 [.slice a n c] [pb] fun v own=>∃ a' c',v=.slice a' n c'∧own [slC false A3 1 a' n c' (A0 l),pb]:=by
 subst hl;exact I68 pb ro a c l hn
theorem E44 (n:Nat) (pb:HP) (ro:Bool) (a:Option Addr) (c:Nat) (l:List UInt8) (hl:l.length=n) (hn:n≤A9) [ks:IsSl pb a ro A3 1 n c (A0 l)]:CtP A6 Ax8 [.slice a n c] [pb] (.bool (l.all (·==0))):=by
 subst hl;exact I69 pb a ro c l hn
theorem Ia4 (k:Nat) (pb:HP) (ro:Bool) (a:Option Addr) (c:Nat) (l:List UInt8) (hl:l.length=8) [ks:IsSl pb a ro A3 1 8 c (A0 l)]:Ct A6 Ac6 [P0 k,.slice a 8 c] [Ia0 k,pb] fun v own=>v=.tuple ⟨[.agg ⟨Ag6 (if isF l then Dv3 l else .zero)⟩,.bool (isF l)]⟩∧own [Ia0 k,pb]:=by
 refine Ct.of Dp4 rfl fun h r=>Tr.eq (Dp1 ..) ?_;refine Je ?_
 (refine Ja ?_;intros)
 refine Yf rfl ?_
 (refine Jb ?_;intros)
 refine Yc (E06 8 pb ro a c l hl (by simp [A9])) ?_;rintro _ h ⟨a1,c1,rfl,o⟩<;>(refine Jg o ?_;intros)
 refine Yc (Jn0 a1 c1 l hl) ?_;rintro _ h ⟨rfl,o⟩<;>(refine Jg o ?_;intros)
 cases hk:isF l with
 | false =>
  (refine Ja ?_;intros)
  refine Ys fun o=>?_
  exact ⟨rfl,o.sub⟩
 | true =>
  (refine Ja ?_;intros)
  refine Ys fun o=>?_
  exact ⟨rfl,o.sub⟩
def P3 (l:List UInt8):FileS × Int:=if l.all (·==0) then (.zero,0) else if isF l then (Dv3 l,1) else (.zero,2)
theorem Gy9 (pb:HP) (ro:Bool) (a:Option Addr) (c:Nat) (l:List UInt8) (hl:l.length=8) [ks:IsSl pb a ro A3 1 8 c (A0 l)]:Ct A6 Ae7 [.slice a 8 c] [pb] fun v own=>v=.tuple ⟨[.agg ⟨Ag6 (P3 l).1⟩,int (P3 l).2]⟩∧own [pb]:=by
 refine Ct.of Hg8 rfl fun h r=>Tr.eq (Hk6 ..) ?_;refine Je ?_
 refine Yn fun b1 h=>?_
 refine Yb (Yt rfl ?_)
 refine Tr.pcall (E44 8 pb ro a c l hl (by simp [A9])) ?_;refine Je ?_;(refine Jb ?_;intros)
 refine Ys fun o=>(?_:Tr _ _ _ _) o;refine Je ?_
 cases hb:l.all (·==0) with
 | true =>
  (refine Ja ?_;intros)
  refine Ys fun o=>?_
  exact ⟨by unfold P3;rw [hb];rfl,o.sub⟩
 | false =>
  (refine Jb ?_;intros)
  refine Yc (Hp5) ?_;rintro _ h ⟨k,rfl,o⟩<;>(refine Jg o ?_;intros)
  refine Yc (Ia4 k pb ro a c l hl) ?_;rintro _ h ⟨rfl,o⟩<;>(refine Jg o ?_;intros)
  cases hk:isF l with
  | false =>
   (refine Ja ?_;intros)
   refine Ys fun o=>?_
   exact ⟨by unfold P3;rw [hb,hk];rfl,o.sub⟩
  | true =>
   (refine Ja ?_;intros)
   refine Ys fun o=>?_
   exact ⟨by unfold P3;rw [hb,hk];rfl,o.sub⟩
theorem Is4 (a:Option Addr) (c:Nat) (l:List UInt8) (hl:l.length=8):Ct A6 Ae7 [.slice a 8 c] [slC false A3 1 a 8 c (A0 l)] fun v own=>v=.tuple ⟨[.agg ⟨Ag6 (P3 l).1⟩,int (P3 l).2]⟩∧own [slC false A3 1 a 8 c (A0 l)]:=Gy9 (slC false A3 1 a 8 c (A0 l)) false a c l hl
structure PipeS where
 head:Int
 count:Int
 readers:Int
 writers:Int
 data:List UInt8
 len:data.length=32
abbrev PipeS.zero:PipeS:=⟨0,0,0,0,List.replicate 32 0,rfl⟩
abbrev I8 (p:PipeS):List Value:=int p.head::int p.count::int p.readers::int p.writers::A0 p.data
theorem Bc3 {p:PipeS} (hd:p.data.length=32):(I8 p).length=36:=by simp [I8,Ab7,hd]
theorem Ir1 {p:PipeS} (hd:p.data.length=32):4+32≤(I8 p).length∧((I8 p).drop 4).take 32=A0 p.data:=⟨by rw [Bc3 hd];exact Nat.le_refl _,by
 rw [show (I8 p).drop 4=A0 p.data from rfl,List.take_of_length_le (by rw [Ab7,hd];exact Nat.le_refl _)]⟩
theorem Hp3 (p:PipeS):(I8 p).all Value.oneCell=true:=by simp [I8,Ap5,Value.oneCell]
theorem In1 (p:PipeS):Aw2 (.agg ⟨I8 p⟩) (.agg ⟨I8 p⟩)=true:=El1 (by simp [I8,A0])
instance {p:PipeS}:LenC (I8 p) 36:=⟨Bc3 p.len⟩
instance {p:PipeS}:PartC (I8 p) 0 36 (I8 p):=⟨Bl3 (Bc3 p.len)⟩
instance {p:PipeS} {cs:List Value} [k:LenC cs 36]:SetsC cs 0 (I8 p) (I8 p):=⟨Df8 k.ok (Bc3 p.len) (Hp3 p)⟩
instance {p:PipeS}:SameC (.agg ⟨I8 p⟩):=⟨In1 p⟩
def okP (p:PipeS):Bool:=decide (0≤p.head∧p.head≤31) && decide (0≤p.count∧p.count≤32) && decide (0≤p.readers∧p.readers≤8) && decide (0≤p.writers∧p.writers≤8)
def Ar0 (p:PipeS):List UInt8:=[1,b8 p.head,b8 p.count,b8 p.readers,b8 p.writers,197]
def O0 (p:PipeS):List UInt8:=Ar0 p++Db2 (Ar0 p)::0::p.data
theorem De6 {p:PipeS} (hd:p.data.length=32):(O0 p).length=40:=by simp [O0,Ar0,hd]
theorem Jr9 (n m:Int):CtP A6 A31 [int n,int m] [] (.bool (decide (0≤n∧n≤m))):=by
 refine CtP.of Ic1 rfl fun h r=>Tr.eq (Ib5 ..) ?_;refine Je ?_
 (refine Ja ?_;intros)
 refine Ys fun o=>?_
 refine ⟨?_,rfl⟩
 refine congrArg Value.bool ?_;rw [Bool.eq_iff_iff];simp only [Bool.and_eq_true,Bool.or_eq_true,Bool.not_eq_true',Bool.not_eq_false',decide_eq_true_eq,decide_eq_false_iff_not,bne_iff_ne,beq_iff_eq,ne_eq,B4,Af3,Aj5,ge_iff_le,gt_iff_lt];first|done|omega
instance {n m:Int} {l:List HP}:PCi A6 A31 [.int .i64 n,.int .i64 m] l (.bool (decide (0≤n∧n≤m))):=PCi.of (Jr9 n m)
theorem Js1 (p:PipeS):Ct A6 Ek3 [.agg ⟨I8 p⟩] [] fun v own=>v=.bool (okP p)∧own []:=by
 refine Ct.of I62 rfl fun h r=>Tr.eq (I58 ..) ?_;refine Je ?_
 (refine Ja ?_;intros)
 refine Ys fun o=>?_
 exact ⟨rfl,o.sub⟩
theorem Jj6 (a:Option Addr) (c:Nat) (p:PipeS):Ct A6 B15 [.agg ⟨I8 p⟩,.slice a 40 c] [slC false A3 1 a 40 c (A0 (List.replicate 40 0))] fun v own=>v=.bool (okP p)∧own [slC false A3 1 a 40 c (A0 (if okP p then O0 p else List.replicate 40 0))]:=by
 have hd:=p.len
 refine Ct.of It8 rfl fun h r=>Tr.eq (It2 ..) ?_;refine Je ?_
 refine Yn fun b1 h=>?_
 (refine Ja ?_;intros)
 refine Yc (Js1 p) ?_;rintro _ h ⟨rfl,o⟩<;>(refine Jg o ?_;intros)
 cases hk:okP p with
 | false =>
  (refine Ja ?_;intros)
  refine Ys fun o=>?_
  rw [if_neg (by simp)]
  exact ⟨rfl,o.sub⟩
 | true =>
  (refine Ja ?_;intros)
  simp only [Bz5,List.drop_zero,List.take]
  refine S5 2 rfl fun hl hc _=>?_
  refine Tr.xPCells (cs':=A0 (Ar0 p++List.replicate 34 0)) (by omega) ⟨by simp,by simp [A0],by simp [Value.oneCell],rfl⟩ fun h=>?_
  (refine Ja ?_;intros)
  refine Tr.pcall (Hc6 (slC false A3 1 a 40 c (A0 (Ar0 p++List.replicate 34 0))) a false 40 c c (Ar0 p++List.replicate 34 0) 6 (by simp [Ar0]) (by simp [Ar0,A9])) ?_
  refine Je ?_
  (refine Ja ?_;intros;repeat(refine Gw ?_;rintro px rfl;refine Ja ?_;intros))
  rw [show List.take 6 (Ar0 p++List.replicate 34 0:List UInt8)=Ar0 p from rfl,Ec2]
  refine Tr.xVS (cs':=A0 (Ar0 p++Db2 (Ar0 p)::List.replicate 33 0)) ⟨by simp [A0,Ar0],rfl,rfl⟩ fun h=>?_
  (refine Ja ?_;intros)
  refine Tr.xCellsB (xs:=A0 p.data) (Ir1 p.len) ?_
  rw [Hf6 (by omega),Gi5]
  refine Tr.xPAggS (cs':=A0 (O0 p)) ⟨?_,?_,Ap5 _,?_⟩ fun h=>?_
  ·intro e;have:=congrArg List.length e;simp [A0,hd] at this
  ·simp [A0,hd,Ar0]
  ·rw [Ab7,hd]
   simp [A0,O0,Ar0]
  refine Ys fun o=>?_
  simp only [if_true]
  exact ⟨trivial,o.sub⟩
abbrev G20 (k:Nat):HP:=pt k (.cells B62 false [int 40,.func (.func B15) ⟨[]⟩ ⟨[]⟩,.func (.func B36) ⟨[]⟩ ⟨[]⟩])
theorem Ie9 (k:Nat) (f:PipeS):Ct A6 Ac9 [P0 k,.agg ⟨I8 f⟩] [G20 k] fun v own=>(okP f=true∧∃ a,v=.tuple ⟨[.slice a 40 40,.bool true]⟩∧own [G20 k,slC false A3 1 a 40 40 (A0 (O0 f))])∨(okP f=false∧v=.tuple ⟨[.slice none 0 0,.bool false]⟩∧own [G20 k]):=by
 refine Ct.of Do7 rfl fun h r=>Tr.eq (Dp0 ..) ?_;refine Je ?_
 (refine Ja ?_;intros)
 refine Tr.ck ⟨by omega,by omega,by simp [A9]⟩ ?_
 refine Yn fun b1 h=>?_
 rw [show I6 (Int.toNat 40) [.int .u8 0]=A0 (List.replicate 40 0) from rfl]
 refine Ah3 0 rfl 1 40 rfl (by omega) ?_
 simp only [List.set_cons_zero]
 refine Je ?_
 (refine Jb ?_;intros)
 refine Yb (Yf rfl ?_)
 (refine Jb ?_;intros)
 refine Yc (Jj6 (some ⟨b1,0,none⟩) 40 f) ?_;rintro _ h ⟨rfl,o⟩<;>(refine Jg o ?_;intros)
 refine Ys fun o=>(?_:Tr _ _ _ _) o;refine Je ?_
 cases hk:okP f with
 | false =>
  (refine Ja ?_;intros)
  refine Ys fun o=>?_
  exact .inr ⟨rfl,rfl,o.sub⟩
 | true =>
  (refine Ja ?_;intros)
  refine Ys fun o=>?_
  simp only [if_true] at o
  exact .inl ⟨rfl,_,rfl,o.sub⟩
theorem Jk2:Ct A6 A05 [int 40,.func (.func B15) ⟨[]⟩ ⟨[]⟩,.func (.func B36) ⟨[]⟩ ⟨[]⟩] [] fun v own=>∃ k,v=P0 k∧own [G20 k]:=by
 refine Ct.of E07 rfl fun h r=>Tr.eq (E16 ..) ?_;refine Je ?_
 rw [show mm2 false (mm2 true 40 0) 64=40 from rfl]
 (refine Ja ?_;intros)
 refine Ys fun o=>?_
 exact ⟨_,rfl,o.sub⟩
theorem Ho2:Ct A6 Bx3 [] [] fun v own=>∃ k,v=P0 k∧own [G20 k]:=by
 refine Ct.of H29 rfl fun h r=>Tr.eq (Hy4 ..) ?_;refine Je ?_
 refine Yc (Jk2) ?_;rintro _ h ⟨k,rfl,o⟩<;>(refine Jf o ?_;intros)
 refine Ys fun o=>?_
 exact ⟨_,rfl,o.sub⟩
theorem G67 (f:PipeS):Ct A6 Bs0 [.agg ⟨I8 f⟩] [] fun v own=>(okP f=true∧∃ a,v=.tuple ⟨[.slice a 40 40,.bool true]⟩∧own [slC false A3 1 a 40 40 (A0 (O0 f))])∨(okP f=false∧v=.tuple ⟨[.slice none 0 0,.bool false]⟩∧own []):=by
 refine Ct.of Hu9 rfl fun h r=>Tr.eq (Ht1 ..) ?_;refine Je ?_
 refine Yn fun b1 h=>?_
 (refine Ja ?_;intros)
 refine Yc (Ho2) ?_;rintro _ h ⟨k,rfl,o⟩<;>(refine Jg o ?_;intros)
 (refine Ja ?_;intros)
 refine Yc (Ie9 k f) ?_
 rintro v h (⟨hk,a,rfl,o⟩|⟨hk,rfl,o⟩)
 ·refine (?_:Tr _ _ _ _) o
  refine Je ?_
  (refine Ja ?_;intros)
  refine Ys fun o=>?_
  exact .inl ⟨hk,a,rfl,o.sub⟩
 ·refine (?_:Tr _ _ _ _) o
  refine Je ?_
  (refine Ja ?_;intros)
  refine Ys fun o=>?_
  exact .inr ⟨hk,rfl,o.sub⟩
def Em7 (l:List UInt8):List UInt8:=(l++List.replicate 32 0).take 32
theorem I57 (l:List UInt8):(Em7 l).length=32:=by simp [Em7]
theorem E52 {l:List UInt8} (h:l.length=32):Em7 l=l:=by simp [Em7,← h]
def Bs7 (l:List UInt8):PipeS:=⟨byI l 1,byI l 2,byI l 3,byI l 4,Em7 (l.drop 8),I57 _⟩
def isP (l:List UInt8):Bool:=okP (Bs7 l) && decide (O0 (Bs7 l)=l)
theorem Jm0 (a:Option Addr) (c:Nat) (l:List UInt8) (hl:l.length=40):Ct A6 B36 [.slice a 40 c] [slC false A3 1 a 40 c (A0 l)] fun v own=>v=.tuple ⟨[.agg ⟨I8 (Bs7 l)⟩,.bool (isP l)]⟩∧own [slC false A3 1 a 40 c (A0 l)]:=by
 have hd:=(Bs7 l).len
 have hp:Em7 (l.drop 8)=l.drop 8:=E52 (by simp [hl])
 have key:∀ a1:Option Addr,CtP A6 D7 [.slice a1 40 40,.slice a 40 c] [slC false A3 1 a1 40 40 (A0 (O0 (Bs7 l))),slC false A3 1 a 40 c (A0 l)] (.bool (decide (O0 (Bs7 l)=l))):=fun a1=>by
  have e:=De6 hd
  have J:=Gf2 (slC false A3 1 a1 (O0 (Bs7 l)).length 40 (A0 (O0 (Bs7 l)))) (slC false A3 1 a l.length c (A0 l)) a1 false 40 a false c (O0 (Bs7 l)) l (by rw [e];simp [A9])
  rwa [hl,e] at J
 refine Ct.of In9 rfl fun h r=>Tr.eq (Iv7 ..) ?_;refine Je ?_
 refine Yn fun b1 h=>?_
 refine S5 1 rfl fun hl2 hc2 _=>?_
 (refine Ja ?_;intros;repeat(refine Gw ?_;rintro px rfl;refine Ja ?_;intros))
 refine Tr.xIntS (v:=byI l 1) (Al4 (by omega)) ?_
 (refine Ja ?_;intros)
 refine Tr.xIntS (v:=byI l 2) (Al4 (by omega)) ?_
 (refine Ja ?_;intros)
 refine Tr.xIntS (v:=byI l 3) (Al4 (by omega)) ?_
 (refine Ja ?_;intros)
 refine Tr.xIntS (v:=byI l 4) (Al4 (by omega)) ?_
 simp only [byI,Ay1]
 refine Yn fun b2 h=>?_
 (refine Jb ?_;intros)
 rw [Hf6 (show 8<c by omega),H63]
 refine Tr.xAggS (xs:=A0 (l.drop 8)) ⟨by omega,by simp [Ab7,hl],?_⟩ ?_
 ·rw [Du4,List.take_of_length_le (by simp [Ab7,hl])]
 rw [show pCells (some (⟨b2,4,none⟩:Addr))=pAgg ⟨b2,4,none⟩ from rfl]
 refine Tr.xPAgg (cs':=I8 (Bs7 l)) ⟨by simp [Ab7,hl],Ap5 _,by simp [I8,Bs7,byI,Ab7,hl,hp]⟩ fun h=>?_
 (refine Ja ?_;intros)
 refine Yc (G67 (Bs7 l)) ?_
 rintro v h (⟨hk,a1,rfl,o⟩|⟨hk,rfl,o⟩)
 ·refine (?_:Tr _ _ _ _) o
  refine Je ?_
  (refine Jb ?_;intros)
  refine Yb (Yt rfl ?_)
  refine Tr.pcall (key a1) ?_;refine Je ?_;(refine Jb ?_;intros)
  refine Ys fun o=>(?_:Tr _ _ _ _) o;refine Je ?_
  (refine Ja ?_;intros)
  refine Ys fun o=>?_
  exact ⟨by unfold isP;rw [hk,Bool.true_and],o.sub⟩
 ·refine (?_:Tr _ _ _ _) o
  refine Je ?_
  (refine Ja ?_;intros)
  refine Ys fun o=>?_
  exact ⟨by unfold isP;rw [hk];rfl,o.sub⟩
theorem H22 (k:Nat) (pb:HP) (ro:Bool) (a:Option Addr) (c:Nat) (l:List UInt8) (hl:l.length=40) [ks:IsSl pb a ro A3 1 40 c (A0 l)]:Ct A6 Ac7 [P0 k,.slice a 40 c] [G20 k,pb] fun v own=>v=.tuple ⟨[.agg ⟨I8 (if isP l then Bs7 l else .zero)⟩,.bool (isP l)]⟩∧own [G20 k,pb]:=by
 have hd:=(Bs7 l).len
 have hp:Em7 (l.drop 8)=l.drop 8:=E52 (by simp [hl])
 refine Ct.of Do4 rfl fun h r=>Tr.eq (Dp3 ..) ?_;refine Je ?_
 (refine Ja ?_;intros)
 refine Yf rfl ?_
 (refine Jb ?_;intros)
 refine Yc (E06 40 pb ro a c l hl (by simp [A9])) ?_;rintro _ h ⟨a1,c1,rfl,o⟩<;>(refine Jg o ?_;intros)
 refine Yc (Jm0 a1 c1 l hl) ?_;rintro _ h ⟨rfl,o⟩<;>(refine Jg o ?_;intros)
 cases hk:isP l with
 | false =>
  (refine Ja ?_;intros)
  refine Ys fun o=>?_
  exact ⟨rfl,o.sub⟩
 | true =>
  (refine Ja ?_;intros)
  refine Ys fun o=>?_
  exact ⟨rfl,o.sub⟩
def N4 (l:List UInt8):PipeS × Int:=if l.all (·==0) then (.zero,0) else if isP l then (Bs7 l,1) else (.zero,2)
theorem Gy1 (pb:HP) (ro:Bool) (a:Option Addr) (c:Nat) (l:List UInt8) (hl:l.length=40) [ks:IsSl pb a ro A3 1 40 c (A0 l)]:Ct A6 Z7 [.slice a 40 c] [pb] fun v own=>v=.tuple ⟨[.agg ⟨I8 (N4 l).1⟩,int (N4 l).2]⟩∧own [pb]:=by
 have hd:=(Bs7 l).len
 have hp:Em7 (l.drop 8)=l.drop 8:=E52 (by simp [hl])
 refine Ct.of Hu1 rfl fun h r=>Tr.eq (Ht7 ..) ?_;refine Je ?_
 refine Yn fun b1 h=>?_
 refine Yb (Yt rfl ?_)
 refine Tr.pcall (E44 40 pb ro a c l hl (by simp [A9])) ?_;refine Je ?_;(refine Jb ?_;intros)
 refine Ys fun o=>(?_:Tr _ _ _ _) o;refine Je ?_
 cases hb:l.all (·==0) with
 | true =>
  (refine Ja ?_;intros)
  refine Ys fun o=>?_
  exact ⟨by unfold N4;rw [hb];rfl,o.sub⟩
 | false =>
  (refine Jb ?_;intros)
  refine Yc (Ho2) ?_;rintro _ h ⟨k,rfl,o⟩<;>(refine Jg o ?_;intros)
  refine Yc (H22 k pb ro a c l hl) ?_;rintro _ h ⟨rfl,o⟩<;>(refine Jg o ?_;intros)
  cases hk:isP l with
  | false =>
   (refine Ja ?_;intros)
   refine Ys fun o=>?_
   exact ⟨by unfold N4;rw [hb,hk];rfl,o.sub⟩
  | true =>
   (refine Ja ?_;intros)
   refine Ys fun o=>?_
   exact ⟨by unfold N4;rw [hb,hk];rfl,o.sub⟩
theorem Iq1 (a:Option Addr) (c:Nat) (l:List UInt8) (hl:l.length=40):Ct A6 Z7 [.slice a 40 c] [slC false A3 1 a 40 c (A0 l)] fun v own=>v=.tuple ⟨[.agg ⟨I8 (N4 l).1⟩,int (N4 l).2]⟩∧own [slC false A3 1 a 40 c (A0 l)]:=Gy1 (slC false A3 1 a 40 c (A0 l)) false a c l hl
structure ProcS where
 state:Int
 parent:Int
 group:Int
 code:Int
 pending:Int
 mask:Int
 ignored:Int
 caught:Int
 fds:List Int
 len:fds.length=8
abbrev Av8:List Int:=[0,0,0,0,0,0,0,0]
abbrev ProcS.zero:ProcS:=⟨0,0,0,0,0,0,0,0,Av8,rfl⟩
abbrev B7 (p:ProcS):List Value:=int p.state::int p.parent::int p.group::int p.code::int p.pending::int p.mask::int p.ignored::int p.caught::p.fds.map int
theorem Aj4 (p:ProcS):(B7 p).length=16:=by simp [B7,p.len]
theorem Ho8 (p:ProcS):(B7 p).all Value.oneCell=true:=by simp [B7,Value.oneCell]
instance {p:ProcS}:LenC (B7 p) 16:=⟨Aj4 p⟩
instance {p:ProcS}:PartC (B7 p) 0 16 (B7 p):=⟨Bl3 (Aj4 p)⟩
instance {p:ProcS}:PartC (B7 p) 8 8 (p.fds.map int):=⟨by
 have h:Nat.ble (8+8) (B7 p).length=true:=by rw [Aj4];rfl
 have e:((B7 p).drop 8).take 8=p.fds.map int:=by rw [show (B7 p).drop 8=p.fds.map int from rfl,List.take_of_length_le (by simp [p.len])]
 rw [B89,h,e];rfl⟩
instance {p:ProcS} {cs:List Value} [k:LenC cs 16]:SetsC cs 0 (B7 p) (B7 p):=⟨Df8 k.ok (Aj4 p) (Ho8 p)⟩
instance {p:ProcS}:SameC (.agg ⟨B7 p⟩):=⟨El1 (by simp [B7])⟩
def B87 (n w:Int):Bool:=Au4 .i64 n 65534==0 && O1 .i64 n w==0
def okS (p:ProcS):Bool :=
 !(decide (p.state<1) || decide (p.state>3) || decide (p.parent<0) || decide (p.parent>8) || decide (p.group<0) || decide (p.group≥8) || decide (p.code<0) || decide (p.code>255)) &&
 (!(!B87 p.pending 0 || !B87 p.mask 16896 || !B87 p.ignored 16896 || !B87 p.caught 16896 || O1 .i64 p.ignored p.caught != 0) &&
 (!(p.fds.any fun f=>decide (f<0) || decide (f>12)) &&
 (if p.state=2 then p.pending==0 && decide (p.fds=Av8) else p.code==0)))
def hi2 (n:Int):UInt8:=if 0≤n∧n≤65535 then b8 (n / 256) else 0
def lo2 (n:Int):UInt8:=if 0≤n∧n≤65535 then b8 n else 0
abbrev put2 (n:Int):List UInt8:=[hi2 n,lo2 n]
def Ez1 (p:ProcS):List UInt8:=[b8 p.state,b8 p.parent,b8 p.group,b8 p.code]++(put2 p.pending++(put2 p.mask++(put2 p.ignored++(put2 p.caught++(p.fds.map b8++[167])))))
theorem I76 (n:Int):(put2 n).length=2:=rfl
theorem I32 (p:ProcS):(Ez1 p).length=21:=by simp [Ez1,I76,p.len]
def A85 (p:ProcS):List UInt8:=Ez1 p++[Db2 (Ez1 p),0,0]
theorem E33 (p:ProcS):(A85 p).length=24:=by simp [A85,I32]
theorem Ji7 (n w:Int):CtP A6 Av1 [int n,int w] [] (.bool (B87 n w)):=by
 refine CtP.of H90 rfl fun h r=>Tr.eq (Hz1 ..) ?_;refine Je ?_
 exact Jz
instance {n w:Int} {l:List HP}:PCi A6 Av1 [.int .i64 n,.int .i64 w] l (.bool (B87 n w)):=PCi.of (Ji7 n w)
theorem Jn8 (f:Int):CtP A6 Bw7 [int f] [] (.bool (decide (f<0) || decide (f>12))):=by
 refine CtP.of H38 rfl fun h r=>Tr.eq (H85 ..) ?_;refine Je ?_
 exact Jz
theorem G61 (p:HP) (a:Option Addr) (ro:Bool) (c:Nat) (l:List Int) (g:FuncId) (f:Int→Bool) {e:TypeId} [ks:IsSl p a ro e 1 l.length c (l.map int)] (hl:l.length≤A9) (hf:∀ x,CtP A6 g [int x] [] (.bool (f x))):∀ (m i:Nat),l.length-i=m→i≤l.length →
  Ac1 D6 D8 L7 [(0,.slice a l.length c),(1,.func (.func g) ⟨[]⟩ ⟨[]⟩),(7,int l.length),(8,int i)] [p] (int (B91 f i (l.drop i))):=by
 intro m
 induction m with
 | zero =>
  intro i hm hi
  refine Ac1.of G5 fun h r=>Tr.eq (L8 ..) ?_;refine Je ?_
  refine Yf (by simp;omega) ?_
  refine Ys fun o=>?_
  rw [List.drop_eq_nil_of_le (by omega)];exact ⟨rfl,rfl⟩
 | succ m ih =>
  intro i hm hi
  have hlt:i<l.length:=by omega
  have hp:l[i]?=some l[i]:=List.getElem?_eq_getElem hlt
  have hd:l.drop i=l[i]::l.drop (i+1):=List.drop_eq_getElem_cons hlt
  generalize l[i]=x at hp hd
  have e1:IntKind.wrap .i64 ((i:Int)+1)=((i+1:Nat):Int):=by rw [B4];simp only [A9] at hl;omega
  refine Ac1.of G5 fun h r=>Tr.eq (L8 ..) ?_;refine Je ?_
  refine Yt (by simp;omega) ?_
  (refine Ja ?_;unhygienic intros;repeat(refine Gw ?_;rintro px rfl;refine Ja ?_;unhygienic intros))
  refine Tr.xIntS (v:=x) (by simp [hp]) ?_
  (refine Ja ?_;unhygienic intros)
  refine Tr.pcall (hf x) ?_
  cases hx:f x with
  | true =>
   (refine Ja ?_;unhygienic intros)
   refine Ys fun o=>?_
   rw [hd,B91,if_pos hx];exact ⟨by first|rfl|trivial,by first|rfl|trivial⟩
  | false =>
   (refine Ja ?_;unhygienic intros)
   rw [e1]
   refine Ag2 (ih (i+1) (by omega) (by omega)) (r:=r) (by simp) fun o=>?_
   rw [hd,B91,if_neg (by simp [hx])];exact ⟨by first|rfl|trivial,by first|rfl|trivial⟩
theorem Gz6 (p:HP) (a:Option Addr) (ro:Bool) (c:Nat) (l:List Int) (g:FuncId) (f:Int→Bool) {e:TypeId} [ks:IsSl p a ro e 1 l.length c (l.map int)] (hl:l.length≤A9) (hf:∀ x,CtP A6 g [int x] [] (.bool (f x))) :
  CtP A6 E3 [.slice a l.length c,.func (.func g) ⟨[]⟩ ⟨[]⟩] [p] (.bool (l.any f)):=by
 have j:CtP A6 D8 [.slice a l.length c,.func (.func g) ⟨[]⟩ ⟨[]⟩] [p] (int (B91 f 0 l)):=by
  refine CtP.of G5 rfl fun h r=>Tr.eq (As0 ..) ?_;refine Je ?_
  exact Ag2 (G61 p a ro c l g f hl hf _ 0 rfl (by omega)) (r:=r) (by simp) fun o=>⟨rfl,rfl⟩
 refine CtP.of Al5 rfl fun h r=>Tr.eq (Al7 ..) ?_;refine Je ?_
 refine Df0 j (r:=r) (by simp) ?_
 (refine Ja ?_;unhygienic intros)
 refine Ys fun o=>?_
 rw [Gg9];exact ⟨by first|rfl|trivial,by first|rfl|trivial⟩
theorem Hx4:∀ (l m:List Int),l.length=m.length→eqs (l.map int) (m.map int)=some (decide (l=m))
 | [],[],_=>rfl
 | [],_::_,h=>by simp at h
 | _::_,[],h=>by simp at h
 | a::l,b::m,h=>by
  have ih:=Hx4 l m (by simpa using h)
  simp only [List.map_cons,eqs,eq1,decide_true,ih]
  by_cases h1:a=b<;>by_cases h2:l=m<;>simp [h1,h2]
theorem G55:∀ (l:List Int),I4 (List.replicate l.length (TypeDesc.int .i64)) (l.map int)=true
 | []=>rfl
 | a::l=>by
  have:=G55 l
  simp only [List.length_cons,List.replicate_succ,List.map_cons,I4,decide_true,this,Bool.and_self]
theorem eq8 {α:Type} (l m:List Int) (hl:l.length=8) (hm:m.length=8) (k:Bool→Option α):Dw0 PR Hg5 (l.map int) (m.map int) k=k (decide (l=m)):=by
 have e:At5 PR 8 Hg5=some (List.replicate 8 (TypeDesc.int .i64)):=by kernel_rfl
 have f1:=G55 l;have f2:=G55 m
 rw [hl] at f1;rw [hm] at f2
 rw [Dw0,e]
 simp only [f1,f2,Hx4 l m (by omega),Bool.and_self,ckB,cond_true,eqK]
theorem Jr2 (p:ProcS):Ct A6 D55 [.agg ⟨B7 p⟩] [] fun v own=>v=.bool (okS p)∧own []:=by
 have h8:=p.len
 refine Ct.of Io1 rfl fun h r=>Tr.eq (Iq4 ..) ?_;refine Je ?_
 (refine Ja ?_;unhygienic intros)
 refine Tr.cond (fun h1=>?_) fun h1=>?_
 ·refine Ys fun o=>?_
  refine ⟨?_,o.sub⟩
  unfold okS;rw [h1];rfl
 (refine Ja ?_;unhygienic intros)
 refine Tr.cond (fun h2=>?_) fun h2=>?_
 ·refine Ys fun o=>?_
  refine ⟨?_,o.sub⟩
  unfold okS;rw [h1,h2];rfl
 (refine Ja ?_;unhygienic intros)
 refine Gr0 0 rfl [int p.state,int p.parent,int p.group,int p.code,int p.pending,int p.mask,int p.ignored,int p.caught] (p.fds.map int) [] (by simp [B7]) 1 8 8 8 ⟨by simp [h8],by omega,by simp,by simp [B7],by omega,by omega⟩ ?_
 refine Je ?_
 have J:=Gz6 (e:=A7) (slX false A7 1 (some ⟨b,8,none⟩) p.fds.length 8 ([int p.state,int p.parent,int p.group,int p.code,int p.pending,int p.mask,int p.ignored,int p.caught],[]) (p.fds.map int)) (some ⟨b,8,none⟩) false 8 p.fds Bw7 (fun f=>decide (f<0) || decide (f>12)) (by rw [h8];simp [A9]) Jn8
 rw [h8] at J
 refine Tr.pcall (J) ?_;refine Je ?_;(refine Ja ?_;unhygienic intros)
 refine Gi1 0 rfl (B7 p) (by simp [B7]) ?_
 refine Je ?_
 cases h3:p.fds.any fun f=>decide (f<0) || decide (f>12) with
 | true =>
  (refine Ja ?_;unhygienic intros)
  refine Ys fun o=>?_
  refine ⟨?_,o.sub⟩
  unfold okS;rw [h1,h2,h3];rfl
 | false =>
  (refine Ja ?_;unhygienic intros)
  have e:okS p=if p.state=2 then p.pending==0 && decide (p.fds=Av8) else p.code==0:=by unfold okS;rw [h1,h2,h3];rfl
  rw [e]
  by_cases h4:p.state=2
  ·refine Yt (by simpa using h4) ?_
   rw [if_pos h4]
   (repeat' first|refine Gu ?_|(with_reducible first|refine Gn fun b h=>?_|apply Gx|apply Gy|rintro px rfl|apply Gw|refine fun(h:H)=>?_|intro hb)|refine Gs ?_|refine Gt ?_|exact Gz rfl|fail)
   rw [show ([int 0,int 0,int 0,int 0,int 0,int 0,int 0,int 0]:List Value)=Av8.map int from rfl,eq8 _ _ h8 rfl]
   (repeat' first|refine Gu ?_|(with_reducible first|refine Gn fun b h=>?_|apply Gx|apply Gy|rintro px rfl|apply Gw|refine fun(h:H)=>?_|intro hb)|refine Gs ?_|refine Gt ?_|exact Gz rfl|fail)
   refine Ys fun o=>?_
   exact ⟨rfl,o.sub⟩
  ·refine Yf (by simpa using h4) ?_
   rw [if_neg h4]
   (refine Ja ?_;unhygienic intros)
   refine Ys fun o=>?_
   exact ⟨rfl,o.sub⟩
theorem Jk8 (a:Option Addr) (c:Nat) (cs:List Value) (j:Nat) (n:Int) (hj:j+2≤cs.length) (hm:cs.length≤A9):Ct A6 B03 [.slice a cs.length c,int j,int n] [slC false A3 1 a cs.length c cs] fun v own =>
  (∃ ok,v=.bool ok)∧own [slC false A3 1 a cs.length c (if 0≤n∧n≤65535 then (cs.set j (.int .u8 ((b8 (n / 256)).toNat:Int))).set (j+1) (.int .u8 ((b8 n).toNat:Int)) else cs)]:=by
 simp only [A9] at hm
 have e1:IntKind.wrap .i64 ((cs.length:Int)-2)=(cs.length:Int)-2:=by rw [B4];omega
 have e2:=wN j
 refine Ct.of H81 rfl fun h r=>Tr.eq (Ia3 ..) ?_;refine Je ?_
 rw [e1,e2]
 (refine Ja ?_;unhygienic intros)
 by_cases h:0≤n∧n≤65535
 ·refine Yf (by simp;omega) ?_
  rw [if_pos h]
  (refine Ja ?_;unhygienic intros;repeat(refine Gw ?_;rintro px rfl;refine Ja ?_;unhygienic intros))
  rw [Int.toNat_natCast,show Int.fdiv n (2 ^ 8)=n / 256 by rw [Int.fdiv_eq_ediv_of_nonneg _ (by omega)];rfl,Bz5,Bz5]
  refine Je ?_
  refine Tr.xVS (cs':=cs.set j (.int .u8 ((b8 (n / 256)).toNat:Int))) ⟨by omega,rfl,rfl⟩ fun h=>?_
  (refine Ja ?_;unhygienic intros)
  rw [Int.toNat_natCast]
  refine Je ?_
  refine Tr.xVS (cs':=(cs.set j (.int .u8 ((b8 (n / 256)).toNat:Int))).set (j+1) (.int .u8 ((b8 n).toNat:Int))) ⟨by simp;omega,rfl,rfl⟩ fun h=>?_
  refine Ys fun o=>?_
  exact ⟨⟨_,rfl⟩,o.sub⟩
 ·refine Yt (by simp;omega) ?_
  rw [if_neg h]
  refine Ys fun o=>?_
  exact ⟨⟨_,rfl⟩,o.sub⟩
theorem Ew6 (l:List UInt8) (j:Nat) (x:UInt8):(A0 l).set j (.int .u8 (x.toNat:Int))=A0 (l.set j x):=by simp [A0,List.map_set]
theorem E66 (a:Option Addr) (c m:Nat) (l:List UInt8) (j:Nat) (n:Int) (hm:l.length=m) (hj:j+2≤m) (h1:l[j]?=some 0) (h2:l[j+1]?=some 0) (hl:m≤A9):Ct A6 B03 [.slice a m c,int j,int n] [slC false A3 1 a m c (A0 l)] fun v own =>
  (∃ ok,v=.bool ok)∧own [slC false A3 1 a m c (A0 ((l.set j (hi2 n)).set (j+1) (lo2 n)))]:=by
 subst hm
 have J:=Jk8 a c (A0 l) j n (by rw [Ab7];omega) (by rw [Ab7];omega)
 rw [Ab7] at J
 have e:(if 0≤n∧n≤65535 then ((A0 l).set j (.int .u8 ((b8 (n / 256)).toNat:Int))).set (j+1) (.int .u8 ((b8 n).toNat:Int)) else A0 l)=A0 ((l.set j (hi2 n)).set (j+1) (lo2 n)):=by
  unfold hi2 lo2
  split
  ·rw [Ew6,Ew6]
  ·rw [Gk9 h1,Gk9 h2]
 rw [e] at J
 exact J
def two (l:List UInt8) (j:Nat):Int:=byI l j*256+byI l (j+1)
theorem Js6 (x y:UInt8):Dv5 .i64 (IntKind.wrap .i64 (IntKind.wrap .i64 (x.toNat:Int)*2 ^ 8)) (IntKind.wrap .i64 (y.toNat:Int))=(x.toNat:Int)*256+y.toNat:=by
 have hx:=x.toNat_lt;have hy:=y.toNat_lt
 have e1:IntKind.wrap .i64 (IntKind.wrap .i64 (x.toNat:Int)*2 ^ 8)=((x.toNat*256:Nat):Int):=by rw [Ay1,B4];omega
 rw [e1,Ay1]
 unfold Dv5
 have e0:IntKind.bits .i64=64:=rfl
 rw [e0,BitVec.ofInt_natCast,BitVec.ofInt_natCast,BitVec.toNat_or,BitVec.toNat_ofNat,BitVec.toNat_ofNat,Nat.mod_eq_of_lt (by omega),Nat.mod_eq_of_lt (by omega)]
 have e2:x.toNat*256 ||| y.toNat=x.toNat*256+y.toNat:=by
  have:=Nat.two_pow_add_eq_or_of_lt (i:=8) (b:=y.toNat) (by omega) x.toNat
  rw [show 2 ^ 8*x.toNat=x.toNat*256 by omega] at this
  exact this.symm
 rw [e2,B4];omega
theorem Go7 (a:Option Addr) (c n:Nat) (l:List UInt8) (j:Nat) (hn:l.length=n) (hj:j+2≤n) (hm:n≤A9):CtP A6 Dk7 [.slice a n c,int j] [slC false A3 1 a n c (A0 l)] (.tuple ⟨[int (two l j),.bool true]⟩):=by
 simp only [A9] at hm
 have e1:IntKind.wrap .i64 ((n:Int)-2)=(n:Int)-2:=by rw [B4];omega
 have e2:=wN j
 refine CtP.of H12 rfl fun h r=>Tr.eq (H02 ..) ?_;refine Je ?_
 rw [e1,e2]
 (refine Ja ?_;unhygienic intros)
 refine Yf (by simp;omega) ?_
 (refine Ja ?_;unhygienic intros;repeat(refine Gw ?_;rintro px rfl;refine Ja ?_;unhygienic intros))
 rw [Int.toNat_natCast]
 refine Je ?_
 refine Tr.xIntS (v:=byI l j) (Al4 (by omega)) ?_
 (refine Ja ?_;unhygienic intros)
 rw [Int.toNat_natCast]
 refine Je ?_
 refine Tr.xIntS (v:=byI l (j+1)) (Al4 (by omega)) ?_
 refine Ys fun o=>?_
 rw [Js6];exact ⟨rfl,rfl⟩
theorem Jh9 (a:Option Addr) (c:Nat) (p:ProcS):Ct A6 U8 [.agg ⟨B7 p⟩,.slice a 24 c] [slC false A3 1 a 24 c (A0 (List.replicate 24 0))] fun v own=>v=.bool (okS p)∧own [slC false A3 1 a 24 c (A0 (if okS p then A85 p else List.replicate 24 0))]:=by
 refine Ct.of J0 rfl fun h r=>Tr.eq (Ii0 ..) ?_;refine Je ?_
 refine Yn fun b1 h=>?_
 (refine Ja ?_;intros)
 refine Yc (Jr2 p) ?_;rintro _ h ⟨rfl,o⟩<;>(refine Jf o ?_;intros)
 cases hk:okS p with
 | false =>
  (refine Ja ?_;intros)
  refine Ys fun o=>?_
  rw [if_neg (by simp)]
  exact ⟨rfl,o.sub⟩
 | true =>
  simp only [if_true]
  obtain ⟨st,pa,gr,co,pe,ma,ig,ca,fds,len⟩:=p
  match fds,len with
  | [f0,f1,f2,f3,f4,f5,f6,f7],len =>
  (refine Ja ?_;intros)
  rename_i b2 h2
  refine S5 2 rfl fun hl hc _=>?_
  simp only [List.map]
  refine Tr.jmp J0 (Tr.eq (Bh7 ..) ?_);(try simp only[Nr,Nl,wl,Nat.reduceAdd,Nat.reduceMul,Int.reduceToNat])
  (refine Jd ?_;intros;repeat(refine Gw ?_;rintro px rfl;refine Jd ?_;intros))
  refine Tr.jmp J0 (Tr.eq (Bh7 ..) ?_);(try simp only[Nr,Nl,wl,Nat.reduceAdd,Nat.reduceMul,Int.reduceToNat])
  (refine Jd ?_;intros)
  refine Tr.jmp J0 (Tr.eq (Bh7 ..) ?_);(try simp only[Nr,Nl,wl,Nat.reduceAdd,Nat.reduceMul,Int.reduceToNat])
  (refine Jd ?_;intros)
  refine Tr.jmp J0 (Tr.eq (Bh7 ..) ?_);(try simp only[Nr,Nl,wl,Nat.reduceAdd,Nat.reduceMul,Int.reduceToNat])
  (refine Jd ?_;intros)
  refine Tr.jmp J0 (Tr.eq (Bh7 ..) ?_);(try simp only[Nr,Nl,wl,Nat.reduceAdd,Nat.reduceMul,Int.reduceToNat])
  (refine Jd ?_;intros)
  simp only [Bz5,Ew6,List.replicate,List.set_cons_zero,List.set_cons_succ,Nat.mul_one]
  refine Tr.jmp J0 (Tr.eq (Bi6 ..) ?_);(try simp only[Nr,Nl,wl,Nat.reduceAdd,Nat.reduceMul,Int.reduceToNat])
  (refine Jd ?_;intros)
  refine Yc (E66 (some px) c 24 [b8 st,b8 pa,b8 gr,b8 co,0,0,0,0,0,0,0,0,0,0,0,0,0,0,0,0,0,0,0,0] 4 pe rfl (by omega) rfl rfl (by simp [A9])) ?_;rintro _ h ⟨⟨_,rfl⟩,o⟩<;>(refine Jf o ?_;intros)
  refine Tr.jmp J0 (Tr.eq (Bi6 ..) ?_);(try simp only[Nr,Nl,wl,Nat.reduceAdd,Nat.reduceMul,Int.reduceToNat])
  (refine Jd ?_;intros)
  refine Yc (E66 (some px) c 24 [b8 st,b8 pa,b8 gr,b8 co,hi2 pe,lo2 pe,0,0,0,0,0,0,0,0,0,0,0,0,0,0,0,0,0,0] 6 ma rfl (by omega) rfl rfl (by simp [A9])) ?_;rintro _ h ⟨⟨_,rfl⟩,o⟩<;>(refine Jf o ?_;intros)
  refine Tr.jmp J0 (Tr.eq (Bi6 ..) ?_);(try simp only[Nr,Nl,wl,Nat.reduceAdd,Nat.reduceMul,Int.reduceToNat])
  (refine Jd ?_;intros)
  refine Yc (E66 (some px) c 24 [b8 st,b8 pa,b8 gr,b8 co,hi2 pe,lo2 pe,hi2 ma,lo2 ma,0,0,0,0,0,0,0,0,0,0,0,0,0,0,0,0] 8 ig rfl (by omega) rfl rfl (by simp [A9])) ?_;rintro _ h ⟨⟨_,rfl⟩,o⟩<;>(refine Jf o ?_;intros)
  refine Tr.jmp J0 (Tr.eq (Bi6 ..) ?_);(try simp only[Nr,Nl,wl,Nat.reduceAdd,Nat.reduceMul,Int.reduceToNat])
  (refine Jd ?_;intros)
  refine Yc (E66 (some px) c 24 [b8 st,b8 pa,b8 gr,b8 co,hi2 pe,lo2 pe,hi2 ma,lo2 ma,hi2 ig,lo2 ig,0,0,0,0,0,0,0,0,0,0,0,0,0,0] 10 ca rfl (by omega) rfl rfl (by simp [A9])) ?_;rintro _ h ⟨⟨_,rfl⟩,o⟩<;>(refine Jf o ?_;intros)
  refine Tr.jmp J0 (Tr.eq (Bi6 ..) ?_);(try simp only[Nr,Nl,wl,Nat.reduceAdd,Nat.reduceMul,Int.reduceToNat])
  (refine Jd ?_;intros)
  refine Tr.jmp J0 (Tr.eq (Af2 ..) ?_);(try simp only[Nr,Nl,wl,Nat.reduceAdd,Nat.reduceMul,Int.reduceToNat])
  (refine Jd ?_;intros)
  refine Tr.jmp J0 (Tr.eq (Af2 ..) ?_);(try simp only[Nr,Nl,wl,Nat.reduceAdd,Nat.reduceMul,Int.reduceToNat])
  (refine Jd ?_;intros)
  refine Tr.jmp J0 (Tr.eq (Af2 ..) ?_);(try simp only[Nr,Nl,wl,Nat.reduceAdd,Nat.reduceMul,Int.reduceToNat])
  (refine Jd ?_;intros)
  refine Tr.jmp J0 (Tr.eq (Af2 ..) ?_);(try simp only[Nr,Nl,wl,Nat.reduceAdd,Nat.reduceMul,Int.reduceToNat])
  (refine Jd ?_;intros)
  refine Tr.jmp J0 (Tr.eq (Af2 ..) ?_);(try simp only[Nr,Nl,wl,Nat.reduceAdd,Nat.reduceMul,Int.reduceToNat])
  (refine Jd ?_;intros)
  refine Tr.jmp J0 (Tr.eq (Af2 ..) ?_);(try simp only[Nr,Nl,wl,Nat.reduceAdd,Nat.reduceMul,Int.reduceToNat])
  (refine Jd ?_;intros)
  refine Tr.jmp J0 (Tr.eq (Af2 ..) ?_);(try simp only[Nr,Nl,wl,Nat.reduceAdd,Nat.reduceMul,Int.reduceToNat])
  (refine Jd ?_;intros)
  refine Tr.jmp J0 (Tr.eq (Af2 ..) ?_);(try simp only[Nr,Nl,wl,Nat.reduceAdd,Nat.reduceMul,Int.reduceToNat])
  (refine Jd ?_;intros)
  refine Tr.jmp J0 (Tr.eq (Af2 ..) ?_);(try simp only[Nr,Nl,wl,Nat.reduceAdd,Nat.reduceMul,Int.reduceToNat])
  (refine Jd ?_;intros)
  simp only [Bz5,Ew6,List.set_cons_zero,List.set_cons_succ,Nat.mul_one]
  rw [show (.int .u8 167:Value)=.int .u8 ((167:UInt8).toNat:Int) from rfl,Ew6]
  simp only [List.set_cons_zero,List.set_cons_succ]
  refine Tr.pcall (Hc6 (slC false A3 1 (some px) 24 c (A0 [b8 st,b8 pa,b8 gr,b8 co,hi2 pe,lo2 pe,hi2 ma,lo2 ma,hi2 ig,lo2 ig,hi2 ca,lo2 ca,b8 f0,b8 f1,b8 f2,b8 f3,b8 f4,b8 f5,b8 f6,b8 f7,167,0,0,0])) (some px) false 24 c c [b8 st,b8 pa,b8 gr,b8 co,hi2 pe,lo2 pe,hi2 ma,lo2 ma,hi2 ig,lo2 ig,hi2 ca,lo2 ca,b8 f0,b8 f1,b8 f2,b8 f3,b8 f4,b8 f5,b8 f6,b8 f7,167,0,0,0] 21 (by simp) (by simp [A9])) ?_
  refine Je ?_
  (refine Ja ?_;intros)
  rw [Ec2]
  (refine Jd ?_;intros)
  refine Ys fun o=>?_
  rw [Ew6] at o
  simp only [List.set_cons_zero,List.set_cons_succ] at o
  simp only [A85,Ez1,put2,List.map,List.cons_append,List.nil_append]
  exact ⟨trivial,o.sub⟩
abbrev Gz2 (k:Nat):HP:=pt k (.cells B68 false [int 24,.func (.func U8) ⟨[]⟩ ⟨[]⟩,.func (.func Ae2) ⟨[]⟩ ⟨[]⟩])
theorem Ih9 (k:Nat) (f:ProcS):Ct A6 Ac4 [P0 k,.agg ⟨B7 f⟩] [Gz2 k] fun v own=>(okS f=true∧∃ a,v=.tuple ⟨[.slice a 24 24,.bool true]⟩∧own [Gz2 k,slC false A3 1 a 24 24 (A0 (A85 f))])∨(okS f=false∧v=.tuple ⟨[.slice none 0 0,.bool false]⟩∧own [Gz2 k]):=by
 refine Ct.of Do5 rfl fun h r=>Tr.eq (Do6 ..) ?_;refine Je ?_
 (refine Ja ?_;intros)
 refine Tr.ck ⟨by omega,by omega,by simp [A9]⟩ ?_
 refine Yn fun b1 h=>?_
 rw [show I6 (Int.toNat 24) [.int .u8 0]=A0 (List.replicate 24 0) from rfl]
 refine Ah3 0 rfl 1 24 rfl (by omega) ?_
 simp only [List.set_cons_zero]
 refine Je ?_
 (refine Jb ?_;intros)
 refine Yb (Yf rfl ?_)
 (refine Jb ?_;intros)
 refine Yc (Jh9 (some ⟨b1,0,none⟩) 24 f) ?_;rintro _ h ⟨rfl,o⟩<;>(refine Jg o ?_;intros)
 refine Ys fun o=>(?_:Tr _ _ _ _) o;refine Je ?_
 cases hk:okS f with
 | false =>
  (refine Ja ?_;intros)
  refine Ys fun o=>?_
  exact .inr ⟨rfl,rfl,o.sub⟩
 | true =>
  (refine Ja ?_;intros)
  refine Ys fun o=>?_
  simp only [if_true] at o
  exact .inl ⟨rfl,_,rfl,o.sub⟩
theorem Jk9:Ct A6 A08 [int 24,.func (.func U8) ⟨[]⟩ ⟨[]⟩,.func (.func Ae2) ⟨[]⟩ ⟨[]⟩] [] fun v own=>∃ k,v=P0 k∧own [Gz2 k]:=by
 refine Ct.of E29 rfl fun h r=>Tr.eq (E59 ..) ?_;refine Je ?_
 rw [show mm2 false (mm2 true 24 0) 64=24 from rfl]
 (refine Ja ?_;intros)
 refine Ys fun o=>?_
 exact ⟨_,rfl,o.sub⟩
theorem Hr2:Ct A6 Bp6 [] [] fun v own=>∃ k,v=P0 k∧own [Gz2 k]:=by
 refine Ct.of Hu8 rfl fun h r=>Tr.eq (Ht2 ..) ?_;refine Je ?_
 refine Yc (Jk9) ?_;rintro _ h ⟨k,rfl,o⟩<;>(refine Jf o ?_;intros)
 refine Ys fun o=>?_
 exact ⟨_,rfl,o.sub⟩
theorem Hf2 (f:ProcS):Ct A6 Bi1 [.agg ⟨B7 f⟩] [] fun v own=>(okS f=true∧∃ a,v=.tuple ⟨[.slice a 24 24,.bool true]⟩∧own [slC false A3 1 a 24 24 (A0 (A85 f))])∨(okS f=false∧v=.tuple ⟨[.slice none 0 0,.bool false]⟩∧own []):=by
 refine Ct.of Hk4 rfl fun h r=>Tr.eq (Hm1 ..) ?_;refine Je ?_
 (refine Ja ?_;intros)
 refine Yc (Hr2) ?_;rintro _ h ⟨k,rfl,o⟩<;>(refine Jg o ?_;intros)
 refine Yc (Ih9 k f) ?_
 rintro v h (⟨hk,a,rfl,o⟩|⟨hk,rfl,o⟩)
 ·refine (?_:Tr _ _ _ _) o
  refine Je ?_
  (refine Ja ?_;intros)
  refine Ys fun o=>?_
  exact .inl ⟨hk,a,rfl,o.sub⟩
 ·refine (?_:Tr _ _ _ _) o
  refine Je ?_
  (refine Ja ?_;intros)
  refine Ys fun o=>?_
  exact .inr ⟨hk,rfl,o.sub⟩
def Bs9 (l:List UInt8):ProcS:=⟨byI l 0,byI l 1,byI l 2,byI l 3,two l 4,two l 6,two l 8,two l 10,[byI l 12,byI l 13,byI l 14,byI l 15,byI l 16,byI l 17,byI l 18,byI l 19],rfl⟩
def isS (l:List UInt8):Bool:=okS (Bs9 l) && decide (A85 (Bs9 l)=l)
theorem Jo2 (a:Option Addr) (c:Nat) (l:List UInt8) (hl:l.length=24):Ct A6 Ae2 [.slice a 24 c] [slC false A3 1 a 24 c (A0 l)] fun v own=>v=.tuple ⟨[.agg ⟨B7 (Bs9 l)⟩,.bool (isS l)]⟩∧own [slC false A3 1 a 24 c (A0 l)]:=by
 have key:∀ a1:Option Addr,CtP A6 D7 [.slice a1 24 24,.slice a 24 c] [slC false A3 1 a1 24 24 (A0 (A85 (Bs9 l))),slC false A3 1 a 24 c (A0 l)] (.bool (decide (A85 (Bs9 l)=l))):=fun a1=>by
  have e:=E33 (Bs9 l)
  have J:=Gf2 (slC false A3 1 a1 (A85 (Bs9 l)).length 24 (A0 (A85 (Bs9 l)))) (slC false A3 1 a l.length c (A0 l)) a1 false 24 a false c (A85 (Bs9 l)) l (by rw [e];simp [A9])
  rwa [hl,e] at J
 refine Ct.of U7 rfl fun h r=>Tr.eq (Ig4 ..) ?_;refine Je ?_
 refine Yn fun b1 h=>?_
 refine S5 1 rfl fun hl2 hc2 _=>?_
 (refine Ja ?_;intros;repeat(refine Gw ?_;rintro px rfl;refine Ja ?_;intros))
 refine Tr.xIntS (v:=byI l 0) (Al4 (by omega)) ?_
 (refine Ja ?_;intros)
 refine Tr.xIntS (v:=byI l 1) (Al4 (by omega)) ?_
 (refine Ja ?_;intros)
 refine Tr.xIntS (v:=byI l 2) (Al4 (by omega)) ?_
 (refine Ja ?_;intros)
 refine Tr.xIntS (v:=byI l 3) (Al4 (by omega)) ?_
 (refine Ja ?_;intros)
 simp only [byI,Ay1]
 refine Tr.jmp U7 (Tr.eq (Bk2 ..) ?_);(try simp only[Nr,Nl,wl,Nat.reduceAdd,Nat.reduceMul,Int.reduceToNat])
 (refine Jd ?_;intros)
 refine Tr.pcall (Go7 (some px) c 24 l 4 hl (by omega) (by simp [A9])) ?_;refine Je ?_;(refine Ja ?_;intros)
 refine Tr.jmp U7 (Tr.eq (Bk2 ..) ?_);(try simp only[Nr,Nl,wl,Nat.reduceAdd,Nat.reduceMul,Int.reduceToNat])
 (refine Jd ?_;intros)
 refine Tr.pcall (Go7 (some px) c 24 l 6 hl (by omega) (by simp [A9])) ?_;refine Je ?_;(refine Ja ?_;intros)
 refine Tr.jmp U7 (Tr.eq (Bk2 ..) ?_);(try simp only[Nr,Nl,wl,Nat.reduceAdd,Nat.reduceMul,Int.reduceToNat])
 (refine Jd ?_;intros)
 refine Tr.pcall (Go7 (some px) c 24 l 8 hl (by omega) (by simp [A9])) ?_;refine Je ?_;(refine Ja ?_;intros)
 refine Tr.jmp U7 (Tr.eq (Bk2 ..) ?_);(try simp only[Nr,Nl,wl,Nat.reduceAdd,Nat.reduceMul,Int.reduceToNat])
 (refine Jd ?_;intros)
 refine Tr.pcall (Go7 (some px) c 24 l 10 hl (by omega) (by simp [A9])) ?_;refine Je ?_;(refine Ja ?_;intros)
 refine Tr.jmp U7 (Tr.eq (Bk2 ..) ?_);(try simp only[Nr,Nl,wl,Nat.reduceAdd,Nat.reduceMul,Int.reduceToNat])
 (refine Jd ?_;intros)
 refine Tr.jmp U7 (Tr.eq (Af5 ..) ?_);(try simp only[Nr,Nl,wl,Nat.reduceAdd,Nat.reduceMul,Int.reduceToNat])
 (refine Jd ?_;intros)
 refine Tr.xIntS (v:=byI l 12) (Al4 (by omega)) ?_
 (refine Jd ?_;intros)
 simp only [byI,Ay1]
 refine Tr.jmp U7 (Tr.eq (Af5 ..) ?_);(try simp only[Nr,Nl,wl,Nat.reduceAdd,Nat.reduceMul,Int.reduceToNat])
 (refine Jd ?_;intros)
 refine Tr.xIntS (v:=byI l 13) (Al4 (by omega)) ?_
 (refine Jd ?_;intros)
 simp only [byI,Ay1]
 refine Tr.jmp U7 (Tr.eq (Af5 ..) ?_);(try simp only[Nr,Nl,wl,Nat.reduceAdd,Nat.reduceMul,Int.reduceToNat])
 (refine Jd ?_;intros)
 refine Tr.xIntS (v:=byI l 14) (Al4 (by omega)) ?_
 (refine Jd ?_;intros)
 simp only [byI,Ay1]
 refine Tr.jmp U7 (Tr.eq (Af5 ..) ?_);(try simp only[Nr,Nl,wl,Nat.reduceAdd,Nat.reduceMul,Int.reduceToNat])
 (refine Jd ?_;intros)
 refine Tr.xIntS (v:=byI l 15) (Al4 (by omega)) ?_
 (refine Jd ?_;intros)
 simp only [byI,Ay1]
 refine Tr.jmp U7 (Tr.eq (Af5 ..) ?_);(try simp only[Nr,Nl,wl,Nat.reduceAdd,Nat.reduceMul,Int.reduceToNat])
 (refine Jd ?_;intros)
 refine Tr.xIntS (v:=byI l 16) (Al4 (by omega)) ?_
 (refine Jd ?_;intros)
 simp only [byI,Ay1]
 refine Tr.jmp U7 (Tr.eq (Af5 ..) ?_);(try simp only[Nr,Nl,wl,Nat.reduceAdd,Nat.reduceMul,Int.reduceToNat])
 (refine Jd ?_;intros)
 refine Tr.xIntS (v:=byI l 17) (Al4 (by omega)) ?_
 (refine Jd ?_;intros)
 simp only [byI,Ay1]
 refine Tr.jmp U7 (Tr.eq (Af5 ..) ?_);(try simp only[Nr,Nl,wl,Nat.reduceAdd,Nat.reduceMul,Int.reduceToNat])
 (refine Jd ?_;intros)
 refine Tr.xIntS (v:=byI l 18) (Al4 (by omega)) ?_
 (refine Jd ?_;intros)
 simp only [byI,Ay1]
 refine Tr.jmp U7 (Tr.eq (Af5 ..) ?_);(try simp only[Nr,Nl,wl,Nat.reduceAdd,Nat.reduceMul,Int.reduceToNat])
 (refine Jd ?_;intros)
 refine Tr.xIntS (v:=byI l 19) (Al4 (by omega)) ?_
 (refine Jd ?_;intros)
 simp only [byI,Ay1]
 refine Tr.jmp U7 (Tr.eq (Af5 ..) ?_);(try simp only[Nr,Nl,wl,Nat.reduceAdd,Nat.reduceMul,Int.reduceToNat])
 refine Yf rfl ?_
 refine Tr.xAgg (xs:=B7 (Bs9 l)) ⟨Nat.le_of_ble_eq_true rfl,rfl⟩ ?_
 refine Yc (Hf2 (Bs9 l)) ?_
 rintro v h (⟨hk,a1,rfl,o⟩|⟨hk,rfl,o⟩)
 ·refine (?_:Tr _ _ _ _) o
  refine Je ?_
  refine Tr.dx ?_
  refine Tr.dx ?_
  refine Tr.dx ?_
  refine Tr.xAgg (xs:=B7 (Bs9 l)) ⟨Nat.le_of_ble_eq_true rfl,rfl⟩ ?_
  refine Yb (Yt rfl ?_)
  refine Tr.pcall (key a1) ?_
  refine Tr.dx ?_
  refine Tr.xAgg (xs:=B7 (Bs9 l)) ⟨Nat.le_of_ble_eq_true rfl,rfl⟩ ?_
  (refine Ja ?_;intros)
  refine Ys fun o=>(?_:Tr _ _ _ _) o;refine Je ?_
  (refine Ja ?_;intros)
  refine Ys fun o=>?_
  exact ⟨by unfold isS;rw [hk,Bool.true_and],o.sub⟩
 ·refine (?_:Tr _ _ _ _) o
  refine Je ?_
  refine Tr.dx ?_
  refine Tr.dx ?_
  refine Tr.dx ?_
  refine Tr.xAgg (xs:=B7 (Bs9 l)) ⟨Nat.le_of_ble_eq_true rfl,rfl⟩ ?_
  (refine Ja ?_;intros)
  refine Ys fun o=>?_
  exact ⟨by unfold isS;rw [hk];rfl,o.sub⟩
theorem H35 (k:Nat) (pb:HP) (ro:Bool) (a:Option Addr) (c:Nat) (l:List UInt8) (hl:l.length=24) [ks:IsSl pb a ro A3 1 24 c (A0 l)]:Ct A6 Ac5 [P0 k,.slice a 24 c] [Gz2 k,pb] fun v own=>v=.tuple ⟨[.agg ⟨B7 (if isS l then Bs9 l else .zero)⟩,.bool (isS l)]⟩∧own [Gz2 k,pb]:=by
 refine Ct.of Do9 rfl fun h r=>Tr.eq (Do8 ..) ?_;refine Je ?_
 (refine Ja ?_;intros)
 refine Yf rfl ?_
 (refine Jb ?_;intros)
 refine Yc (E06 24 pb ro a c l hl (by simp [A9])) ?_;rintro _ h ⟨a1,c1,rfl,o⟩<;>(refine Jg o ?_;intros)
 refine Yc (Jo2 a1 c1 l hl) ?_;rintro _ h ⟨rfl,o⟩<;>(refine Jg o ?_;intros)
 cases hk:isS l with
 | false =>
  (refine Ja ?_;intros)
  refine Ys fun o=>?_
  exact ⟨rfl,o.sub⟩
 | true =>
  (refine Ja ?_;intros)
  refine Ys fun o=>?_
  exact ⟨rfl,o.sub⟩
def O2 (l:List UInt8):ProcS × Int:=if l.all (·==0) then (.zero,0) else if isS l then (Bs9 l,1) else (.zero,2)
theorem Gv4 (pb:HP) (ro:Bool) (a:Option Addr) (c:Nat) (l:List UInt8) (hl:l.length=24) [ks:IsSl pb a ro A3 1 24 c (A0 l)]:Ct A6 Af4 [.slice a 24 c] [pb] fun v own=>v=.tuple ⟨[.agg ⟨B7 (O2 l).1⟩,int (O2 l).2]⟩∧own [pb]:=by
 refine Ct.of Hl2 rfl fun h r=>Tr.eq (Hg0 ..) ?_;refine Je ?_
 refine Yn fun b1 h=>?_
 refine Yb (Yt rfl ?_)
 refine Tr.pcall (E44 24 pb ro a c l hl (by simp [A9])) ?_;refine Je ?_;(refine Jb ?_;intros)
 refine Ys fun o=>(?_:Tr _ _ _ _) o;refine Je ?_
 cases hb:l.all (·==0) with
 | true =>
  (refine Ja ?_;intros)
  refine Ys fun o=>?_
  exact ⟨by unfold O2;rw [hb];rfl,o.sub⟩
 | false =>
  (refine Jb ?_;intros)
  refine Yc (Hr2) ?_;rintro _ h ⟨k,rfl,o⟩<;>(refine Jg o ?_;intros)
  refine Yc (H35 k pb ro a c l hl) ?_;rintro _ h ⟨rfl,o⟩<;>(refine Jg o ?_;intros)
  cases hk:isS l with
  | false =>
   (refine Ja ?_;intros)
   refine Ys fun o=>?_
   exact ⟨by unfold O2;rw [hb,hk];rfl,o.sub⟩
  | true =>
   (refine Ja ?_;intros)
   refine Ys fun o=>?_
   exact ⟨by unfold O2;rw [hb,hk];rfl,o.sub⟩
theorem Iv5 (a:Option Addr) (c:Nat) (l:List UInt8) (hl:l.length=24):Ct A6 Af4 [.slice a 24 c] [slC false A3 1 a 24 c (A0 l)] fun v own=>v=.tuple ⟨[.agg ⟨B7 (O2 l).1⟩,int (O2 l).2]⟩∧own [slC false A3 1 a 24 c (A0 l)]:=Gv4 (slC false A3 1 a 24 c (A0 l)) false a c l hl
def O9 (l:List UInt8) (a:Nat) (b:List UInt8):List UInt8:=l.take a++b++l.drop (a+b.length)
theorem Ao9 {l b:List UInt8} {a:Nat} (h:a+b.length≤l.length):(O9 l a b).length=l.length:=by simp [O9];omega
theorem B13 {l b:List UInt8} {a:Nat} (h:a+b.length≤l.length) (i:Nat):(O9 l a b)[i]?=if a≤i∧i<a+b.length then b[i-a]? else l[i]?:=by
 unfold O9
 by_cases h1:i<a
 ·rw [if_neg (by omega),List.append_assoc,List.getElem?_append_left (by simp;omega),List.getElem?_take,if_pos h1]
 ·rw [List.append_assoc,List.getElem?_append_right (by simp;omega),List.length_take,Nat.min_eq_left (by omega)]
  by_cases h2:i<a+b.length
  ·rw [if_pos ⟨by omega,h2⟩,List.getElem?_append_left (by omega)]
  ·rw [if_neg (by omega),List.getElem?_append_right (by omega),List.getElem?_drop];congr 1;omega
def slice (l:List UInt8) (a n:Nat):List UInt8:=(l.drop a).take n
theorem Df6 (l:List UInt8) (a n i:Nat):(slice l a n)[i]?=if i<n then l[a+i]? else none:=by
 unfold slice;rw [List.getElem?_take];split
 ·rw [List.getElem?_drop]
 ·rfl
theorem Gi0 {l:List UInt8} {a n:Nat} (h:a+n≤l.length):(slice l a n).length=n:=by simp [slice];omega
abbrev Rg:=List (Nat × Nat)
def A53:List UInt8→Rg→List (List UInt8)→List UInt8
 | l,(lo,_)::rg,x::m=>A53 (O9 l lo x) rg m
 | l,_,_=>l
structure Fit (size:Nat) (rg:Rg) (m:List (List UInt8)):Prop where
 len:m.length=rg.length
 each:∀ (j lo n:Nat),rg[j]?=some (lo,n)→lo+n≤size∧∃ x,m[j]?=some x∧x.length=n
def RgOk (rg:Rg):Prop:=∀ (i j lo n lo' n':Nat),i≠j→rg[i]?=some (lo,n)→rg[j]?=some (lo',n')→lo+n≤lo'∨lo'+n'≤lo
theorem Fit.tail {size:Nat} {p:Nat × Nat} {rg:Rg} {x:List UInt8} {m:List (List UInt8)} (f:Fit size (p::rg) (x::m)):Fit size rg m:=⟨by simpa using f.len,fun j lo n h=>by simpa using f.each (j+1) lo n (by simpa using h)⟩
theorem Fit.head {size lo n:Nat} {rg:Rg} {x:List UInt8} {m:List (List UInt8)} (f:Fit size ((lo,n)::rg) (x::m)):lo+n≤size∧x.length=n:=by
 obtain ⟨h,y,hy,hl⟩:=f.each 0 lo n rfl
 simp at hy;subst hy;exact ⟨h,hl⟩
theorem RgOk.tail {p:Nat × Nat} {rg:Rg} (k:RgOk (p::rg)):RgOk rg:=fun i j lo n lo' n' hij hi hj=>k (i+1) (j+1) lo n lo' n' (by omega) (by simpa using hi) (by simpa using hj)
theorem Du8:∀ {rg:Rg} {m:List (List UInt8)} {l:List UInt8},Fit l.length rg m→(A53 l rg m).length=l.length
 | [],m,l,f=>by simp [A53]
 | (lo,n)::rg,[],l,f=>by simp [A53]
 | (lo,n)::rg,x::m,l,f=>by
  have h:=f.head
  have e:=Ao9 (l:=l) (b:=x) (a:=lo) (by omega)
  unfold A53
  rw [Du8 (by rw [e];exact f.tail),e]
theorem Ef1:∀ {rg:Rg} {m:List (List UInt8)} {l:List UInt8},Fit l.length rg m→∀ i,(∀ (j lo n:Nat),rg[j]?=some (lo,n)→i<lo∨lo+n≤i)→(A53 l rg m)[i]?=l[i]?
 | [],m,l,f,i,h=>by simp [A53]
 | (lo,n)::rg,[],l,f,i,h=>by simp [A53]
 | (lo,n)::rg,x::m,l,f,i,h=>by
  have h0:=f.head
  have e:=Ao9 (l:=l) (b:=x) (a:=lo) (by omega)
  unfold A53
  rw [Ef1 (by rw [e];exact f.tail) i (fun j lo' n' hj=>h (j+1) lo' n' (by simpa using hj)),B13 (by omega),if_neg]
  have:=h 0 lo n rfl;omega
theorem Dv6:∀ {rg:Rg} {m:List (List UInt8)} {l:List UInt8},Fit l.length rg m→RgOk rg→∀ (j lo n:Nat) (x:List UInt8),rg[j]?=some (lo,n)→m[j]?=some x→∀ i,i<n→(A53 l rg m)[lo+i]?=x[i]?
 | [],m,l,f,k,j,lo,n,x,h,hx,i,hi=>by simp at h
 | (lo0,n0)::rg,[],l,f,k,j,lo,n,x,h,hx,i,hi=>by simp at hx
 | (lo0,n0)::rg,x0::m,l,f,k,j,lo,n,x,h,hx,i,hi=>by
  have h0:=f.head
  have e:=Ao9 (l:=l) (b:=x0) (a:=lo0) (by omega)
  unfold A53
  cases j with
  | zero =>
   simp at h hx
   obtain ⟨rfl,rfl⟩:=h;subst hx
   rw [Ef1 (by rw [e];exact f.tail) (lo0+i) (fun j lo' n' hj=>by
    have:=k 0 (j+1) lo0 n0 lo' n' (by omega) rfl (by simpa using hj)
    omega),B13 (by omega),if_pos (by omega)]
   congr 1;omega
  | succ j=>exact Dv6 (by rw [e];exact f.tail) k.tail j lo n x (by simpa using h) (by simpa using hx) i hi
theorem He1 {rg:Rg} {m:List (List UInt8)} {l:List UInt8} (f:Fit l.length rg m) (k:RgOk rg) {j lo n:Nat} {x:List UInt8} (h:rg[j]?=some (lo,n)) (hx:m[j]?=some x) {a c:Nat} (hc:a+c≤n):slice (A53 l rg m) (lo+a) c=slice x a c:=by
 refine List.ext_getElem? fun i=>?_
 rw [Df6,Df6]
 split
 ·rw [Nat.add_assoc,Dv6 f k j lo n x h hx (a+i) (by omega)]
 ·rfl
theorem Fit.set {size:Nat} {rg:Rg} {m:List (List UInt8)} (f:Fit size rg m) {j lo n:Nat} (h:rg[j]?=some (lo,n)) {y:List UInt8} (hy:y.length=n):Fit size rg (m.set j y):=⟨by simpa using f.len,fun i lo' n' hi=>by
 obtain ⟨h1,z,hz,hl⟩:=f.each i lo' n' hi
 refine ⟨h1,?_⟩
 by_cases hij:j=i
 ·subst hij
  rw [h] at hi;cases hi
  exact ⟨y,by simp [(List.getElem?_eq_some_iff.1 hz).1],hy⟩
 ·exact ⟨z,by rw [List.getElem?_set_ne hij];exact hz,hl⟩⟩
theorem Ih5 {rg:Rg} {m:List (List UInt8)} {l:List UInt8} (f:Fit l.length rg m) (k:RgOk rg) {j lo n:Nat} {x:List UInt8} (h:rg[j]?=some (lo,n)) (hx:m[j]?=some x) {a:Nat} {b:List UInt8} (hc:a+b.length≤n):O9 (A53 l rg m) (lo+a) b=A53 l rg (m.set j (O9 x a b)):=by
 obtain ⟨h1,y,hy,hl⟩:=f.each j lo n h
 rw [hx] at hy;cases hy
 have e:=Ao9 (l:=x) (b:=b) (a:=a) (by omega)
 have f2:=f.set h (y:=O9 x a b) (by omega)
 have lp:=Du8 f
 refine List.ext_getElem? fun i=>?_
 rw [B13 (by omega)]
 by_cases hi:lo≤i∧i<lo+n
 ·obtain ⟨i',rfl⟩:∃ i',i=lo+i':=⟨i-lo,by omega⟩
  rw [Dv6 f2 k j lo n (O9 x a b) h (by simp [(List.getElem?_eq_some_iff.1 hx).1]) i' (by omega),B13 (by omega),Dv6 f k j lo n x h hx i' (by omega)]
  by_cases h2:a≤i'∧i'<a+b.length
  ·rw [if_pos (by omega),if_pos h2];congr 1;omega
  ·rw [if_neg (by omega),if_neg h2]
 ·rw [if_neg (by omega)]
  by_cases ho:∃ (j' lo' n':Nat),rg[j']?=some (lo',n')∧lo'≤i∧i<lo'+n'
  ·obtain ⟨j',lo',n',hj',h3,h4⟩:=ho
   have hne:j≠j':=fun e=>by subst e;rw [h] at hj';cases hj';omega
   obtain ⟨_,z,hz,_⟩:=f.each j' lo' n' hj'
   obtain ⟨i',rfl⟩:∃ i',i=lo'+i':=⟨i-lo',by omega⟩
   rw [Dv6 f k j' lo' n' z hj' hz i' (by omega),Dv6 f2 k j' lo' n' z hj' (by rw [List.getElem?_set_ne hne];exact hz) i' (by omega)]
  ·have hall:∀ (j' lo' n':Nat),rg[j']?=some (lo',n')→i<lo'∨lo'+n'≤i:=fun j' lo' n' hj'=>by
    by_cases hh:lo'≤i∧i<lo'+n'
    ·exact absurd ⟨j',lo',n',hj',hh.1,hh.2⟩ ho
    ·omega
   rw [Ef1 f i hall,Ef1 f2 i hall]
structure RecS where
 kind:Int
 index:Int
deriving DecidableEq
abbrev U1 (r:RecS):List Value:=[int r.kind,int r.index]
structure Fr where
 S:KS
 N:Nat
 env:Int
 caps:List Int
 rg:Rg
structure FrOk (F:Fr):Prop where
 ok:KOk F.N F.S
 hN:F.N+1<1000000000
 ne:0<F.caps.length
 small:F.caps.length≤40
 len:F.rg.length=F.caps.length
 env:¬ (F.env<0∨F.env≥(F.S.envs.length:Int))
 pl:∀ (j:Nat) (cap:Int) (lo n:Nat),F.caps[j]?=some cap→F.rg[j]?=some (lo,n)→∀ (a m:Nat) (right:Int),right=1∨right=2→a+m≤n→W1 F.S.tabs F.S.regs F.env cap right a m=(((lo+a:Nat):Int),0)
 dj:RgOk F.rg
 own:∃ lo,F.rg[0]?=some (lo,492)
 brs:∀ (j lo n:Nat),0<j→F.rg[j]?=some (lo,n)→n=40
def Fr.at (F:Fr) (m:List (List UInt8)):KS:=B79 F.S (A53 F.S.mem F.rg m)
structure CX where
 m:List (List UInt8)
 bad:List RecS
def Ap8:Nat→List RecS→List MapEntry
 | _,[]=>[]
 | i,r::l=>{ key:=.agg ⟨U1 r⟩,val:=int 1,born:=i }::Ap8 (i+1) l
abbrev Jq7 (c k:Nat) (env:Int) (caps:List Int) (bad:List RecS) (x:Option Addr × Nat × Nat):List HP :=
 [pt c (.cells D52 false [P0 k,int env,.slice x.1 caps.length x.2.1,.map (some x.2.2)]),slC false A8 1 x.1 caps.length x.2.1 (caps.map int),pt x.2.2 (.map (Ap8 0 bad) bad.length)]
def Q7 (c k:Nat) (env:Int) (caps:List Int) (bad:List RecS):HP:=hex fun x=>sl (Jq7 c k env caps bad x)
instance {c k:Nat} {env:Int} {caps:List Int} {bad:List RecS}:Chk (Q7 c k env caps bad) (Jq7 c k env caps bad):=⟨rfl⟩
abbrev cmF (c k:Nat) (F:Fr) (x:CX):List HP:=[E8 k (F.at x.m),Q7 c k F.env F.caps x.bad,pu (Fit F.S.mem.length F.rg x.m)]
def cmC (c k:Nat) (F:Fr) (x:CX):HP:=hex fun _:Unit=>sl (cmF c k F x)
instance {c k:Nat} {F:Fr} {x:CX}:Chk (cmC c k F x) (fun _:Unit=>cmF c k F x):=⟨rfl⟩
def J8 (nc:Nat) (kind:Int):Int:=if kind=1 then 8 else if kind=2 then 12 else if kind=3 then 3+nc else 1
def E7 (nc:Nat) (r:RecS):Option (Nat × Nat × Nat) :=
 if r.index<0∨r.index≥J8 nc r.kind then none
 else if r.kind=1 then some (0,24*r.index.toNat,24)
 else if r.kind=2 then some (0,192+8*r.index.toNat,8)
 else if r.kind=3 then if r.index<4 then some (0,288+40*r.index.toNat,40) else some (r.index.toNat-3,0,40)
 else if r.kind=4 then some (0,448,40)
 else some (0,488,4)
def H20 (caps:List Int):Option (Nat × Nat × Nat)→List Value
 | some (j,a,n)=>[int (caps.getD j 0),int a,int n]
 | none=>[int 0,int 0,int 0]
theorem G09 (c k:Nat) (env:Int) (caps:List Int) (bad:List RecS) (kind:Int) (hs:caps.length≤40):CtP A6 Aa6 [P0 c,int kind] [Q7 c k env caps bad] (int (J8 caps.length kind)):=by
 have e:IntKind.wrap .i64 (IntKind.wrap .i64 (4+(caps.length:Int))-1)=3+(caps.length:Int):=by rw [B4,B4];omega
 refine CtP.of Er9 rfl fun h r=>Tr.eq (Eq9 ..) ?_;refine Je ?_
 refine B6 (Q7 c k env caps bad) fun ⟨a,n,mb⟩=>?_;refine Je ?_
 unfold J8
 by_cases h1:kind=1
 ·refine Yt (by simpa using h1) ?_
  rw [if_pos h1];exact Jz
 refine Yf (by simpa using h1) ?_
 rw [if_neg h1]
 by_cases h2:kind=2
 ·refine Yt (by simpa using h2) ?_
  rw [if_pos h2];exact Jz
 refine Yf (by simpa using h2) ?_
 rw [if_neg h2]
 by_cases h3:kind=3
 ·refine Yt (by simpa using h3) ?_
  rw [if_pos h3];(refine Ja ?_;intros)
  refine Ys fun o=>?_
  rw [e];exact ⟨by first|rfl|trivial,by first|rfl|trivial⟩
 refine Yf (by simpa using h3) ?_
 rw [if_neg h3];exact Jz
theorem Gc5 (c k:Nat) (env:Int) (caps:List Int) (bad:List RecS) (rc:RecS) (hs:caps.length≤40) (hn:0<caps.length):Ct A6 Y7 [P0 c,.agg ⟨U1 rc⟩] [Q7 c k env caps bad] fun v own =>
  v=.tuple ⟨[.agg ⟨H20 caps (E7 caps.length rc)⟩,.bool (E7 caps.length rc).isSome]⟩∧own [Q7 c k env caps bad]:=by
 have hg:∀ j,j<caps.length→(caps.map int)[j]?=some (int (caps.getD j 0)):=fun j hj=>by rw [List.getElem?_map,U2 0 hj];rfl
 refine Ct.of Ei2 rfl fun h r=>Tr.eq (Ei5 ..) ?_;refine Je ?_
 (refine Jb ?_;intros)
 refine Tr.orG (c:=decide (rc.index≥J8 caps.length rc.kind)) (fun hb=>?_) ?_
 ·(refine Ja ?_;intros)
  refine Tr.pcall (G09 c k env caps bad rc.kind hs) ?_;refine Je ?_;exact Jz
 by_cases hi:rc.index<0∨rc.index≥J8 caps.length rc.kind
 ·refine Yt (by simp only [Bool.or_eq_true,decide_eq_true_eq];exact hi) ?_
  have e:E7 caps.length rc=none:=by unfold E7;rw [if_pos hi]
  rw [e]
  (refine Ja ?_;intros)
  refine Ys fun o=>?_
  exact ⟨rfl,o.sub⟩
 refine Yf (by simp only [Bool.or_eq_false_iff,decide_eq_false_iff_not];omega) ?_
 refine B6 (Q7 c k env caps bad) fun ⟨a,n,mb⟩=>?_;refine Je ?_
 (refine Ja ?_;intros;repeat(refine Gw ?_;rintro px rfl;refine Ja ?_;intros))
 refine Tr.xIntS (v:=caps.getD 0 0) (hg 0 hn) ?_
 (refine Ja ?_;intros)
 by_cases h1:rc.kind=1
 ·refine Yt (by simpa using h1) ?_
  have e:E7 caps.length rc=some (0,24*rc.index.toNat,24):=by unfold E7;rw [if_neg hi,if_pos h1]
  have hm:J8 caps.length rc.kind=8:=by unfold J8;rw [if_pos h1]
  have e1:IntKind.wrap .i64 (24*rc.index)=((24*rc.index.toNat:Nat):Int):=by rw [B4];omega
  rw [e,e1]
  (refine Ja ?_;intros)
  refine B5 (Q7 c k env caps bad) ⟨some px,n,mb⟩ ?_;refine Je ?_
  refine Ys fun o=>?_
  exact ⟨rfl,o.sub⟩
 refine Yf (by simpa using h1) ?_
 by_cases h2:rc.kind=2
 ·(refine Ja ?_;intros)
  refine Yt (by simpa using h2) ?_
  have e:E7 caps.length rc=some (0,192+8*rc.index.toNat,8):=by unfold E7;rw [if_neg hi,if_neg h1,if_pos h2]
  have hm:J8 caps.length rc.kind=12:=by unfold J8;rw [if_neg h1,if_pos h2]
  have e1:IntKind.wrap .i64 (192+IntKind.wrap .i64 (8*rc.index))=((192+8*rc.index.toNat:Nat):Int):=by rw [B4,B4];omega
  rw [e,e1]
  (refine Ja ?_;intros)
  refine B5 (Q7 c k env caps bad) ⟨some px,n,mb⟩ ?_;refine Je ?_
  refine Ys fun o=>?_
  exact ⟨rfl,o.sub⟩
 (refine Ja ?_;intros)
 refine Yf (by simpa using h2) ?_
 (refine Jb ?_;intros)
 refine Tr.andG (c:=decide (rc.index<4)) (fun hb=>?_) ?_
 ·exact Jz
 by_cases h3:rc.kind=3
 ·have hm:J8 caps.length rc.kind=3+caps.length:=by unfold J8;rw [if_neg h1,if_neg h2,if_pos h3]
  by_cases h4:rc.index<4
  ·refine Yt (by simp [h3,h4]) ?_
   have e:E7 caps.length rc=some (0,288+40*rc.index.toNat,40):=by unfold E7;rw [if_neg hi,if_neg h1,if_neg h2,if_pos h3,if_pos h4]
   have e1:IntKind.wrap .i64 (288+IntKind.wrap .i64 (40*rc.index))=((288+40*rc.index.toNat:Nat):Int):=by rw [B4,B4];omega
   rw [e,e1]
   (refine Ja ?_;intros)
   refine B5 (Q7 c k env caps bad) ⟨some px,n,mb⟩ ?_;refine Je ?_
   refine Ys fun o=>?_
   exact ⟨rfl,o.sub⟩
  ·refine Yf (by simp [h4]) ?_
   have e:E7 caps.length rc=some (rc.index.toNat-3,0,40):=by unfold E7;rw [if_neg hi,if_neg h1,if_neg h2,if_pos h3,if_neg h4]
   have e1:IntKind.wrap .i64 (IntKind.wrap .i64 (rc.index-4)+1)=((rc.index.toNat-3:Nat):Int):=by rw [B4,B4];omega
   rw [e,e1]
   (refine Ja ?_;intros)
   refine Yt (by simpa using h3) ?_
   (refine Ja ?_;intros)
   rw [Int.toNat_natCast]
   refine Je ?_
   refine Tr.xIntS (v:=caps.getD (rc.index.toNat-3) 0) (hg _ (by omega)) ?_
   (refine Ja ?_;intros)
   refine B5 (Q7 c k env caps bad) ⟨some px,n,mb⟩ ?_;refine Je ?_
   refine Ys fun o=>?_
   exact ⟨rfl,o.sub⟩
 refine Yf (by simp [h3]) ?_
 (refine Ja ?_;intros)
 refine Yf (by simpa using h3) ?_
 (refine Ja ?_;intros)
 by_cases h4:rc.kind=4
 ·refine Yt (by simpa using h4) ?_
  have e:E7 caps.length rc=some (0,448,40):=by unfold E7;rw [if_neg hi,if_neg h1,if_neg h2,if_neg h3,if_pos h4]
  rw [e]
  (refine Ja ?_;intros)
  refine B5 (Q7 c k env caps bad) ⟨some px,n,mb⟩ ?_;refine Je ?_
  refine Ys fun o=>?_
  exact ⟨rfl,o.sub⟩
 refine Yf (by simpa using h4) ?_
 have e:E7 caps.length rc=some (0,488,4):=by unfold E7;rw [if_neg hi,if_neg h1,if_neg h2,if_neg h3,if_neg h4]
 rw [e]
 (refine Ja ?_;intros)
 refine B5 (Q7 c k env caps bad) ⟨some px,n,mb⟩ ?_;refine Je ?_
 refine Ys fun o=>?_
 exact ⟨rfl,o.sub⟩
theorem I61:At5 PR 8 B8=some [TypeDesc.int .i64,TypeDesc.int .i64]:=by kernel_rfl
theorem Ji8:E57 PR B8=some true:=by kernel_rfl
instance {a b:Int}:KeyC PR B8 (.agg ⟨[.int .i64 a,.int .i64 b]⟩):=⟨fun x=>by
 unfold NN.keyN;rw [I61,Ji8];rfl⟩
theorem Ge9 (r:RecS):∀ (l:List RecS) (i j:Nat),Aq6 (.agg ⟨U1 r⟩) (Ap8 j l) i=some (if r ∈ l then some (i+l.idxOf r) else none)
 | [],i,j=>by simp [Ap8,Aq6]
 | q::l,i,j=>by
  have ih:=Ge9 r l (i+1) (j+1)
  obtain ⟨qk,qi⟩:=q
  obtain ⟨rk,ri⟩:=r
  simp only [Ap8,Aq6,Bu1,U1,eqs,eq1,decide_true,List.mem_cons] at ih ⊢
  by_cases h:rk=qk∧ri=qi
  ·obtain ⟨rfl,rfl⟩:=h
   simp
  ·have e:(rk==qk && (ri==qi && true))=false:=by
    rw [Bool.and_eq_false_iff]
    by_cases h1:rk=qk
    ·right;simp;intro h2;exact h ⟨h1,h2⟩
    ·left;simpa using h1
   have hne:¬ (({ kind:=rk,index:=ri }:RecS)={ kind:=qk,index:=qi }):=fun e=>by
    rw [RecS.mk.injEq] at e;exact h e
   rw [e]
   simp only [hne,false_or]
   rw [ih,List.idxOf_cons]
   have:(({ kind:=qk,index:=qi }:RecS)=={ kind:=rk,index:=ri })=false:=by
    rw [beq_eq_false_iff_ne];exact fun e=>hne e.symm
   rw [this,cond_false]
   split<;>simp;omega
theorem Ed7:∀ (l:List RecS) (j:Nat),(Ap8 j l).length=l.length
 | [],_=>rfl
 | _::l,j=>by simp [Ap8,Ed7 l]
theorem Ia1:∀ (l:List RecS) (j i:Nat) (r:RecS),l[i]?=some r→(Ap8 j l)[i]?=some { key:=.agg ⟨U1 r⟩,val:=int 1,born:=j+i }
 | [],_,i,r,h=>by simp at h
 | q::l,j,0,r,h=>by simp at h;subst h;rfl
 | q::l,j,i+1,r,h=>by
  have:=Ia1 l (j+1) i r (by simpa using h)
  rw [Ap8,List.getElem?_cons_succ,this];congr 2;omega
theorem Bx8 (r:RecS) (l:List RecS):Au2 (int 0) (.agg ⟨U1 r⟩) (Ap8 0 l)=some (if r ∈ l then (int 1,true) else (int 0,false)):=by
 unfold Au2
 rw [Ge9]
 by_cases h:r ∈ l
 ·rw [if_pos h,if_pos h]
  have hi:=List.idxOf_lt_length_of_mem h
  have hg:l[l.idxOf r]?=some r:=by rw [List.getElem?_eq_getElem hi,List.getElem_idxOf]
  simp only [Nat.zero_add]
  rw [Ia1 l 0 _ r hg]
 ·rw [if_neg h,if_neg h]
theorem H82:∀ (l m:List RecS) (j:Nat),Ap8 j (l++m)=Ap8 j l++Ap8 (j+l.length) m
 | [],m,j=>by simp [Ap8]
 | q::l,m,j=>by simp only [List.cons_append,Ap8,H82 l m (j+1),List.length_cons];congr 2;congr 1;omega
theorem Ey2 {r:RecS} {l:List RecS} (h:¬ r ∈ l):Ep6 (int 0) (.agg ⟨U1 r⟩) (Ap8 0 l) l.length=some (int 0,l.length,.map (Ap8 0 l++[{ key:=.agg ⟨U1 r⟩,val:=int 0,born:=l.length }]) (l.length+1)):=by
 unfold Ep6;rw [Ge9,if_neg h]
theorem Hr3 (r:RecS) (e:MapEntry):∀ (l:List RecS) (i j:Nat),¬ r ∈ l→Aq6 (.agg ⟨U1 r⟩) (Ap8 j l++[e]) i=Aq6 (.agg ⟨U1 r⟩) [e] (i+l.length)
 | [],i,j,h=>by simp [Ap8]
 | q::l,i,j,h=>by
  have ih:=Hr3 r e l (i+1) (j+1) (fun hm=>h (List.mem_cons_of_mem _ hm))
  have hq:Bu1 (.agg ⟨U1 r⟩) (.agg ⟨U1 q⟩)=some false:=by
   obtain ⟨qk,qi⟩:=q
   obtain ⟨rk,ri⟩:=r
   simp only [Bu1,U1,eqs,eq1,decide_true]
   congr 1
   rw [Bool.and_eq_false_iff]
   by_cases h1:rk=qk
   ·right;simp;intro h2;exact h (by subst h1 h2;exact List.mem_cons_self ..)
   ·left;simpa using h1
  show (match Bu1 (.agg ⟨U1 r⟩) (.agg ⟨U1 q⟩) with
   | some true=>some (some i)
   | some false=>Aq6 (.agg ⟨U1 r⟩) (Ap8 (j+1) l++[e]) (i+1)
   | none=>none)=_
  rw [hq]
  simp only
  rw [ih];congr 1;simp;omega
theorem El6 {r:RecS} {l:List RecS} (h:¬ r ∈ l):Au2 (int 0) (.agg ⟨U1 r⟩) (Ap8 0 l++[{ key:=.agg ⟨U1 r⟩,val:=int 0,born:=l.length }])=some (int 0,true):=by
 unfold Au2
 rw [Hr3 r _ l 0 0 h]
 obtain ⟨rk,ri⟩:=r
 simp only [Aq6,Bu1,U1,eqs,eq1,decide_true,BEq.rfl,Bool.and_self,Nat.zero_add]
 rw [List.getElem?_append_right (by rw [Ed7];exact Nat.le_refl _),Ed7];simp
theorem Dz8:∀ (l:List RecS) (j:Nat) (n:Nat) (e:MapEntry) (i:Nat),e.born=n→j+l.length≤n→B28 (n:Int) (Ap8 j l++[e]) i=some (i+l.length)
 | [],j,n,e,i,h,hl=>by simp [Ap8,B28,h]
 | q::l,j,n,e,i,h,hl=>by
  have ih:=Dz8 l (j+1) n e (i+1) h (by simp at hl;omega)
  simp only [Ap8,List.cons_append,B28]
  have:(((j:Nat):Int)==(n:Int))=false:=by simp at hl ⊢;omega
  rw [this,cond_false,ih];congr 1;simp;omega
theorem Hp6 (f:MapEntry→MapEntry) (e:MapEntry):∀ (l:List MapEntry),modN f l.length (l++[e])=l++[f e]
 | []=>rfl
 | q::l=>by simp [modN,Hp6 f e l]
theorem E55 (r:RecS) (l:List RecS):modN (fun e=>{ e with val:=int (IntKind.wrap .i64 (0+1)) }) l.length (Ap8 0 l++[{ key:=.agg ⟨U1 r⟩,val:=int 0,born:=l.length }])=Ap8 0 (l++[r]):=by
 rw [show l.length=(Ap8 0 l).length from (Ed7 l 0).symm,Hp6,H82]
 simp [Ap8,Ed7];decide
theorem Fr.mem_at (F:Fr) (m:List (List UInt8)):(F.at m).mem=A53 F.S.mem F.rg m:=rfl
theorem Fr.at_ok {F:Fr} (k:FrOk F) {m:List (List UInt8)} (f:Fit F.S.mem.length F.rg m):KOk F.N (F.at m):=by
 have:=k.ok
 exact ⟨this.envs,this.tabs,this.space,this.quota,by rw [Fr.mem_at,Du8 f];exact this.mem,this.regs,this.may,this.mayl,this.nsect,this.sects,this.now⟩
theorem I93 {F:Fr} (k:FrOk F) {r:RecS} {j a n:Nat} (h:E7 F.caps.length r=some (j,a,n)):∃ lo z,F.rg[j]?=some (lo,z)∧a+n≤z∧j<F.caps.length:=by
 obtain ⟨lo0,h0⟩:=k.own
 have hl:=k.len;have hn:=k.ne
 unfold E7 at h
 split at h;· cases h
 rename_i hi
 split at h
 ·rename_i h1
  have hm:J8 F.caps.length r.kind=8:=by unfold J8;rw [if_pos h1]
  cases h;exact ⟨lo0,492,h0,by omega,hn⟩
 rename_i h1
 split at h
 ·rename_i h2
  have hm:J8 F.caps.length r.kind=12:=by unfold J8;rw [if_neg h1,if_pos h2]
  cases h;exact ⟨lo0,492,h0,by omega,hn⟩
 rename_i h2
 split at h
 ·rename_i h3
  have hm:J8 F.caps.length r.kind=3+F.caps.length:=by unfold J8;rw [if_neg h1,if_neg h2,if_pos h3]
  split at h
  ·cases h;exact ⟨lo0,492,h0,by omega,hn⟩
  ·cases h
   have hlt:r.index.toNat-3<F.rg.length:=by omega
   have hg:=List.getElem?_eq_getElem hlt
   generalize hx:F.rg[r.index.toNat-3]=x at hg
   obtain ⟨lo,z⟩:=x
   have:=k.brs _ lo z (by omega) hg
   exact ⟨lo,z,hg,by omega,by omega⟩
 split at h<;>(cases h;exact ⟨lo0,492,h0,by omega,hn⟩)
def Z3 (kind:Int):Nat:=if kind=1 then 24 else if kind=2 then 8 else if kind=3 then 40 else if kind=4 then 40 else 4
theorem D68 {nc:Nat} {r:RecS} {j a n:Nat} (h:E7 nc r=some (j,a,n)):n=Z3 r.kind:=by
 unfold E7 at h;unfold Z3
 split at h;· cases h
 split at h
 ·rename_i h1;cases h;rw [if_pos h1]
 rename_i h1
 rw [if_neg h1]
 split at h
 ·rename_i h2;cases h;rw [if_pos h2]
 rename_i h2
 rw [if_neg h2]
 split at h
 ·rename_i h3;rw [if_pos h3];split at h<;>(cases h;rfl)
 rename_i h3
 rw [if_neg h3]
 split at h
 ·rename_i h4;cases h;rw [if_pos h4]
 ·rename_i h4;cases h;rw [if_neg h4]
def rdX (X:CX) (r:RecS):Option (List UInt8) :=
 match E7 X.m.length r with
 | some (j,a,n)=>if r ∈ X.bad then none else some (slice (X.m.getD j []) a n)
 | none=>none
def wrX (X:CX) (r:RecS) (b:List UInt8) (ok:Bool):Bool × CX :=
 match E7 X.m.length r with
 | some (j,a,n)=>if ok=true∧¬ r ∈ X.bad then (true,{ X with m:=X.m.set j (O9 (X.m.getD j []) a b) }) else (false,X)
 | none=>(false,X)
theorem Fit.mlen {F:Fr} (k:FrOk F) {m:List (List UInt8)} (f:Fit F.S.mem.length F.rg m):m.length=F.caps.length:=by rw [f.len,k.len]
theorem E01 {F:Fr} (k:FrOk F) {m:List (List UInt8)} (f:Fit F.S.mem.length F.rg m) {r:RecS} {j a n:Nat} (h:E7 F.caps.length r=some (j,a,n)) :
  ∃ lo z cap,F.caps[j]?=some cap∧F.rg[j]?=some (lo,z)∧a+n≤z∧m[j]?=some (m.getD j [])∧(m.getD j []).length=z∧lo+z≤F.S.mem.length∧cap=F.caps.getD j 0:=by
 obtain ⟨lo,z,hr,ha,hj⟩:=I93 k h
 obtain ⟨h1,x,hx,hl⟩:=f.each j lo z hr
 have e:m.getD j []=x:=by rw [List.getD_eq_getElem?_getD,hx];rfl
 exact ⟨lo,z,F.caps.getD j 0,U2 0 hj,hr,ha,by rw [e];exact hx,by rw [e];exact hl,h1,rfl⟩
theorem Jl1 {F:Fr} (k:FrOk F) {X:CX} (f:Fit F.S.mem.length F.rg X.m) {r:RecS} {l:List UInt8} (h:rdX X r=some l):l.length=Z3 r.kind:=by
 unfold rdX at h
 rw [f.mlen k] at h
 cases hp:E7 F.caps.length r with
 | none=>rw [hp] at h;cases h
 | some p =>
  obtain ⟨j,a,n⟩:=p
  rw [hp] at h
  obtain ⟨lo,z,cap,_,_,ha,hx,hl,_⟩:=E01 k f hp
  simp only at h
  split at h
  ·cases h
  ·cases h;rw [Gi0 (by omega),D68 hp]
theorem Jv5 {F:Fr} (k:FrOk F) {m:List (List UInt8)} (f:Fit F.S.mem.length F.rg m) {r:RecS} {j a n:Nat} (h:E7 F.caps.length r=some (j,a,n)) :
  Ag1 (F.at m) F.env ⟨1,F.caps.getD j 0,(a:Int),(n:Int),0,0,[]⟩=((0,0,slice (m.getD j []) a n),F.at m):=by
 obtain ⟨lo,z,cap,hc,hr,ha,hx,hl,hz,rfl⟩:=E01 k f h
 have hp:=k.pl j _ lo z hc hr a n 1 (.inl rfl) ha
 have lp:=Du8 f
 have hb:Dv8 (A53 F.S.mem F.rg m) ((lo+a:Nat):Int) (n:Int)=some (slice (m.getD j []) a n):=by
  unfold Dv8
  rw [if_pos (by rw [lp];omega),Int.toNat_natCast,Int.toNat_natCast]
  rw [← He1 f k.dj hr hx ha];rfl
 have e:Az2 (F.at m).tabs (F.at m).regs (F.at m).mem F.env (F.caps.getD j 0) (a:Int) (n:Int)=(slice (m.getD j []) a n,0):=by
  unfold Az2
  rw [show W1 (F.at m).tabs (F.at m).regs F.env (F.caps.getD j 0) 1 (a:Int) (n:Int)=(((lo+a:Nat):Int),0) from hp]
  rw [if_neg (by simp),show Dv8 (F.at m).mem _ _=_ from hb]
 unfold Ag1
 rw [if_neg (show ¬ (F.env<0∨F.env≥((F.at m).envs.length:Int)) from k.env)]
 unfold kDo
 rw [if_pos rfl,e]
theorem Js7 {F:Fr} (k:FrOk F) {m:List (List UInt8)} (f:Fit F.S.mem.length F.rg m) {r:RecS} {j a n:Nat} (h:E7 F.caps.length r=some (j,a,n)) {b:List UInt8} (hb:b.length=n) :
  Ag1 (F.at m) F.env ⟨2,F.caps.getD j 0,(a:Int),0,0,0,b⟩=((0,0,[]),F.at (m.set j (O9 (m.getD j []) a b))):=by
 obtain ⟨lo,z,cap,hc,hr,ha,hx,hl,hz,rfl⟩:=E01 k f h
 have hp:=k.pl j _ lo z hc hr a n 2 (.inr rfl) ha
 have lp:=Du8 f
 have hs:Br4 (A53 F.S.mem F.rg m) ((lo+a:Nat):Int) b=some (A53 F.S.mem F.rg (m.set j (O9 (m.getD j []) a b))):=by
  unfold Br4
  rw [if_pos (by rw [lp];omega),Int.toNat_natCast]
  rw [← Ih5 f k.dj hr hx (by omega)];rfl
 have e:Au9 (F.at m).tabs (F.at m).regs (F.at m).mem F.env (F.caps.getD j 0) (a:Int) b=(0,A53 F.S.mem F.rg (m.set j (O9 (m.getD j []) a b))):=by
  unfold Au9
  rw [hb,show W1 (F.at m).tabs (F.at m).regs F.env (F.caps.getD j 0) 2 (a:Int) (n:Int)=(((lo+a:Nat):Int),0) from hp]
  rw [if_neg (by simp),show Br4 (F.at m).mem _ _=_ from hs]
 unfold Ag1
 rw [if_neg (show ¬ (F.env<0∨F.env≥((F.at m).envs.length:Int)) from k.env)]
 unfold kDo
 rw [if_neg (show ¬ ((2:Int)=1) by decide),if_pos rfl,e];rfl
theorem Jl7 {F:Fr} (k:FrOk F) {X:CX} (f:Fit F.S.mem.length F.rg X.m) {r:RecS} {b:List UInt8} {ok:Bool} (hb:ok=true→b.length=Z3 r.kind):Fit F.S.mem.length F.rg (wrX X r b ok).2.m:=by
 unfold wrX
 rw [f.mlen k]
 cases hp:E7 F.caps.length r with
 | none=>exact f
 | some p =>
  obtain ⟨j,a,n⟩:=p
  obtain ⟨lo,z,cap,hc,hr,ha,hx,hl,hz,_⟩:=E01 k f hp
  simp only
  split
  ·rename_i hk
   exact f.set hr (by rw [Ao9 (by rw [hb hk.1,← D68 hp];omega)];exact hl)
  ·exact f
instance {caps:List Int} {o:Option (Nat × Nat × Nat)}:LenC (H20 caps o) 3:=⟨by cases o<;>rfl⟩
theorem I85 (caps:List Int) (o:Option (Nat × Nat × Nat)):(H20 caps o).all Value.oneCell=true:=by cases o<;>rfl
instance {caps:List Int} {o:Option (Nat × Nat × Nat)} {cs:List Value} [k:LenC cs 3]:SetsC cs 0 (H20 caps o) (H20 caps o):=⟨Df8 k.ok LenC.ok (I85 caps o)⟩
instance {rc:RecS}:PartC (U1 rc) 0 2 (U1 rc):=⟨rfl⟩
theorem Ij3 (r:RecS) (l:List RecS):(if r ∈ l then (int 1,true) else (int 0,false))=(int (if r ∈ l then 1 else 0),decide (r ∈ l)):=by split<;>simp [*]
theorem Ik1 (r:RecS) (l:List RecS):decide ((if r ∈ l then (1:Int) else 0)>0)=decide (r ∈ l):=by split<;>simp [*]
theorem Eu9 (k:Nat) (S:KS) (N:Nat) (ok:KOk N S) (hN:N+1<1000000000) (env:Int) (c:CallS) (ba:Option Addr) (bc:Nat) (ro:Bool) (h5:c.op≠5) :
  Ct A6 Aa5 [P0 k,int env,.agg ⟨B32 c ba bc⟩] [E8 k S,slC ro A3 1 ba c.b.length bc (A0 c.b)] fun v own=>∃ x d,v=.agg ⟨[int (Ag1 S env c).1.1,int (Ag1 S env c).1.2.1,.slice x (Ag1 S env c).1.2.2.length d]⟩ ∧
    own [slC false A3 1 x (Ag1 S env c).1.2.2.length d (A0 (Ag1 S env c).1.2.2),E8 k (Ag1 S env c).2,slC ro A3 1 ba c.b.length bc (A0 c.b)]:=by
 intro h r o
 obtain ⟨pq,o1⟩:=Own.ex (f:=fun pq=>slX ro A3 1 ba c.b.length bc pq (A0 c.b)) (o.perm (.swap _ _ _))
 obtain ⟨v,h',e,x,d,rfl,o2⟩:=I66 k S N ok hN env c ba bc ro pq h5 h r (o1.perm (.swap _ _ _))
 refine ⟨_,h',e,x,d,rfl,?_⟩
 have o3:=o2.picks [2] rfl
 exact (Own.inex (f:=fun pq=>slX ro A3 1 ba c.b.length bc pq (A0 c.b)) pq o3).picks [1,1,0] rfl
theorem E12 (c k:Nat) (F:Fr) (X:CX) (rc:RecS) (ok:FrOk F):Ct A6 U6 [P0 c,.agg ⟨U1 rc⟩] [cmC c k F X] fun v own =>
  (∃ l a cp,rdX X rc=some l∧l.length=Z3 rc.kind∧v=.tuple ⟨[.slice a l.length cp,.bool true]⟩∧own [slC false A3 1 a l.length cp (A0 l),cmC c k F X]) ∨
  (rdX X rc=none∧v=.tuple ⟨[.slice none 0 0,.bool false]⟩∧own [cmC c k F X]):=by
 refine Ct.of Ep8 rfl fun h r=>Tr.eq (Eq1 ..) ?_;refine Je ?_
 refine B6 (cmC c k F X) fun u=>?_;refine Je ?_
 refine P8 2 rfl fun f=>?_
 (refine Ja ?_;intros)
 refine Yc (Gc5 c k F.env F.caps X.bad rc ok.small ok.ne) ?_;rintro _ h ⟨rfl,o⟩<;>(refine Jg o ?_;intros)
 have em:=f.mlen ok
 cases hp:E7 F.caps.length rc with
 | none =>
  (refine Jb ?_;intros)
  refine Yb (Yt rfl ?_)
  refine Ys fun o=>(?_:Tr _ _ _ _) o;refine Je ?_
  (refine Ja ?_;intros)
  refine B5 (cmC c k F X) () ?_;refine Je ?_
  refine Ys fun o=>?_
  exact .inr ⟨by unfold rdX;rw [em,hp],rfl,o.sub⟩
 | some p =>
  obtain ⟨j,a,n⟩:=p
  refine B6 (Q7 c k F.env F.caps X.bad) fun ⟨ca,cn,mb⟩=>?_;refine Je ?_
  (refine Jb ?_;intros)
  refine Tr.orG (c:=decide (rc ∈ X.bad)) (fun _=>?_) ?_
  ·(refine Ja ?_;intros)
   rw [Bx8,Ij3]
   (refine Ja ?_;intros)
   refine Ys fun o=>?_
   rw [Ik1];exact ⟨by first|rfl|trivial,by first|rfl|trivial⟩
  by_cases hb:rc ∈ X.bad
  ·rw [decide_eq_true hb]
   (refine Ja ?_;intros)
   refine B5 (Q7 c k F.env F.caps X.bad) ⟨ca,cn,mb⟩ ?_;refine Je ?_
   refine B5 (cmC c k F X) () ?_;refine Je ?_
   refine Ys fun o=>?_
   exact .inr ⟨by unfold rdX;rw [em,hp];exact if_pos hb,rfl,o.sub⟩
  ·rw [decide_eq_false hb]
   refine Yf rfl ?_
   (refine Ja ?_;intros)
   refine B5 (Q7 c k F.env F.caps X.bad) ⟨ca,cn,mb⟩ ?_;refine Je ?_
   have J:=Jn4 k (F.at X.m) F.N (F.at_ok ok f) ok.hN F.env 1 (F.caps.getD j 0) (a:Int) (n:Int) 0 0 (by decide)
   rw [Jv5 ok f hp] at J
   refine Yc (J) ?_;rintro _ h ⟨y,d,rfl,o⟩<;>(refine Jf o ?_;intros)
   refine Yf rfl ?_
   (refine Ja ?_;intros)
   refine B5 (cmC c k F X) () ?_;refine Je ?_
   refine Ys fun o=>?_
   have e:rdX X rc=some (slice (X.m.getD j []) a n):=by unfold rdX;rw [em,hp];exact if_neg hb
   exact .inl ⟨_,y,d,e,Jl1 ok f e,rfl,o.sub⟩
theorem De8 (c k:Nat) (F:Fr) (X:CX) (rc:RecS) (ok:FrOk F) (bs:List UInt8) (g:Bool) (ba:Option Addr) (bc:Nat) (hb:g=true→bs.length=Z3 rc.kind) :
  Ct A6 N5 [P0 c,.agg ⟨U1 rc⟩,.slice ba bs.length bc,.bool g] [cmC c k F X,slC false A3 1 ba bs.length bc (A0 bs)] fun v own =>
   v=.bool (wrX X rc bs g).1∧own [cmC c k F (wrX X rc bs g).2,slC false A3 1 ba bs.length bc (A0 bs)]:=by
 refine Ct.of Ei4 rfl fun h r=>Tr.eq (Ei9 ..) ?_;refine Je ?_
 refine B6 (cmC c k F X) fun u=>?_;refine Je ?_
 refine P8 2 rfl fun f=>?_
 (refine Ja ?_;intros)
 refine Yc (Gc5 c k F.env F.caps X.bad rc ok.small ok.ne) ?_;rintro _ h ⟨rfl,o⟩<;>(refine Jg o ?_;intros)
 have em:=f.mlen ok
 cases hp:E7 F.caps.length rc with
 | none =>
  (refine Jb ?_;intros)
  refine Yb (Yt rfl ?_)
  refine Ys fun o=>(?_:Tr _ _ _ _) o;refine Je ?_
  refine Yb (Yt rfl ?_)
  refine Ys fun o=>(?_:Tr _ _ _ _) o;refine Je ?_
  (refine Ja ?_;intros)
  refine B5 (cmC c k F X) () ?_;refine Je ?_
  refine Ys fun o=>?_
  have e:wrX X rc bs g=(false,X):=by unfold wrX;rw [em,hp]
  rw [e]
  exact ⟨by first|rfl|trivial,o.sub⟩
 | some p =>
  obtain ⟨j,a,n⟩:=p
  refine B6 (Q7 c k F.env F.caps X.bad) fun ⟨ca,cn,mb⟩=>?_;refine Je ?_
  (refine Jb ?_;intros)
  refine Yb (Yf rfl ?_)
  refine Ys fun o=>(?_:Tr _ _ _ _) o;refine Je ?_
  (refine Jb ?_;intros)
  refine Tr.orG (c:=decide (rc ∈ X.bad)) (fun _=>?_) ?_
  ·(refine Ja ?_;intros)
   rw [Bx8,Ij3]
   (refine Ja ?_;intros)
   refine Ys fun o=>?_
   rw [Ik1];exact ⟨by first|rfl|trivial,by first|rfl|trivial⟩
  by_cases hg:g=true∧¬ rc ∈ X.bad
  ·have e:wrX X rc bs g=(true,{ X with m:=X.m.set j (O9 (X.m.getD j []) a bs) }):=by unfold wrX;rw [em,hp];exact if_pos hg
   have f2:=Jl7 (r:=rc) (b:=bs) (ok:=g) ok f hb
   rw [e] at f2
   obtain ⟨rfl,hg2⟩:=hg
   rw [e,decide_eq_false hg2]
   refine Yf rfl ?_
   (refine Ja ?_;intros)
   refine B5 (Q7 c k F.env F.caps X.bad) ⟨ca,cn,mb⟩ ?_;refine Je ?_
   have hl:bs.length=n:=by rw [hb rfl,D68 hp]
   have J:=Eu9 k (F.at X.m) F.N (F.at_ok ok f) ok.hN F.env ⟨2,F.caps.getD j 0,(a:Int),0,0,0,bs⟩ ba bc false (show ((2:Int)≠5) by decide)
   rw [Js7 ok f hp hl] at J
   refine Yc (J) ?_;rintro _ h ⟨y,d,rfl,o⟩<;>(refine Jf o ?_;intros)
   refine Az3 (show Fit F.S.mem.length F.rg (X.m.set j (O9 (X.m.getD j []) a bs)) from f2) ?_
   refine B5 (cmC c k F { X with m:=X.m.set j (O9 (X.m.getD j []) a bs) }) () ?_;refine Je ?_
   refine Ys fun o=>?_
   exact ⟨rfl,o.sub⟩
  ·have e:wrX X rc bs g=(false,X):=by unfold wrX;rw [em,hp];exact if_neg hg
   rw [e]
   refine Yt ?_ ?_
   ·cases g with
    | false=>rfl
    | true=>simpa using hg
   refine B5 (Q7 c k F.env F.caps X.bad) ⟨ca,cn,mb⟩ ?_;refine Je ?_
   refine B5 (cmC c k F X) () ?_;refine Je ?_
   refine Ys fun o=>?_
   exact ⟨by first|rfl|trivial,o.sub⟩
def Z8 {α:Type} (dec:List UInt8→α × Int) (z:α) (X:CX) (rc:RecS):(α × Int) × CX :=
 match rdX X rc with
 | some l=>(dec l,if (dec l).2=2 then { X with bad:=X.bad++[rc] } else X)
 | none=>((z,2),X)
theorem E14 {X:CX} {rc:RecS} {l:List UInt8} (h:rdX X rc=some l):¬ rc ∈ X.bad:=by
 unfold rdX at h
 split at h
 ·split at h
  ·cases h
  ·assumption
 ·cases h
theorem I24 (l:List UInt8) (h:(O2 l).2≠1):(O2 l).1=.zero:=by
 unfold O2 at *;split<;>first|rfl|(split<;>first|rfl|(simp_all;done))
theorem Iz6 (l:List UInt8) (h:(P3 l).2≠1):(P3 l).1=.zero:=by
 unfold P3 at *;split<;>first|rfl|(split<;>first|rfl|(simp_all;done))
theorem I09 (l:List UInt8) (h:(N4 l).2≠1):(N4 l).1=.zero:=by
 unfold N4 at *;split<;>first|rfl|(split<;>first|rfl|(simp_all;done))
theorem Jl8 (c k:Nat) (F:Fr) (X:CX) (rc:RecS) (ok:FrOk F) (hk:Z3 rc.kind=24):Ct A6 O5 [P0 c,.agg ⟨U1 rc⟩,.func (.func Af4) ⟨[]⟩ ⟨[]⟩] [cmC c k F X] fun v own =>
  v=.tuple ⟨[.agg ⟨B7 (Z8 O2 .zero X rc).1.1⟩,int (Z8 O2 .zero X rc).1.2]⟩∧own [cmC c k F (Z8 O2 .zero X rc).2]:=by
 refine Ct.of A15 rfl fun h r=>Tr.eq (D82 ..) ?_;refine Je ?_
 (refine Ja ?_;intros)
 refine Yc (E12 c k F X rc ok) ?_
 rintro v h (⟨l,a,cp,hr,hl,rfl,o⟩|⟨hr,rfl,o⟩)
 ·refine (?_:Tr _ _ _ _) o
  refine Je ?_
  have e:Z8 O2 .zero X rc=(O2 l,if (O2 l).2=2 then { X with bad:=X.bad++[rc] } else X):=by unfold Z8;rw [hr]
  have hb:=E14 hr
  rw [e]
  rw [hk] at hl
  rw [hl]
  (refine Ja ?_;intros)
  refine Yc (Iv5 a cp l hl) ?_;rintro _ h ⟨rfl,o⟩<;>(refine Jf o ?_;intros)
  by_cases h2:(O2 l).2=2
  ·refine Yt (by simpa using h2) ?_
   have hz:=I24 l (by omega)
   simp only [if_pos h2]
   refine B6 (cmC c k F X) fun u=>?_;refine Je ?_
   refine B6 (Q7 c k F.env F.caps X.bad) fun ⟨ca,cn,mb⟩=>?_;refine Je ?_
   (refine Ja ?_;intros)
   rw [Bx8,if_neg hb]
   (refine Ja ?_;intros)
   rw [Ey2 hb]
   (refine Ja ?_;intros)
   rw [El6 hb]
   (refine Ja ?_;intros)
   rw [Dz8 X.bad 0 X.bad.length _ 0 rfl (by omega),Nat.zero_add]
   (refine Ja ?_;intros)
   rw [E55]
   refine Tr.jmp A15 (Tr.eq (Bh2 ..) ?_);(try simp only[Nr,Nl,wl,Nat.reduceAdd,Nat.reduceMul,Int.reduceToNat])
   refine Yt (by rw [bne_iff_ne];omega) ?_
   (refine Ja ?_;intros)
   rw [show X.bad.length+1=(X.bad++[rc]).length by simp]
   refine B5 (Q7 c k F.env F.caps (X.bad++[rc])) ⟨ca,cn,mb⟩ ?_;refine Je ?_
   refine B5 (cmC c k F { X with bad:=X.bad++[rc] }) () ?_;refine Je ?_
   refine Ys fun o=>?_
   exact ⟨by rw [hz]<;>rfl,o.sub⟩
  ·refine Yf (by simpa using h2) ?_
   simp only [if_neg h2]
   refine Tr.jmp A15 (Tr.eq (Bh2 ..) ?_);(try simp only[Nr,Nl,wl,Nat.reduceAdd,Nat.reduceMul,Int.reduceToNat])
   by_cases h1:(O2 l).2=1
   ·refine Yf (by simpa using h1) ?_
    (refine Ja ?_;intros)
    refine Ys fun o=>?_
    exact ⟨rfl,o.sub⟩
   ·refine Yt (by simpa using h1) ?_
    (refine Ja ?_;intros)
    refine Ys fun o=>?_
    exact ⟨by rw [I24 l h1]<;>rfl,o.sub⟩
 ·refine (?_:Tr _ _ _ _) o
  refine Je ?_
  have e:Z8 O2 .zero X rc=((.zero,2),X):=by unfold Z8;rw [hr]
  rw [e]
  (refine Ja ?_;intros)
  refine Ys fun o=>?_
  exact ⟨rfl,o.sub⟩
theorem Jn9 (c k:Nat) (F:Fr) (X:CX) (rc:RecS) (ok:FrOk F) (hk:Z3 rc.kind=8):Ct A6 O4 [P0 c,.agg ⟨U1 rc⟩,.func (.func Ae7) ⟨[]⟩ ⟨[]⟩] [cmC c k F X] fun v own =>
  v=.tuple ⟨[.agg ⟨Ag6 (Z8 P3 .zero X rc).1.1⟩,int (Z8 P3 .zero X rc).1.2]⟩∧own [cmC c k F (Z8 P3 .zero X rc).2]:=by
 refine Ct.of Az5 rfl fun h r=>Tr.eq (D79 ..) ?_;refine Je ?_
 (refine Ja ?_;intros)
 refine Yc (E12 c k F X rc ok) ?_
 rintro v h (⟨l,a,cp,hr,hl,rfl,o⟩|⟨hr,rfl,o⟩)
 ·refine (?_:Tr _ _ _ _) o
  refine Je ?_
  have e:Z8 P3 .zero X rc=(P3 l,if (P3 l).2=2 then { X with bad:=X.bad++[rc] } else X):=by unfold Z8;rw [hr]
  have hb:=E14 hr
  rw [e]
  rw [hk] at hl
  rw [hl]
  (refine Ja ?_;intros)
  refine Yc (Is4 a cp l hl) ?_;rintro _ h ⟨rfl,o⟩<;>(refine Jf o ?_;intros)
  by_cases h2:(P3 l).2=2
  ·refine Yt (by simpa using h2) ?_
   have hz:=Iz6 l (by omega)
   simp only [if_pos h2]
   refine B6 (cmC c k F X) fun u=>?_;refine Je ?_
   refine B6 (Q7 c k F.env F.caps X.bad) fun ⟨ca,cn,mb⟩=>?_;refine Je ?_
   (refine Ja ?_;intros)
   rw [Bx8,if_neg hb]
   (refine Ja ?_;intros)
   rw [Ey2 hb]
   (refine Ja ?_;intros)
   rw [El6 hb]
   (refine Ja ?_;intros)
   rw [Dz8 X.bad 0 X.bad.length _ 0 rfl (by omega),Nat.zero_add]
   (refine Ja ?_;intros)
   rw [E55]
   refine Tr.jmp Az5 (Tr.eq (Bi4 ..) ?_);(try simp only[Nr,Nl,wl,Nat.reduceAdd,Nat.reduceMul,Int.reduceToNat])
   refine Yt (by rw [bne_iff_ne];omega) ?_
   (refine Ja ?_;intros)
   rw [show X.bad.length+1=(X.bad++[rc]).length by simp]
   refine B5 (Q7 c k F.env F.caps (X.bad++[rc])) ⟨ca,cn,mb⟩ ?_;refine Je ?_
   refine B5 (cmC c k F { X with bad:=X.bad++[rc] }) () ?_;refine Je ?_
   refine Ys fun o=>?_
   exact ⟨by rw [hz]<;>rfl,o.sub⟩
  ·refine Yf (by simpa using h2) ?_
   simp only [if_neg h2]
   refine Tr.jmp Az5 (Tr.eq (Bi4 ..) ?_);(try simp only[Nr,Nl,wl,Nat.reduceAdd,Nat.reduceMul,Int.reduceToNat])
   by_cases h1:(P3 l).2=1
   ·refine Yf (by simpa using h1) ?_
    (refine Ja ?_;intros)
    refine Ys fun o=>?_
    exact ⟨rfl,o.sub⟩
   ·refine Yt (by simpa using h1) ?_
    (refine Ja ?_;intros)
    refine Ys fun o=>?_
    exact ⟨by rw [Iz6 l h1]<;>rfl,o.sub⟩
 ·refine (?_:Tr _ _ _ _) o
  refine Je ?_
  have e:Z8 P3 .zero X rc=((.zero,2),X):=by unfold Z8;rw [hr]
  rw [e]
  (refine Ja ?_;intros)
  refine Ys fun o=>?_
  exact ⟨rfl,o.sub⟩
theorem Ii6 (c k:Nat) (F:Fr) (X:CX) (rc:RecS) (ok:FrOk F) (hk:Z3 rc.kind=40):Ct A6 J9 [P0 c,.agg ⟨U1 rc⟩,.func (.func Z7) ⟨[]⟩ ⟨[]⟩] [cmC c k F X] fun v own =>
  v=.tuple ⟨[.agg ⟨I8 (Z8 N4 .zero X rc).1.1⟩,int (Z8 N4 .zero X rc).1.2]⟩∧own [cmC c k F (Z8 N4 .zero X rc).2]:=by
 refine Ct.of A20 rfl fun h r=>Tr.eq (D56 ..) ?_;refine Je ?_
 (refine Ja ?_;intros)
 refine Yc (E12 c k F X rc ok) ?_
 rintro v h (⟨l,a,cp,hr,hl,rfl,o⟩|⟨hr,rfl,o⟩)
 ·refine (?_:Tr _ _ _ _) o
  refine Je ?_
  have e:Z8 N4 .zero X rc=(N4 l,if (N4 l).2=2 then { X with bad:=X.bad++[rc] } else X):=by unfold Z8;rw [hr]
  have hb:=E14 hr
  rw [e]
  rw [hk] at hl
  rw [hl]
  (refine Ja ?_;intros)
  refine Yc (Iq1 a cp l hl) ?_;rintro _ h ⟨rfl,o⟩<;>(refine Jf o ?_;intros)
  by_cases h2:(N4 l).2=2
  ·refine Yt (by simpa using h2) ?_
   have hz:=I09 l (by omega)
   simp only [if_pos h2]
   refine B6 (cmC c k F X) fun u=>?_;refine Je ?_
   refine B6 (Q7 c k F.env F.caps X.bad) fun ⟨ca,cn,mb⟩=>?_;refine Je ?_
   (refine Ja ?_;intros)
   rw [Bx8,if_neg hb]
   (refine Ja ?_;intros)
   rw [Ey2 hb]
   (refine Ja ?_;intros)
   rw [El6 hb]
   (refine Ja ?_;intros)
   rw [Dz8 X.bad 0 X.bad.length _ 0 rfl (by omega),Nat.zero_add]
   (refine Ja ?_;intros)
   rw [E55]
   refine Tr.jmp A20 (Tr.eq (Bh6 ..) ?_);(try simp only[Nr,Nl,wl,Nat.reduceAdd,Nat.reduceMul,Int.reduceToNat])
   refine Yt (by rw [bne_iff_ne];omega) ?_
   (refine Ja ?_;intros)
   rw [show X.bad.length+1=(X.bad++[rc]).length by simp]
   refine B5 (Q7 c k F.env F.caps (X.bad++[rc])) ⟨ca,cn,mb⟩ ?_;refine Je ?_
   refine B5 (cmC c k F { X with bad:=X.bad++[rc] }) () ?_;refine Je ?_
   refine Ys fun o=>?_
   exact ⟨by rw [hz]<;>rfl,o.sub⟩
  ·refine Yf (by simpa using h2) ?_
   simp only [if_neg h2]
   refine Tr.jmp A20 (Tr.eq (Bh6 ..) ?_);(try simp only[Nr,Nl,wl,Nat.reduceAdd,Nat.reduceMul,Int.reduceToNat])
   by_cases h1:(N4 l).2=1
   ·refine Yf (by simpa using h1) ?_
    (refine Ja ?_;intros)
    refine Ys fun o=>?_
    exact ⟨rfl,o.sub⟩
   ·refine Yt (by simpa using h1) ?_
    (refine Ja ?_;intros)
    refine Ys fun o=>?_
    exact ⟨by rw [I09 l h1]<;>rfl,o.sub⟩
 ·refine (?_:Tr _ _ _ _) o
  refine Je ?_
  have e:Z8 N4 .zero X rc=((.zero,2),X):=by unfold Z8;rw [hr]
  rw [e]
  (refine Ja ?_;intros)
  refine Ys fun o=>?_
  exact ⟨rfl,o.sub⟩
def Hd9 (g:Int):List UInt8:=[b8 g,211,Db2 [b8 g,211],0]
def Ad3 (l:List UInt8):Int × Int:=if byI l 0<8∧Hd9 (byI l 0)=l then (byI l 0,1) else (0,2)
theorem Hv2 (g:Int):Ct A6 A04 [int g] [] fun v own =>
  (0≤g∧g<8∧∃ a c,v=.tuple ⟨[.slice a 4 c,.bool true]⟩∧own [slC false A3 1 a 4 c (A0 (Hd9 g))])∨(¬ (0≤g∧g<8)∧v=.tuple ⟨[.slice none 0 0,.bool false]⟩∧own []):=by
 refine Ct.of E20 rfl fun h r=>Tr.eq (E18 ..) ?_;refine Je ?_
 (refine Ja ?_;intros)
 by_cases hg:0≤g∧g<8
 ·refine Yf (by simp;omega) ?_
  rw [Bz5]
  refine Yn fun b h=>?_
  rw [show ([.int .u8 ((b8 g).toNat:Int),.int .u8 211]:List Value)=A0 [b8 g,211] from rfl]
  refine Ah3 0 rfl 1 2 rfl (by omega) ?_
  refine Je ?_
  refine Tr.pcall (Hc6 (slC false A3 1 (some ⟨b,0,none⟩) 2 2 (A0 [b8 g,211])) (some ⟨b,0,none⟩) false 2 2 2 [b8 g,211] 2 (by simp) (by simp [A9])) ?_
  (refine Ja ?_;intros)
  rw [show List.take 2 [b8 g,211]=[b8 g,211] from rfl,Ec2]
  refine Tr.xApd ⟨rfl,rfl,by simp [A9]⟩ fun a' c' h'=>?_
  refine Je ?_
  refine Ys fun o=>?_
  exact .inl ⟨hg.1,hg.2,a',c',rfl,(show Own h' (_::slC false A3 1 a' 4 c' (A0 (Hd9 g))::_) from o).sub⟩
 ·refine Yt (by simp;omega) ?_
  refine Ys fun o=>?_
  exact .inr ⟨hg,rfl,o.sub⟩
theorem Jj4 (l:List UInt8):∀ (m i:Nat) (r:List UInt8),l.length-i=m→ByteArray.toList.loop ⟨⟨l⟩⟩ i r=r.reverse++l.drop i:=by
 intro m
 induction m with
 | zero =>
  intro i r hm
  unfold ByteArray.toList.loop
  rw [if_neg (show ¬ i<(ByteArray.mk ⟨l⟩).size by show ¬ i<l.length;omega),List.drop_eq_nil_of_le (by omega)];simp
 | succ m ih =>
  intro i r hm
  have hlt:i<l.length:=by omega
  unfold ByteArray.toList.loop
  rw [if_pos (show i<(ByteArray.mk ⟨l⟩).size from hlt),ih (i+1) _ (by omega),List.drop_eq_getElem_cons hlt]
  have:(ByteArray.mk ⟨l⟩).get! i=l[i]:=by
   show (Array.mk l)[i]! = l[i]
   simp [hlt]
  rw [this];simp
theorem Hm6 (l:List UInt8):(ByteArray.mk ⟨l⟩).toList=l:=by
 unfold ByteArray.toList
 rw [Jj4 l _ 0 [] rfl];simp
theorem Gv3 (pb:HP) (ro:Bool) (a:Option Addr) (c:Nat) (l:List UInt8) (hl:l.length=4) [ks:IsSl pb a ro A3 1 4 c (A0 l)]:Ct A6 V8 [.slice a 4 c] [pb] fun v own=>v=.tuple ⟨[int (Ad3 l).1,int (Ad3 l).2]⟩∧own [pb]:=by
 refine Ct.of Gs7 rfl fun h r=>Tr.eq (Gr5 ..) ?_;refine Je ?_
 refine Yf rfl ?_
 (refine Ja ?_;intros;repeat(refine Gw ?_;rintro px rfl;refine Ja ?_;intros))
 refine Tr.xIntS (v:=byI l 0) (Al4 (by omega)) ?_
 simp only [byI,Ay1]
 refine Yc (Hv2 (byI l 0)) ?_
 rintro v h (⟨h1,h2,a1,c1,rfl,o⟩|⟨hn,rfl,o⟩)
 ·refine (?_:Tr _ _ _ _) o
  refine Je ?_
  (refine Ja ?_;intros)
  rw [Hm6,Hm6]
  by_cases he:Hd9 (byI l 0)=l
  ·have e:Ad3 l=(byI l 0,1):=by unfold Ad3;rw [if_pos ⟨h2,he⟩]
   refine Yf (by simp [he]) ?_
   (refine Ja ?_;intros)
   refine Tr.xIntS (v:=byI l 0) (Al4 (by omega)) ?_
   refine Ys fun o=>?_
   rw [e];exact ⟨by simp only [byI,Ay1],o.sub⟩
  ·have e:Ad3 l=(0,2):=by unfold Ad3;rw [if_neg (fun hh=>he hh.2)]
   refine Yt (by simp [he]) ?_
   refine Ys fun o=>?_
   rw [e];exact ⟨rfl,o.sub⟩
 ·refine (?_:Tr _ _ _ _) o
  refine Je ?_
  (refine Jb ?_;intros)
  refine Yb (Yt rfl ?_)
  refine Ys fun o=>(?_:Tr _ _ _ _) o;refine Je ?_
  (refine Ja ?_;intros)
  refine Ys fun o=>?_
  exact ⟨by unfold Ad3;rw [if_neg (by simp only [byI] at *;omega)],o.sub⟩
theorem Im0 (a:Option Addr) (c:Nat) (l:List UInt8) (hl:l.length=4):Ct A6 V8 [.slice a 4 c] [slC false A3 1 a 4 c (A0 l)] fun v own=>v=.tuple ⟨[int (Ad3 l).1,int (Ad3 l).2]⟩∧own [slC false A3 1 a 4 c (A0 l)]:=Gv3 (slC false A3 1 a 4 c (A0 l)) false a c l hl
theorem I13 (l:List UInt8) (h:(Ad3 l).2≠1):(Ad3 l).1=0:=by
 unfold Ad3 at *;split<;>simp_all
theorem Jj9 (c k:Nat) (F:Fr) (X:CX) (rc:RecS) (ok:FrOk F) (hk:Z3 rc.kind=4):Ct A6 Z2 [P0 c,.agg ⟨U1 rc⟩,.func (.func V8) ⟨[]⟩ ⟨[]⟩] [cmC c k F X] fun v own =>
  v=.tuple ⟨[int (Z8 Ad3 0 X rc).1.1,int (Z8 Ad3 0 X rc).1.2]⟩∧own [cmC c k F (Z8 Ad3 0 X rc).2]:=by
 refine Ct.of Bn4 rfl fun h r=>Tr.eq (Ey0 ..) ?_;refine Je ?_
 (refine Ja ?_;intros)
 refine Yc (E12 c k F X rc ok) ?_
 rintro v h (⟨l,a,cp,hr,hl,rfl,o⟩|⟨hr,rfl,o⟩)
 ·refine (?_:Tr _ _ _ _) o
  refine Je ?_
  have e:Z8 Ad3 0 X rc=(Ad3 l,if (Ad3 l).2=2 then { X with bad:=X.bad++[rc] } else X):=by unfold Z8;rw [hr]
  have hb:=E14 hr
  rw [e]
  rw [hk] at hl
  rw [hl]
  (refine Ja ?_;intros)
  refine Yc (Im0 a cp l hl) ?_;rintro _ h ⟨rfl,o⟩<;>(refine Jf o ?_;intros)
  by_cases h2:(Ad3 l).2=2
  ·refine Yt (by simpa using h2) ?_
   have hz:=I13 l (by omega)
   simp only [if_pos h2]
   refine B6 (cmC c k F X) fun u=>?_;refine Je ?_
   refine B6 (Q7 c k F.env F.caps X.bad) fun ⟨ca,cn,mb⟩=>?_;refine Je ?_
   (refine Ja ?_;intros)
   rw [Bx8,if_neg hb]
   (refine Ja ?_;intros)
   rw [Ey2 hb]
   (refine Ja ?_;intros)
   rw [El6 hb]
   (refine Ja ?_;intros)
   rw [Dz8 X.bad 0 X.bad.length _ 0 rfl (by omega),Nat.zero_add]
   (refine Ja ?_;intros)
   rw [E55]
   refine Tr.jmp Bn4 (Tr.eq (B37 ..) ?_);(try simp only[Nr,Nl,wl,Nat.reduceAdd,Nat.reduceMul,Int.reduceToNat])
   refine Yt (by rw [bne_iff_ne];omega) ?_
   rw [show X.bad.length+1=(X.bad++[rc]).length by simp]
   refine B5 (Q7 c k F.env F.caps (X.bad++[rc])) ⟨ca,cn,mb⟩ ?_;refine Je ?_
   refine B5 (cmC c k F { X with bad:=X.bad++[rc] }) () ?_;refine Je ?_
   refine Ys fun o=>?_
   exact ⟨by rw [hz],o.sub⟩
  ·refine Yf (by simpa using h2) ?_
   simp only [if_neg h2]
   refine Tr.jmp Bn4 (Tr.eq (B37 ..) ?_);(try simp only[Nr,Nl,wl,Nat.reduceAdd,Nat.reduceMul,Int.reduceToNat])
   by_cases h1:(Ad3 l).2=1
   ·refine Yf (by simpa using h1) ?_
    refine Ys fun o=>?_
    exact ⟨rfl,o.sub⟩
   ·refine Yt (by simpa using h1) ?_
    refine Ys fun o=>?_
    exact ⟨by rw [I13 l h1],o.sub⟩
 ·refine (?_:Tr _ _ _ _) o
  refine Je ?_
  have e:Z8 Ad3 0 X rc=((0,2),X):=by unfold Z8;rw [hr]
  rw [e]
  (refine Ja ?_;intros)
  refine Ys fun o=>?_
  exact ⟨rfl,o.sub⟩
abbrev Ej5 (X:CX) (i:Int):(ProcS × Int) × CX:=Z8 O2 .zero X ⟨1,i⟩
abbrev E70 (X:CX) (i:Int):(FileS × Int) × CX:=Z8 P3 .zero X ⟨2,i⟩
abbrev D90 (X:CX) (i:Int):(PipeS × Int) × CX:=Z8 N4 .zero X ⟨3,i⟩
abbrev Gn1 (X:CX):(PipeS × Int) × CX:=Z8 N4 .zero X ⟨4,0⟩
abbrev Gf6 (X:CX):(Int × Int) × CX:=Z8 Ad3 0 X ⟨5,0⟩
abbrev Dc1 (X:CX) (i:Int) (p:ProcS):Bool × CX:=wrX X ⟨1,i⟩ (A85 p) (okS p)
abbrev By0 (X:CX) (i:Int) (p:FileS):Bool × CX:=wrX X ⟨2,i⟩ (As9 p) (okF p)
abbrev De0 (X:CX) (i:Int) (p:PipeS):Bool × CX:=wrX X ⟨3,i⟩ (O0 p) (okP p)
abbrev B17 (X:CX) (rc:RecS):Bool × CX:=wrX X rc (List.replicate (Z3 rc.kind) 0) true
theorem Ev9 (X:CX) (rc:RecS) (b:List UInt8):wrX X rc b false=(false,X):=by
 unfold wrX;split<;>simp
theorem Gb9 (c k:Nat) (F:Fr) (X:CX) (rc:RecS) (ok:FrOk F):Ct A6 Z0 [P0 c,.agg ⟨U1 rc⟩] [cmC c k F X] fun v own =>
  v=.bool (B17 X rc).1∧own [cmC c k F (B17 X rc).2]:=by
 refine Ct.of Ei8 rfl fun h r=>Tr.eq (Ei6 ..) ?_;refine Je ?_
 refine B6 (cmC c k F X) fun u=>?_;refine Je ?_
 refine P8 2 rfl fun f=>?_
 (repeat' first|refine Gu ?_|(with_reducible first|refine Gn fun b h=>?_|apply Gx|apply Gy|rintro px rfl|apply Gw|refine fun(h:H)=>?_|intro hb)|refine Gs ?_|refine Gt ?_|exact Gz rfl|fail)
 refine Yc (Gc5 c k F.env F.caps X.bad rc ok.small ok.ne) ?_;rintro _ h ⟨rfl,o⟩<;>(refine (?_:Tr _ _ _ _) o;refine Je ?_;(repeat' first|refine Gu ?_|(with_reducible first|refine Gn fun b h=>?_|apply Gx|apply Gy|rintro px rfl|apply Gw|refine fun(h:H)=>?_|intro hb)|refine Gs ?_|refine Gt ?_|exact Gz rfl|fail))
 have em:=f.mlen ok
 cases hp:E7 F.caps.length rc with
 | none =>
  (repeat' first|refine Gu ?_|(with_reducible first|refine Gn fun b h=>?_|apply Gx|apply Gy|rintro px rfl|apply Gw|refine fun(h:H)=>?_|intro hb)|refine Gs ?_|refine Gt ?_|exact Gz rfl|fail)
  rw [show I6 (Int.toNat 0) [.int .u8 0]=A0 [] from rfl]
  refine Ah3 0 rfl 1 0 rfl (by omega) ?_
  refine Je ?_
  refine B5 (cmC c k F X) () ?_;refine Je ?_
  refine Yc (De8 c k F X rc ok [] false (some ⟨b,0,none⟩) 0 (by simp)) ?_;rintro _ h ⟨rfl,o⟩<;>(refine (?_:Tr _ _ _ _) o;refine Je ?_;(repeat' first|refine Gu ?_|(with_reducible first|refine Gn fun b h=>?_|apply Gx|apply Gy|rintro px rfl|apply Gw|refine fun(h:H)=>?_|intro hb)|refine Gs ?_|refine Gt ?_|exact Gz rfl|fail))
  refine Ys fun o=>?_
  have e:B17 X rc=(false,X):=by unfold B17 wrX;rw [em,hp]
  rw [Ev9] at o
  rw [e,Ev9]
  exact ⟨by first|rfl|trivial,o.sub⟩
 | some p =>
  obtain ⟨j,a,n⟩:=p
  have hn:=D68 hp
  subst hn
  have h40:Z3 rc.kind≤40:=by unfold Z3;(repeat' split)<;>omega
  (repeat' first|refine Gu ?_|(with_reducible first|refine Gn fun b h=>?_|apply Gx|apply Gy|rintro px rfl|apply Gw|refine fun(h:H)=>?_|intro hb)|refine Gs ?_|refine Gt ?_|exact Gz rfl|fail)
  refine Tr.ck ⟨by omega,by omega,by simp only [A9];omega⟩ ?_
  refine Yn fun b1 h=>?_
  rw [Int.toNat_natCast,show I6 (Z3 rc.kind) [.int .u8 0]=A0 (List.replicate (Z3 rc.kind) 0) by simp [I6,A0]]
  refine Ah3 0 rfl 1 (Z3 rc.kind) (by simp [A0]) (by omega) ?_
  refine Je ?_
  refine B5 (cmC c k F X) () ?_;refine Je ?_
  have J:=De8 c k F X rc ok (List.replicate (Z3 rc.kind) 0) true (some ⟨b1,0,none⟩) (Z3 rc.kind) (by simp)
  rw [List.length_replicate] at J
  refine Yc (J) ?_;rintro _ h ⟨rfl,o⟩<;>(refine (?_:Tr _ _ _ _) o;refine Je ?_;(repeat' first|refine Gu ?_|(with_reducible first|refine Gn fun b h=>?_|apply Gx|apply Gy|rintro px rfl|apply Gw|refine fun(h:H)=>?_|intro hb)|refine Gs ?_|refine Gt ?_|exact Gz rfl|fail))
  refine Ys fun o=>?_
  exact ⟨rfl,o.sub⟩
theorem Ex6 (c k:Nat) (F:Fr) (X:CX) (rc:RecS) (ok:FrOk F):Ct A6 N5 [P0 c,.agg ⟨U1 rc⟩,.slice none 0 0,.bool false] [cmC c k F X] fun v own=>v=.bool false∧own [cmC c k F X]:=by
 intro h r o
 have o1:Own h (slC false A3 1 none 0 0 (A0 [])::cmC c k F X::r):=o.slNil false A3 (by omega)
 obtain ⟨v,h',e,rfl,o2⟩:=De8 c k F X rc ok [] false none 0 (by simp) h r (o1.perm (.swap _ _ _))
 rw [Ev9] at e o2
 exact ⟨_,h',e,rfl,o2.sub⟩
theorem E43 (i:Int):Ct A6 A34 [int i] [] fun v own=>v=.agg ⟨U1 ⟨1,i⟩⟩∧own []:=by
 refine Ct.of Hk5 rfl fun h r=>Tr.eq (Hf8 ..) ?_;refine Je ?_
 (refine Ja ?_;intros)
 refine Ys fun o=>?_
 exact ⟨rfl,o.sub⟩
theorem E48 (i:Int):Ct A6 A32 [int i] [] fun v own=>v=.agg ⟨U1 ⟨2,i⟩⟩∧own []:=by
 refine Ct.of Hi0 rfl fun h r=>Tr.eq (Hg6 ..) ?_;refine Je ?_
 (refine Ja ?_;intros)
 refine Ys fun o=>?_
 exact ⟨rfl,o.sub⟩
theorem Ez4 (i:Int):Ct A6 A33 [int i] [] fun v own=>v=.agg ⟨U1 ⟨3,i⟩⟩∧own []:=by
 refine Ct.of Hk0 rfl fun h r=>Tr.eq (Hh6 ..) ?_;refine Je ?_
 (refine Ja ?_;intros)
 refine Ys fun o=>?_
 exact ⟨rfl,o.sub⟩
theorem Bd1 (c k:Nat) (F:Fr) (X:CX) (ok:FrOk F) (i:Int):Ct A6 G4 [P0 c,int i] [cmC c k F X] fun v own=>v=.tuple ⟨[.agg ⟨B7 (Ej5 X i).1.1⟩,int (Ej5 X i).1.2]⟩∧own [cmC c k F (Ej5 X i).2]:=by
 refine Ct.of Er1 rfl fun h r=>Tr.eq (En4 ..) ?_;refine Je ?_
 (refine Ja ?_;intros)
 refine Yc (E43 i) ?_;rintro _ h ⟨rfl,o⟩<;>(refine Jf o ?_;intros)
 refine Yc (Jl8 c k F X ⟨1,i⟩ ok rfl) ?_;rintro _ h ⟨rfl,o⟩<;>(refine Jf o ?_;intros)
 refine Ys fun o=>?_
 exact ⟨rfl,o.sub⟩
theorem E41 (c k:Nat) (F:Fr) (X:CX) (ok:FrOk F) (i:Int):Ct A6 U5 [P0 c,int i] [cmC c k F X] fun v own=>v=.tuple ⟨[.agg ⟨Ag6 (E70 X i).1.1⟩,int (E70 X i).1.2]⟩∧own [cmC c k F (E70 X i).2]:=by
 refine Ct.of Er2 rfl fun h r=>Tr.eq (Eo2 ..) ?_;refine Je ?_
 (refine Ja ?_;intros)
 refine Yc (E48 i) ?_;rintro _ h ⟨rfl,o⟩<;>(refine Jf o ?_;intros)
 refine Yc (Jn9 c k F X ⟨2,i⟩ ok rfl) ?_;rintro _ h ⟨rfl,o⟩<;>(refine Jf o ?_;intros)
 refine Ys fun o=>?_
 exact ⟨rfl,o.sub⟩
theorem H80 (c k:Nat) (F:Fr) (X:CX) (ok:FrOk F) (i:Int):Ct A6 Ah7 [P0 c,int i] [cmC c k F X] fun v own=>v=.tuple ⟨[.agg ⟨I8 (D90 X i).1.1⟩,int (D90 X i).1.2]⟩∧own [cmC c k F (D90 X i).2]:=by
 refine Ct.of Eq4 rfl fun h r=>Tr.eq (Ep0 ..) ?_;refine Je ?_
 (refine Ja ?_;intros)
 refine Yc (Ez4 i) ?_;rintro _ h ⟨rfl,o⟩<;>(refine Jf o ?_;intros)
 refine Yc (Ii6 c k F X ⟨3,i⟩ ok rfl) ?_;rintro _ h ⟨rfl,o⟩<;>(refine Jf o ?_;intros)
 refine Ys fun o=>?_
 exact ⟨rfl,o.sub⟩
theorem I81 (c k:Nat) (F:Fr) (X:CX) (ok:FrOk F):Ct A6 Au1 [P0 c] [cmC c k F X] fun v own=>v=.tuple ⟨[.agg ⟨I8 (Gn1 X).1.1⟩,int (Gn1 X).1.2]⟩∧own [cmC c k F (Gn1 X).2]:=by
 refine Ct.of Ep4 rfl fun h r=>Tr.eq (Eo9 ..) ?_;refine Je ?_
 (refine Ja ?_;intros)
 refine Yc (Ii6 c k F X ⟨4,0⟩ ok rfl) ?_;rintro _ h ⟨rfl,o⟩<;>(refine Jf o ?_;intros)
 refine Ys fun o=>?_
 exact ⟨rfl,o.sub⟩
theorem I16 (c k:Nat) (F:Fr) (X:CX) (ok:FrOk F):Ct A6 Aq8 [P0 c] [cmC c k F X] fun v own=>v=.tuple ⟨[int (Gf6 X).1.1,.bool ((Gf6 X).1.2==1)]⟩∧own [cmC c k F (Gf6 X).2]:=by
 refine Ct.of Ej0 rfl fun h r=>Tr.eq (Ei7 ..) ?_;refine Je ?_
 (refine Ja ?_;intros)
 refine Yc (Jj9 c k F X ⟨5,0⟩ ok rfl) ?_;rintro _ h ⟨rfl,o⟩<;>(refine Jf o ?_;intros)
 refine Ys fun o=>?_
 exact ⟨rfl,o.sub⟩
theorem Ee5 (f:FileS):(As9 f).length=8:=rfl
theorem Bs4 (c k:Nat) (F:Fr) (X:CX) (ok:FrOk F) (i:Int) (p:ProcS):Ct A6 I3 [P0 c,int i,.agg ⟨B7 p⟩] [cmC c k F X] fun v own=>v=.bool (Dc1 X i p).1∧own [cmC c k F (Dc1 X i p).2]:=by
 refine Ct.of D78 rfl fun h r=>Tr.eq (D59 ..) ?_;refine Je ?_
 (refine Ja ?_;intros)
 refine Yc (Hf2 p) ?_
 rintro v h (⟨hk,a,rfl,o⟩|⟨hk,rfl,o⟩)
 ·refine (?_:Tr _ _ _ _) o
  refine Je ?_
  (refine Ja ?_;intros)
  refine Yc (E43 i) ?_;rintro _ h ⟨rfl,o⟩<;>(refine Jf o ?_;intros)
  have J:=De8 c k F X ⟨1,i⟩ ok (A85 p) true a 24 (fun _=>E33 p)
  rw [E33] at J
  refine Yc (J) ?_;rintro _ h ⟨rfl,o⟩<;>(refine Jf o ?_;intros)
  refine Ys fun o=>?_
  unfold Dc1;rw [hk]
  exact ⟨rfl,o.sub⟩
 ·refine (?_:Tr _ _ _ _) o
  refine Je ?_
  (refine Ja ?_;intros)
  refine Yc (E43 i) ?_;rintro _ h ⟨rfl,o⟩<;>(refine Jf o ?_;intros)
  refine Yc (Ex6 c k F X ⟨1,i⟩ ok) ?_;rintro _ h ⟨rfl,o⟩<;>(refine Jf o ?_;intros)
  refine Ys fun o=>?_
  unfold Dc1;rw [hk,Ev9]
  exact ⟨rfl,o.sub⟩
theorem Gu3 (c k:Nat) (F:Fr) (X:CX) (ok:FrOk F) (i:Int) (p:FileS):Ct A6 Ab9 [P0 c,int i,.agg ⟨Ag6 p⟩] [cmC c k F X] fun v own=>v=.bool (By0 X i p).1∧own [cmC c k F (By0 X i p).2]:=by
 refine Ct.of Ea0 rfl fun h r=>Tr.eq (D84 ..) ?_;refine Je ?_
 (refine Ja ?_;intros)
 refine Yc (Hd3 p) ?_
 rintro v h (⟨hk,a,rfl,o⟩|⟨hk,rfl,o⟩)
 ·refine (?_:Tr _ _ _ _) o
  refine Je ?_
  (refine Ja ?_;intros)
  refine Yc (E48 i) ?_;rintro _ h ⟨rfl,o⟩<;>(refine Jf o ?_;intros)
  have J:=De8 c k F X ⟨2,i⟩ ok (As9 p) true a 8 (fun _=>Ee5 p)
  rw [Ee5] at J
  refine Yc (J) ?_;rintro _ h ⟨rfl,o⟩<;>(refine Jf o ?_;intros)
  refine Ys fun o=>?_
  unfold By0;rw [hk]
  exact ⟨rfl,o.sub⟩
 ·refine (?_:Tr _ _ _ _) o
  refine Je ?_
  (refine Ja ?_;intros)
  refine Yc (E48 i) ?_;rintro _ h ⟨rfl,o⟩<;>(refine Jf o ?_;intros)
  refine Yc (Ex6 c k F X ⟨2,i⟩ ok) ?_;rintro _ h ⟨rfl,o⟩<;>(refine Jf o ?_;intros)
  refine Ys fun o=>?_
  unfold By0;rw [hk,Ev9]
  exact ⟨rfl,o.sub⟩
theorem Ib8 (c k:Nat) (F:Fr) (X:CX) (ok:FrOk F) (i:Int) (p:PipeS):Ct A6 Al1 [P0 c,int i,.agg ⟨I8 p⟩] [cmC c k F X] fun v own=>v=.bool (De0 X i p).1∧own [cmC c k F (De0 X i p).2]:=by
 refine Ct.of D65 rfl fun h r=>Tr.eq (D91 ..) ?_;refine Je ?_
 (refine Ja ?_;intros)
 refine Yc (G67 p) ?_
 rintro v h (⟨hk,a,rfl,o⟩|⟨hk,rfl,o⟩)
 ·refine (?_:Tr _ _ _ _) o
  refine Je ?_
  (refine Ja ?_;intros)
  refine Yc (Ez4 i) ?_;rintro _ h ⟨rfl,o⟩<;>(refine Jf o ?_;intros)
  have J:=De8 c k F X ⟨3,i⟩ ok (O0 p) true a 40 (fun _=>De6 p.len)
  rw [De6 p.len] at J
  refine Yc (J) ?_;rintro _ h ⟨rfl,o⟩<;>(refine Jf o ?_;intros)
  refine Ys fun o=>?_
  unfold De0;rw [hk]
  exact ⟨rfl,o.sub⟩
 ·refine (?_:Tr _ _ _ _) o
  refine Je ?_
  (refine Ja ?_;intros)
  refine Yc (Ez4 i) ?_;rintro _ h ⟨rfl,o⟩<;>(refine Jf o ?_;intros)
  refine Yc (Ex6 c k F X ⟨3,i⟩ ok) ?_;rintro _ h ⟨rfl,o⟩<;>(refine Jf o ?_;intros)
  refine Ys fun o=>?_
  unfold De0;rw [hk,Ev9]
  exact ⟨rfl,o.sub⟩
theorem Dm5 (c k:Nat) (F:Fr) (X:CX) (ok:FrOk F) (i:Int):Ct A6 N3 [P0 c,int i] [cmC c k F X] fun v own=>v=.bool (B17 X ⟨1,i⟩).1∧own [cmC c k F (B17 X ⟨1,i⟩).2]:=by
 refine Ct.of D23 rfl fun h r=>Tr.eq (D33 ..) ?_;refine Je ?_
 refine Yc (E43 i) ?_;rintro _ h ⟨rfl,o⟩<;>(refine Jf o ?_;intros)
 refine Yc (Gb9 c k F X ⟨1,i⟩ ok) ?_;rintro _ h ⟨rfl,o⟩<;>(refine Jf o ?_;intros)
 refine Ys fun o=>?_
 exact ⟨rfl,o.sub⟩
theorem H54 (c k:Nat) (F:Fr) (X:CX) (ok:FrOk F) (i:Int):Ct A6 Ai8 [P0 c,int i] [cmC c k F X] fun v own=>v=.bool (B17 X ⟨2,i⟩).1∧own [cmC c k F (B17 X ⟨2,i⟩).2]:=by
 refine Ct.of D34 rfl fun h r=>Tr.eq (D40 ..) ?_;refine Je ?_
 refine Yc (E48 i) ?_;rintro _ h ⟨rfl,o⟩<;>(refine Jf o ?_;intros)
 refine Yc (Gb9 c k F X ⟨2,i⟩ ok) ?_;rintro _ h ⟨rfl,o⟩<;>(refine Jf o ?_;intros)
 refine Ys fun o=>?_
 exact ⟨rfl,o.sub⟩
theorem Hw4 (c k:Nat) (F:Fr) (X:CX) (ok:FrOk F) (i:Int):Ct A6 Ai6 [P0 c,int i] [cmC c k F X] fun v own=>v=.bool (B17 X ⟨3,i⟩).1∧own [cmC c k F (B17 X ⟨3,i⟩).2]:=by
 refine Ct.of D22 rfl fun h r=>Tr.eq (D31 ..) ?_;refine Je ?_
 refine Yc (Ez4 i) ?_;rintro _ h ⟨rfl,o⟩<;>(refine Jf o ?_;intros)
 refine Yc (Gb9 c k F X ⟨3,i⟩ ok) ?_;rintro _ h ⟨rfl,o⟩<;>(refine Jf o ?_;intros)
 refine Ys fun o=>?_
 exact ⟨rfl,o.sub⟩
def D57 (f:CX→Int→CX):Nat→Int→CX→CX
 | 0,_,X=>X
 | m+1,i,X=>D57 f m (i+1) (f X i)
def Ha1 (X:CX):CX:=(Gf6 (Gn1 X).2).2
def H30 (nc:Nat) (X:CX):CX:=Ha1 (D57 (fun X i=>(D90 X i).2) (3+nc) 0 X)
def Ia2 (nc:Nat) (X:CX):CX:=H30 nc (D57 (fun X i=>(E70 X i).2) 12 0 X)
def lookN (nc:Nat) (X:CX):CX:=Ia2 nc (D57 (fun X i=>(Ej5 X i).2) 8 0 X)
def Go0 (X:CX):CX:=lookN X.m.length X
theorem Ir2 (c k:Nat) (F:Fr) (ok:FrOk F):∀ (m:Nat) (i:Int) (X:CX),0≤i→i+m=3+F.caps.length →
  CtJ D6 D4 Ak6 [(0,P0 c),(20,int (3+F.caps.length)),(21,int i)] [cmC c k F X] fun v own=>v=.tuple ⟨[]⟩∧own [cmC c k F (Ha1 (D57 (fun X i=>(D90 X i).2) m i X))]:=by
 have hs:=ok.small
 intro m
 induction m with
 | zero =>
  intro i X h0 hi
  refine CtJ.of U3 fun h r=>Tr.eq (Bv4 ..) ?_;refine Je ?_
  refine Yf (by simp;omega) ?_
  refine Yc (I81 c k F X ok) ?_;rintro _ h ⟨rfl,o⟩<;>(refine Jf o ?_;intros)
  refine Yc (I16 c k F (Gn1 X).2 ok) ?_;rintro _ h ⟨rfl,o⟩<;>(refine Jf o ?_;intros)
  refine Ys fun o=>?_
  exact ⟨rfl,o⟩
 | succ m ih =>
  intro i X h0 hi
  have e1:=wI i
  refine CtJ.of U3 fun h r=>Tr.eq (Bv4 ..) ?_;refine Je ?_
  refine Yt (by simp;omega) ?_
  refine Yc (H80 c k F X ok i) ?_;rintro _ h ⟨rfl,o⟩<;>(refine Jf o ?_;intros)
  rw [e1]
  refine Yr (ih (i+1) (D90 X i).2 (by omega) (by omega)) ?_
  rintro _ h ⟨rfl,o⟩
  exact ⟨rfl,o⟩
theorem Im3 (c k:Nat) (F:Fr) (ok:FrOk F):∀ (m:Nat) (i:Int) (X:CX),0≤i→i+m=12 →
  CtJ D6 D4 Ak5 [(0,P0 c),(12,int i)] [cmC c k F X] fun v own=>v=.tuple ⟨[]⟩∧own [cmC c k F (H30 F.caps.length (D57 (fun X i=>(E70 X i).2) m i X))]:=by
 have hs:=ok.small
 intro m
 induction m with
 | zero =>
  intro i X h0 hi
  refine CtJ.of U3 fun h r=>Tr.eq (Bu0 ..) ?_;refine Je ?_
  refine Yf (by simp;omega) ?_
  refine B6 (cmC c k F X) fun u=>?_;refine Je ?_
  refine Tr.pcall (G09 c k F.env F.caps X.bad 3 ok.small) ?_;refine Je ?_;(refine Ja ?_;intros)
  refine B5 (cmC c k F X) () ?_;refine Je ?_
  refine Yr (Ir2 c k F ok (3+F.caps.length) 0 X (by omega) (by omega)) ?_
  rintro _ h ⟨rfl,o⟩
  exact ⟨rfl,o⟩
 | succ m ih =>
  intro i X h0 hi
  have e1:=wI i
  refine CtJ.of U3 fun h r=>Tr.eq (Bu0 ..) ?_;refine Je ?_
  refine Yt (by simp;omega) ?_
  refine Yc (E41 c k F X ok i) ?_;rintro _ h ⟨rfl,o⟩<;>(refine Jf o ?_;intros)
  rw [e1]
  refine Yr (ih (i+1) (E70 X i).2 (by omega) (by omega)) ?_
  rintro _ h ⟨rfl,o⟩
  exact ⟨rfl,o⟩
theorem Ir4 (c k:Nat) (F:Fr) (ok:FrOk F):∀ (m:Nat) (i:Int) (X:CX),0≤i→i+m=8 →
  CtJ D6 D4 Ak8 [(0,P0 c),(5,int i)] [cmC c k F X] fun v own=>v=.tuple ⟨[]⟩∧own [cmC c k F (Ia2 F.caps.length (D57 (fun X i=>(Ej5 X i).2) m i X))]:=by
 intro m
 induction m with
 | zero =>
  intro i X h0 hi
  refine CtJ.of U3 fun h r=>Tr.eq (Bv2 ..) ?_;refine Je ?_
  refine Yf (by simp;omega) ?_
  refine Yr (Im3 c k F ok 12 0 X (by omega) (by omega)) ?_
  rintro _ h ⟨rfl,o⟩
  exact ⟨rfl,o⟩
 | succ m ih =>
  intro i X h0 hi
  have e1:=wI i
  refine CtJ.of U3 fun h r=>Tr.eq (Bv2 ..) ?_;refine Je ?_
  refine Yt (by simp;omega) ?_
  refine Yc (Bd1 c k F X ok i) ?_;rintro _ h ⟨rfl,o⟩<;>(refine Jf o ?_;intros)
  rw [e1]
  refine Yr (ih (i+1) (Ej5 X i).2 (by omega) (by omega)) ?_
  rintro _ h ⟨rfl,o⟩
  exact ⟨rfl,o⟩
theorem Go4 (c k:Nat) (F:Fr) (X:CX) (ok:FrOk F):Ct A6 D4 [P0 c] [cmC c k F X] fun v own=>v=.tuple ⟨[]⟩∧own [cmC c k F (Go0 X)]:=by
 refine Ct.of U3 rfl fun h r=>Tr.eq (Eo1 ..) ?_;refine Je ?_
 intro o
 obtain ⟨u,o1⟩:=Own.unfold (cmC c k F X) o
 have f:=(Own.front o1 (i:=2) rfl).pure
 have e:Go0 X=lookN F.caps.length X:=by unfold Go0;rw [f.mlen ok]
 rw [e]
 refine (?_:Tr _ _ _ _) o
 refine Yr (Ir4 c k F ok 8 0 X (by omega) (by omega)) ?_
 rintro _ h ⟨rfl,o⟩
 exact ⟨rfl,o⟩
end Go.EQ
