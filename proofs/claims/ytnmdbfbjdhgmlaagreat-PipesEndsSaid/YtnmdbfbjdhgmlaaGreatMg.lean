/- With the last writer gone what is left is read, then the end is told, again and again; with the last reader gone a write is refused, and its signal raised; no conditions. -/
import Derived.Test.YtnmdbfbjdhgmlaaGreatMf
set_option linter.all false
set_option maxRecDepth 10000
namespace Go.EQ
open Go Go.NN
theorem U9 (l:List UInt8):(A5 l).length=l.length:=by simp [A5]
theorem D49 {l:List UInt8} {i:Nat} {x:UInt8} (h:l[i]?=some x):(A5 l)[i]?=some (.int .u8 x.toNat):=by
 unfold A5;rw [List.getElem?_map,h];rfl
theorem Ih4 (l:List UInt8) (x:Nat):(A5 l).take x=A5 (l.take x):=by unfold A5;rw [List.map_take]
theorem Io8 (l m:List UInt8):A5 (l++m)=A5 l++A5 m:=by simp [A5]
def Ed1 (n:Int) (l:List UInt8):Int:=l.foldl (fun n c=>IntKind.wrap .u8 (n+c.toNat)) n
def Gn4 (l:List UInt8):Int:=Ed1 (IntKind.wrap .u8 l.length) l
theorem H60 (p:HP) (a:Option Addr) (ro:Bool) (n c d:Nat) (l:List UInt8) [ks:IsSl p a ro A7 1 n c (A5 l)] (x:Nat) (hx:x≤l.length) (hl:l.length≤B4):∀ (m i:Nat) (acc:Int),x-i=m→i≤x →
  V4 I2 Ab2 Bl6 [(3,.int .u8 acc),(9,.slice a x d),(10,int x),(11,int i)] [p] (.int .u8 (Ed1 acc ((l.take x).drop i))):=by
 intro m
 induction m with
 | zero =>
  intro i acc hm hi
  refine V4.of D34 fun h r=>Tr.eq (D66 ..) ?_;refine Je ?_
  refine Yf (by simp;omega) ?_
  refine Ys fun o=>?_
  rw [List.drop_eq_nil_of_le (by simp;omega)];exact ⟨rfl,rfl⟩
 | succ m ih =>
  intro i acc hm hi
  have hlt:i<(l.take x).length:=by rw [List.length_take];omega
  have hp:l[i]?=some (l.take x)[i]:=by
   rw [List.getElem_take];exact List.getElem?_eq_getElem (by omega)
  have hd:(l.take x).drop i=(l.take x)[i]::(l.take x).drop (i+1):=List.drop_eq_getElem_cons hlt
  generalize (l.take x)[i]=y at hp hd
  have e1:IntKind.wrap .i64 ((i:Int)+1)=((i+1:Nat):Int):=by rw [B3];simp only [B4] at hl;omega
  refine V4.of D34 fun h r=>Tr.eq (D66 ..) ?_;refine Je ?_
  refine Yt (by simp;omega) ?_
  refine U6 0 rfl fun h1 h2 h3=>?_
  rw [U9] at h1
  (refine Ja ?_;unhygienic intros;repeat(refine Gw ?_;rintro px rfl;refine Ja ?_;unhygienic intros))
  refine Tr.xIntS (v:=y.toNat) (by simpa using D49 hp) ?_
  rw [e1,hd]
  exact Z9 (ih (i+1) _ (by omega) (by omega)) (r:=r) (by simp) fun o=>⟨rfl,rfl⟩
theorem Gi3 (p:HP) (a:Option Addr) (ro:Bool) (n c d:Nat) (l:List UInt8) [ks:IsSl p a ro A7 1 n c (A5 l)] (x:Nat) (hx:x≤l.length) (hl:l.length≤B4) :
  CtP B2 Ab2 [.slice a x d] [p] (.int .u8 (Gn4 (l.take x))):=by
 refine CtP.of D34 rfl fun h r=>Tr.eq (Hf7 ..) ?_;refine Je ?_
 have e:(l.take x).length=x:=by rw [List.length_take];omega
 have J:=H60 p a ro n c d l x hx hl _ 0 (IntKind.wrap .u8 x) rfl (by omega)
 rw [List.drop_zero] at J
 refine Z9 J (r:=r) (by simp) fun o=>⟨?_,rfl⟩
 unfold Gn4;rw [e]
def Du8:Nat→List UInt8→Int
 | _,[]=>-1
 | i,x::l=>if x≠0 then i else Du8 (i+1) l
theorem Gq0:∀ (l:List UInt8) (i:Nat),decide (Du8 i l≥0)=!l.all (·==0)
 | [],i=>by simp [Du8]
 | x::l,i=>by
  unfold Du8
  by_cases h:x=0
  ·rw [if_neg (by simp [h]),Gq0 l (i+1)];simp [h]
  ·rw [if_pos h];simp [h]
theorem Ir5 (x:UInt8):CtP B2 Ae9 [.int .u8 x.toNat] [] (.bool (x != 0)):=by
 refine CtP.of Gd0 rfl fun h r=>Tr.eq (Ge9 ..) ?_;refine Je ?_
 refine Ys fun o=>?_
 refine ⟨?_,rfl⟩
 congr 1
 have:((x.toNat:Int)=0)↔x=0:=by
  constructor
  ·intro h;exact UInt8.toNat.inj (by simpa using (show x.toNat=0 by omega))
  ·rintro rfl;rfl
 by_cases h:x=0
 ·subst h;rfl
 ·rw [bne_iff_ne.2 h,bne_iff_ne];intro h2;exact h (this.1 h2)
theorem E55 (p:HP) (a:Option Addr) (ro:Bool) (c:Nat) (l:List UInt8) [ks:IsSl p a ro A7 1 l.length c (A5 l)] (hl:l.length≤B4):∀ (m i:Nat),l.length-i=m→i≤l.length →
  V4 I2 G2 Q2 [(0,.slice a l.length c),(1,.func (.func Ae9) ⟨[]⟩ ⟨[]⟩),(7,int l.length),(8,int i)] [p] (int (Du8 i (l.drop i))):=by
 intro m
 induction m with
 | zero =>
  intro i hm hi
  refine V4.of Af9 fun h r=>Tr.eq (Ar7 ..) ?_;refine Je ?_
  refine Yf (by simp;omega) ?_
  refine Ys fun o=>?_
  rw [List.drop_eq_nil_of_le (by omega)];exact ⟨rfl,rfl⟩
 | succ m ih =>
  intro i hm hi
  have hlt:i<l.length:=by omega
  have hp:l[i]?=some l[i]:=List.getElem?_eq_getElem hlt
  have hd:l.drop i=l[i]::l.drop (i+1):=List.drop_eq_getElem_cons hlt
  generalize l[i]=x at hp hd
  have e1:IntKind.wrap .i64 ((i:Int)+1)=((i+1:Nat):Int):=by rw [B3];simp only [B4] at hl;omega
  refine V4.of Af9 fun h r=>Tr.eq (Ar7 ..) ?_;refine Je ?_
  refine Yt (by simp;omega) ?_
  (refine Ja ?_;unhygienic intros;repeat(refine Gw ?_;rintro px rfl;refine Ja ?_;unhygienic intros))
  refine Tr.xIntS (v:=x.toNat) (by simpa using D49 hp) ?_
  (refine Ja ?_;unhygienic intros)
  refine Bw8 (Ir5 x) (r:=p::r) (by simp) ?_
  by_cases hx:x=0
  ·have:(x != 0)=false:=by simp [hx]
   rw [this]
   (refine Ja ?_;unhygienic intros)
   rw [e1]
   refine Z9 (ih (i+1) (by omega) (by omega)) (r:=r) (by simp) fun o=>?_
   rw [hd,Du8,if_neg (by simp [hx])];exact ⟨by first|rfl|trivial,by first|rfl|trivial⟩
  ·have:(x != 0)=true:=by simp [hx]
   rw [this]
   (refine Ja ?_;unhygienic intros)
   refine Ys fun o=>?_
   rw [hd,Du8,if_pos hx];exact ⟨by first|rfl|trivial,by first|rfl|trivial⟩
theorem Ic2 (p:HP) (a:Option Addr) (ro:Bool) (c:Nat) (l:List UInt8) [ks:IsSl p a ro A7 1 l.length c (A5 l)] (hl:l.length≤B4) :
  CtP B2 Am1 [.slice a l.length c] [p] (.bool (l.all (·==0))):=by
 have j:CtP B2 G2 [.slice a l.length c,.func (.func Ae9) ⟨[]⟩ ⟨[]⟩] [p] (int (Du8 0 l)):=by
  refine CtP.of Af9 rfl fun h r=>Tr.eq (B21 ..) ?_;refine Je ?_
  exact Z9 (E55 p a ro c l hl _ 0 rfl (by omega)) (r:=r) (by simp) fun o=>⟨rfl,rfl⟩
 have j2:CtP B2 Q3 [.slice a l.length c,.func (.func Ae9) ⟨[]⟩ ⟨[]⟩] [p] (.bool (!l.all (·==0))):=by
  refine CtP.of Bq9 rfl fun h r=>Tr.eq (Bp9 ..) ?_;refine Je ?_
  refine Bw8 j (r:=r) (by simp) ?_
  (refine Ja ?_;unhygienic intros)
  refine Ys fun o=>?_
  rw [Gq0];exact ⟨by first|rfl|trivial,by first|rfl|trivial⟩
 refine CtP.of Gv6 rfl fun h r=>Tr.eq (Gu7 ..) ?_;refine Je ?_
 refine Bw8 j2 (r:=r) (by simp) ?_
 (refine Ja ?_;unhygienic intros)
 refine Ys fun o=>?_
 exact ⟨by simp,rfl⟩
theorem G55 (p q:HP) (a:Option Addr) (ro:Bool) (c:Nat) (a2:Option Addr) (ro2:Bool) (c2:Nat) (l m:List UInt8) [ks:IsSl p a ro A7 1 l.length c (A5 l)] [ks2:IsSl q a2 ro2 A7 1 m.length c2 (A5 m)] (hl:l.length≤B4) (hlm:m.length=l.length):∀ (k i:Nat),l.length-i=k→i≤l.length →
  V4 I2 D4 W4 [(0,.slice a l.length c),(1,.slice a2 m.length c2),(12,int l.length),(13,int i)] [p,q] (.bool (decide (l.drop i=m.drop i))):=by
 intro k
 induction k with
 | zero =>
  intro i hm hi
  refine V4.of Am5 fun h r=>Tr.eq (A21 ..) ?_;refine Je ?_
  refine Yf (by simp;omega) ?_
  refine Ys fun o=>?_
  rw [List.drop_eq_nil_of_le (by omega),List.drop_eq_nil_of_le (by omega)];exact ⟨rfl,rfl⟩
 | succ k ih =>
  intro i hm hi
  have hlt:i<l.length:=by omega
  have hp:l[i]?=some l[i]:=List.getElem?_eq_getElem hlt
  have hd:l.drop i=l[i]::l.drop (i+1):=List.drop_eq_getElem_cons hlt
  have hlt2:i<m.length:=by omega
  have hp2:m[i]?=some m[i]:=List.getElem?_eq_getElem hlt2
  have hd2:m.drop i=m[i]::m.drop (i+1):=List.drop_eq_getElem_cons hlt2
  generalize l[i]=x at hp hd
  generalize m[i]=y at hp2 hd2
  have e1:IntKind.wrap .i64 ((i:Int)+1)=((i+1:Nat):Int):=by rw [B3];simp only [B4] at hl;omega
  refine V4.of Am5 fun h r=>Tr.eq (A21 ..) ?_;refine Je ?_
  refine Yt (by simp;omega) ?_
  (refine Ja ?_;unhygienic intros;repeat(refine Gw ?_;rintro px rfl;refine Ja ?_;unhygienic intros))
  refine Tr.xIntS (v:=x.toNat) (by simpa using D49 hp) ?_
  (refine Ja ?_;unhygienic intros;repeat(refine Gw ?_;rintro px rfl;refine Ja ?_;unhygienic intros))
  refine Tr.xIntS (v:=y.toNat) (by simpa using D49 hp2) ?_
  by_cases hx:x=y
  ·subst hx
   refine Yf (by simp) ?_
   rw [e1]
   refine Z9 (ih (i+1) (by omega) (by omega)) (r:=r) (by simp) fun o=>?_
   rw [hd,hd2];exact ⟨by simp,rfl⟩
  ·refine Yt (by rw [bne_iff_ne];intro h2;exact hx (UInt8.toNat.inj (by omega))) ?_
   refine Ys fun o=>?_
   rw [hd,hd2];exact ⟨by simp [hx],rfl⟩
theorem Es1 (p q:HP) (a:Option Addr) (ro:Bool) (c:Nat) (a2:Option Addr) (ro2:Bool) (c2:Nat) (l m:List UInt8) [ks:IsSl p a ro A7 1 l.length c (A5 l)] [ks2:IsSl q a2 ro2 A7 1 m.length c2 (A5 m)] (hl:l.length≤B4) :
  CtP B2 D4 [.slice a l.length c,.slice a2 m.length c2] [p,q] (.bool (decide (l=m))):=by
 refine CtP.of Am5 rfl fun h r=>Tr.eq (Df3 ..) ?_;refine Je ?_
 by_cases h:m.length=l.length
 ·refine Yf (by simp [h]) ?_
  have J:=G55 p q a ro c a2 ro2 c2 l m hl h _ 0 rfl (by omega)
  simp only [List.drop_zero] at J
  exact Z9 J (r:=r) (by simp) fun o=>⟨rfl,rfl⟩
 ·refine Yt (by rw [bne_iff_ne];omega) ?_
  refine Ys fun o=>?_
  exact ⟨by rw [decide_eq_false (fun e=>h (by rw [e]))],rfl⟩
theorem H51 (p:HP) (ro:Bool) (a:Option Addr) (c:Nat) (l:List UInt8) [ks:IsSl p a ro A7 1 l.length c (A5 l)] (hn:l.length≤B4) :
  Ct B2 G7 [.slice a l.length c] [p] fun v own=>∃ a' c',v=.slice a' l.length c'∧own [slC false A7 1 a' l.length c' (A5 l),p]:=by
 refine Ct.of Bd2 rfl fun h r=>Tr.eq (Bc4 ..) ?_;refine Je ?_
 refine U6 0 rfl fun hl hc _=>?_
 refine Tr.cond (fun hb=>?_) fun hb=>?_
 ·obtain rfl:a=none:=by simpa using hb
  refine H1 false A7 1 (by omega) ?_
  intro o
  have o1:=(o.tail.head ks.en).slNone
  obtain rfl:l=[]:=by
   have:=o1.2.2.1
   cases l with
   | nil=>rfl
   | cons x l=>simp [A5] at this
  obtain rfl:c=0:=o1.2.1
  exact ⟨_,_,rfl,none,0,rfl,o⟩
 ·(refine Ja ?_;unhygienic intros)
  refine Aa8 0 rfl 1 0 rfl (by omega) ?_;refine Je ?_
  (refine Ja ?_;unhygienic intros)
  refine Tr.xApd ⟨by simp [A5],by simp [A5,Value.oneCell],by omega⟩ fun a' c' h'=>?_
  refine Je ?_
  refine Ys fun o=>⟨a',c',by simp,by simpa using o⟩
end Go.EQ
namespace Go.NN
section
variable {l:List HP} {h:H} {α:Type} {Q:α→H→Prop} {ro:Bool} {e:TypeId} {cs:List Value}
instance {f:Fn} {a c:Array Value} {k:Option α}:Dx (one (.func f a c) k) k:=⟨rfl⟩
theorem Tr.xPCells {a:Option Addr} {n c sz:Nat} {vs cs':List Value} {l':List HP} {k:H→Option (α × H)} [k1:LkO l a false e sz n c cs] (hn:0<n) (hj:vs≠[]∧vs.length≤cs.length∧vs.all Value.oneCell=true∧vs++cs.drop vs.length=cs') [k2:UpO l a (slC false e sz a n c cs') e sz n c cs l'] (t:∀ h',Tr l' h' (k h') Q):Tr l h (NN.pCells a vs h k) Q:=fun ow=>by
 obtain ⟨i,p,hi,hp⟩:=k1.ix
 obtain ⟨y,rfl⟩:=((ow.front hi).head hp).slSome hn
 have:NN.pCells (Option.some y) vs h k=NN.pAgg ((B5 y).add 0) vs h k:=by
  show NN.pAgg (B5 y) vs h k=_
  congr 1
 rw [this]
 exact Tr.xPAggS (k1:=k1) ⟨hj.1,by omega,hj.2.2.1,by simpa using hj.2.2.2⟩ (k2:=k2) t ow
end
end Go.NN

set_option maxRecDepth 10000
namespace Go.EQ
open Go Go.NN
def b8 (x:Int):UInt8:=UInt8.ofNat (x%256).toNat
theorem Dj3 (x:Int):IntKind.wrap .u8 x=x%256:=H90 x
theorem Bh5 (x:Int):IntKind.wrap .u8 x=((b8 x).toNat:Int):=by
 rw [Dj3,b8,UInt8.toNat_ofNat']
 omega
def Bu2 (l:List UInt8):UInt8:=b8 (Gn4 l)
theorem G39:∀ (l:List UInt8) (n:Int),0≤n∧n<256→0≤Ed1 n l∧Ed1 n l<256
 | [],n,h=>h
 | x::l,n,h=>G39 l _ (by show 0≤IntKind.wrap .u8 (n+x.toNat)∧IntKind.wrap .u8 (n+x.toNat)<256;rw [Dj3];omega)
theorem Dp1 (l:List UInt8):Gn4 l=((Bu2 l).toNat:Int):=by
 have:=G39 l (IntKind.wrap .u8 l.length) (by rw [Dj3];omega)
 unfold Bu2
 rw [← Bh5,Dj3]
 unfold Gn4 at *;omega
structure FileS where
 kind:Int
 pipe:Int
 refs:Int
 flags:Int
abbrev FileS.zero:FileS:=⟨0,0,0,0⟩
abbrev Af4 (f:FileS):List Value:=[int f.kind,int f.pipe,int f.refs,int f.flags]
def okF (f:FileS):Bool:=decide (f.kind≥1) && decide (f.kind≤3) && decide (f.pipe≥0) && decide (f.pipe≤7) && (f.kind != 3 || f.pipe==0) && decide (f.refs≥1) && decide (f.refs≤64) && (f.flags==0 || f.flags==1)
def Ba6 (f:FileS):List UInt8:=[b8 f.kind,b8 f.pipe,b8 f.refs,b8 f.flags,179]
def Aj0 (f:FileS):List UInt8:=Ba6 f++[Bu2 (Ba6 f),0,0]
theorem In9 (f:FileS):Ct B2 Dl6 [.agg ⟨Af4 f⟩] [] fun v own=>v=.bool (okF f)∧own []:=by
 refine Ct.of Hw6 rfl fun h r=>Tr.eq (Hs9 ..) ?_;refine Je ?_
 (refine Ja ?_;unhygienic intros)
 refine Ys fun o=>?_
 refine ⟨?_,o.sub⟩
 rfl
theorem Ih5 (a:Option Addr) (c:Nat) (f:FileS):Ct B2 As0 [.agg ⟨Af4 f⟩,.slice a 8 c] [slC false A7 1 a 8 c (A5 (List.replicate 8 0))] fun v own=>v=.bool (okF f)∧own [slC false A7 1 a 8 c (A5 (if okF f then Aj0 f else List.replicate 8 0))]:=by
 refine Ct.of Hk2 rfl fun h r=>Tr.eq (Hi5 ..) ?_;refine Je ?_
 (refine Ja ?_;unhygienic intros)
 refine Yc (In9 f) ?_;rintro _ h ⟨rfl,o⟩<;>(refine Jf o ?_;unhygienic intros)
 cases hk:okF f with
 | false =>
  (refine Ja ?_;unhygienic intros)
  refine Ys fun o=>?_
  rw [if_neg (by simp)]
  exact ⟨rfl,o.sub⟩
 | true =>
  (refine Ja ?_;unhygienic intros)
  simp only [Bh5,List.drop_zero,List.take]
  refine U6 2 rfl fun hl hc _=>?_
  refine Tr.xPCells (cs':=A5 (Ba6 f++[0,0,0])) (by omega) ⟨by simp,by simp [A5],by simp [Value.oneCell],rfl⟩ fun h=>?_
  (refine Ja ?_;unhygienic intros)
  refine Tr.pcall (Gi3 (slC false A7 1 a 8 c (A5 (Ba6 f++[0,0,0]))) a false 8 c c (Ba6 f++[0,0,0]) 5 (by simp [Ba6]) (by simp [Ba6,B4])) ?_
  refine Je ?_
  (refine Ja ?_;unhygienic intros;repeat(refine Gw ?_;rintro px rfl;refine Ja ?_;unhygienic intros))
  rw [show List.take 5 (Ba6 f++[0,0,0]:List UInt8)=Ba6 f from rfl,Dp1]
  refine Tr.xVS (cs':=A5 (Aj0 f)) ⟨by simp [A5,Ba6],rfl,rfl⟩ fun h=>?_
  refine Ys fun o=>?_
  simp only [if_true]
  exact ⟨trivial,o.sub⟩
theorem Dv8 {l:List Value} (h:l.all (fun v=>match v with|.int _ _=>true|_=>false)=true):Ap3 (.agg ⟨l⟩) (.agg ⟨l⟩)=true:=by
 show Br6 l l=true
 induction l with
 | nil=>rfl
 | cons v l ih =>
  simp only [List.all_cons,Bool.and_eq_true] at h
  show (A31 v v && Br6 l l)=true
  rw [ih h.2,Bool.and_true]
  cases v<;>first|(simp [A31];done)|exact absurd h.1 (by simp)
abbrev G68 (k:Nat):HP:=pt k (.cells Ak2 false [int 8,.func (.func As0) ⟨[]⟩ ⟨[]⟩,.func (.func Ar9) ⟨[]⟩ ⟨[]⟩])
theorem Hf6 (k:Nat) (f:FileS):Ct B2 W2 [P0 k,.agg ⟨Af4 f⟩] [G68 k] fun v own=>(okF f=true∧∃ a,v=.tuple ⟨[.slice a 8 8,.bool true]⟩∧own [G68 k,slC false A7 1 a 8 8 (A5 (Aj0 f))])∨(okF f=false∧v=.tuple ⟨[.slice none 0 0,.bool false]⟩∧own [G68 k]):=by
 refine Ct.of B44 rfl fun h r=>Tr.eq (B38 ..) ?_;refine Je ?_
 (refine Ja ?_;unhygienic intros)
 refine Tr.ck ⟨by omega,by omega,by simp [B4]⟩ ?_
 refine Yn fun b1 h=>?_
 rw [show H4 (Int.toNat 8) [.int .u8 0]=A5 (List.replicate 8 0) from rfl]
 refine Aa8 0 rfl 1 8 rfl (by omega) ?_
 simp only [List.set_cons_zero]
 refine Je ?_
 (refine Jb ?_;unhygienic intros)
 refine Yb (Yf rfl ?_)
 (refine Jb ?_;unhygienic intros)
 refine Yc (Ih5 (some ⟨b1,0,none⟩) 8 f) ?_;rintro _ h ⟨rfl,o⟩<;>(refine Jg o ?_;unhygienic intros)
 refine Ys fun o=>(?_:Tr _ _ _ _) o;refine Je ?_
 cases hk:okF f with
 | false =>
  (refine Ja ?_;unhygienic intros)
  refine Ys fun o=>?_
  exact .inr ⟨rfl,rfl,o.sub⟩
 | true =>
  (refine Ja ?_;unhygienic intros)
  refine Ys fun o=>?_
  simp only [if_true] at o
  exact .inl ⟨rfl,_,rfl,o.sub⟩
theorem Ij5:Ct B2 Aq2 [int 8,.func (.func As0) ⟨[]⟩ ⟨[]⟩,.func (.func Ar9) ⟨[]⟩ ⟨[]⟩] [] fun v own=>∃ k,v=P0 k∧own [pt k (.cells Ak2 false [int 8,.func (.func As0) ⟨[]⟩ ⟨[]⟩,.func (.func Ar9) ⟨[]⟩ ⟨[]⟩])]:=by
 refine Ct.of Ed7 rfl fun h r=>Tr.eq (Ee8 ..) ?_;refine Je ?_
 rw [show mm2 false (mm2 true 8 0) 64=8 from rfl]
 (refine Ja ?_;unhygienic intros)
 refine Ys fun o=>?_
 exact ⟨_,rfl,o.sub⟩
theorem Gq7:Ct B2 Bb5 [] [] fun v own=>∃ k,v=P0 k∧own [pt k (.cells Ak2 false [int 8,.func (.func As0) ⟨[]⟩ ⟨[]⟩,.func (.func Ar9) ⟨[]⟩ ⟨[]⟩])]:=by
 refine Ct.of Gu2 rfl fun h r=>Tr.eq (Gw5 ..) ?_;refine Je ?_
 refine Yc (Ij5) ?_;rintro _ h ⟨k,rfl,o⟩<;>(refine Jf o ?_;unhygienic intros)
 refine Ys fun o=>?_
 exact ⟨_,rfl,o.sub⟩
theorem Gg3 (f:FileS):Ct B2 A62 [.agg ⟨Af4 f⟩] [] fun v own=>(okF f=true∧∃ a,v=.tuple ⟨[.slice a 8 8,.bool true]⟩∧own [slC false A7 1 a 8 8 (A5 (Aj0 f))])∨(okF f=false∧v=.tuple ⟨[.slice none 0 0,.bool false]⟩∧own []):=by
 refine Ct.of Gl4 rfl fun h r=>Tr.eq (Gm4 ..) ?_;refine Je ?_
 (refine Ja ?_;unhygienic intros)
 refine Yc (Gq7) ?_;rintro _ h ⟨k,rfl,o⟩<;>(refine Jf o ?_;unhygienic intros)
 refine Tr.same (Dv8 rfl) ?_
 refine Yc (Hf6 k f) ?_
 rintro v h (⟨hk,a,rfl,o⟩|⟨hk,rfl,o⟩)
 ·refine (?_:Tr _ _ _ _) o
  refine Je ?_
  (refine Ja ?_;unhygienic intros)
  refine Ys fun o=>?_
  exact .inl ⟨hk,a,rfl,o.sub⟩
 ·refine (?_:Tr _ _ _ _) o
  refine Je ?_
  (refine Ja ?_;unhygienic intros)
  refine Ys fun o=>?_
  exact .inr ⟨hk,rfl,o.sub⟩
theorem Ae0 {l:List UInt8} {i:Nat} (h:i<l.length):(A5 l)[i]?=some (.int .u8 ((l.getD i 0).toNat:Int)):=by
 rw [List.getD_eq_getElem?_getD,List.getElem?_eq_getElem h];exact D49 (List.getElem?_eq_getElem h)
theorem An3 (x:UInt8):IntKind.wrap .i64 (x.toNat:Int)=(x.toNat:Int):=by
 have:=x.toNat_lt;rw [B3];omega
abbrev byI (l:List UInt8) (i:Nat):Int:=((l.getD i 0).toNat:Int)
def B81 (l:List UInt8):FileS:=⟨byI l 0,byI l 1,byI l 2,byI l 3⟩
def isF (l:List UInt8):Bool:=okF (B81 l) && decide (Aj0 (B81 l)=l)
theorem Ik3 (a:Option Addr) (c:Nat) (l:List UInt8) (hl:l.length=8):Ct B2 Ar9 [.slice a 8 c] [slC false A7 1 a 8 c (A5 l)] fun v own=>v=.tuple ⟨[.agg ⟨Af4 (B81 l)⟩,.bool (isF l)]⟩∧own [slC false A7 1 a 8 c (A5 l)]:=by
 have key:∀ a1:Option Addr,CtP B2 D4 [.slice a1 8 8,.slice a 8 c] [slC false A7 1 a1 8 8 (A5 (Aj0 (B81 l))),slC false A7 1 a 8 c (A5 l)] (.bool (decide (Aj0 (B81 l)=l))):=fun a1=>by
  have J:=Es1 (slC false A7 1 a1 8 8 (A5 (Aj0 (B81 l)))) (slC false A7 1 a l.length c (A5 l)) a1 false 8 a false c (Aj0 (B81 l)) l (by simp [Aj0,Ba6,B4])
  rwa [hl,show (Aj0 (B81 l)).length=8 from rfl] at J
 refine Ct.of Hd9 rfl fun h r=>Tr.eq (Hh9 ..) ?_;refine Je ?_
 refine Yn fun b1 h=>?_
 (refine Ja ?_;unhygienic intros;repeat(refine Gw ?_;rintro px rfl;refine Ja ?_;unhygienic intros))
 refine Tr.xIntS (v:=byI l 0) (Ae0 (by omega)) ?_
 (refine Ja ?_;unhygienic intros)
 refine Tr.xIntS (v:=byI l 1) (Ae0 (by omega)) ?_
 (refine Ja ?_;unhygienic intros)
 refine Tr.xIntS (v:=byI l 2) (Ae0 (by omega)) ?_
 (refine Ja ?_;unhygienic intros)
 refine Tr.xIntS (v:=byI l 3) (Ae0 (by omega)) ?_
 simp only [byI,An3]
 refine Yn fun b2 h=>?_
 (refine Jb ?_;unhygienic intros)
 refine Yc (Gg3 (B81 l)) ?_
 rintro v h (⟨hk,a1,rfl,o⟩|⟨hk,rfl,o⟩)
 ·refine (?_:Tr _ _ _ _) o
  refine Je ?_
  (refine Jb ?_;unhygienic intros)
  refine Yb (Yt rfl ?_)
  refine Tr.pcall (key a1) ?_;refine Je ?_;(refine Jb ?_;unhygienic intros)
  refine Tr.same (Dv8 rfl) ?_
  refine Ys fun o=>(?_:Tr _ _ _ _) o;refine Je ?_
  (refine Ja ?_;unhygienic intros)
  refine Ys fun o=>?_
  exact ⟨by unfold isF;rw [hk,Bool.true_and];rfl,o.sub⟩
 ·refine (?_:Tr _ _ _ _) o
  refine Je ?_
  (refine Ja ?_;unhygienic intros)
  refine Ys fun o=>?_
  exact ⟨by unfold isF;rw [hk];rfl,o.sub⟩
theorem Es0 (n:Nat) (a:Option Addr) (c:Nat) (l:List UInt8) (hl:l.length=n) (hn:n≤B4):Ct B2 G7 [.slice a n c] [slC false A7 1 a n c (A5 l)] fun v own=>∃ a' c',v=.slice a' n c'∧own [slC false A7 1 a' n c' (A5 l),slC false A7 1 a n c (A5 l)]:=by
 subst hl;exact H51 (slC false A7 1 a l.length c (A5 l)) false a c l hn
theorem Em2 (n:Nat) (a:Option Addr) (c:Nat) (l:List UInt8) (hl:l.length=n) (hn:n≤B4):CtP B2 Am1 [.slice a n c] [slC false A7 1 a n c (A5 l)] (.bool (l.all (·==0))):=by
 subst hl;exact Ic2 (slC false A7 1 a l.length c (A5 l)) a false c l hn
theorem Hk3 (k:Nat) (a:Option Addr) (c:Nat) (l:List UInt8) (hl:l.length=8):Ct B2 W1 [P0 k,.slice a 8 c] [G68 k,slC false A7 1 a 8 c (A5 l)] fun v own=>v=.tuple ⟨[.agg ⟨Af4 (if isF l then B81 l else .zero)⟩,.bool (isF l)]⟩∧own [G68 k,slC false A7 1 a 8 c (A5 l)]:=by
 refine Ct.of B45 rfl fun h r=>Tr.eq (B42 ..) ?_;refine Je ?_
 (refine Ja ?_;unhygienic intros)
 refine Yf rfl ?_
 (refine Jb ?_;unhygienic intros)
 refine Yc (Es0 8 a c l hl (by simp [B4])) ?_;rintro _ h ⟨a1,c1,rfl,o⟩<;>(refine Jg o ?_;unhygienic intros)
 refine Yc (Ik3 a1 c1 l hl) ?_;rintro _ h ⟨rfl,o⟩<;>(refine Jg o ?_;unhygienic intros)
 cases hk:isF l with
 | false =>
  (refine Ja ?_;unhygienic intros)
  refine Ys fun o=>?_
  exact ⟨rfl,o.sub⟩
 | true =>
  (refine Ja ?_;unhygienic intros)
  refine Ys fun o=>?_
  exact ⟨rfl,o.sub⟩
def Aa9 (l:List UInt8):FileS × Int:=if l.all (·==0) then (.zero,0) else if isF l then (B81 l,1) else (.zero,2)
theorem Hs1 (a:Option Addr) (c:Nat) (l:List UInt8) (hl:l.length=8):Ct B2 A57 [.slice a 8 c] [slC false A7 1 a 8 c (A5 l)] fun v own=>v=.tuple ⟨[.agg ⟨Af4 (Aa9 l).1⟩,int (Aa9 l).2]⟩∧own [slC false A7 1 a 8 c (A5 l)]:=by
 refine Ct.of Gk4 rfl fun h r=>Tr.eq (Gj9 ..) ?_;refine Je ?_
 refine Yn fun b1 h=>?_
 refine Yb (Yt rfl ?_)
 refine Tr.pcall (Em2 8 a c l hl (by simp [B4])) ?_;refine Je ?_;(refine Jb ?_;unhygienic intros)
 refine Ys fun o=>(?_:Tr _ _ _ _) o;refine Je ?_
 cases hb:l.all (·==0) with
 | true =>
  (refine Ja ?_;unhygienic intros)
  refine Ys fun o=>?_
  exact ⟨by unfold Aa9;rw [hb];rfl,o.sub⟩
 | false =>
  (refine Jb ?_;unhygienic intros)
  refine Yc (Gq7) ?_;rintro _ h ⟨k,rfl,o⟩<;>(refine Jg o ?_;unhygienic intros)
  refine Yc (Hk3 k a c l hl) ?_;rintro _ h ⟨rfl,o⟩<;>(refine Jg o ?_;unhygienic intros)
  cases hk:isF l with
  | false =>
   (refine Ja ?_;unhygienic intros)
   refine Ys fun o=>?_
   exact ⟨by unfold Aa9;rw [hb,hk];rfl,o.sub⟩
  | true =>
   (refine Ja ?_;unhygienic intros)
   refine Ys fun o=>?_
   exact ⟨by unfold Aa9;rw [hb,hk];rfl,o.sub⟩
structure PipeS where
 head:Int
 count:Int
 readers:Int
 writers:Int
 data:List UInt8
 len:data.length=32
abbrev PipeS.zero:PipeS:=⟨0,0,0,0,List.replicate 32 0,rfl⟩
abbrev E3 (p:PipeS):List Value:=int p.head::int p.count::int p.readers::int p.writers::A5 p.data
theorem Ad2 {p:PipeS} (hd:p.data.length=32):(E3 p).length=36:=by simp [E3,U9,hd]
theorem Hw5 {p:PipeS} (hd:p.data.length=32):4+32≤(E3 p).length∧((E3 p).drop 4).take 32=A5 p.data:=⟨by rw [Ad2 hd];exact Nat.le_refl _,by
 rw [show (E3 p).drop 4=A5 p.data from rfl,List.take_of_length_le (by rw [U9,hd];exact Nat.le_refl _)]⟩
theorem Gs7 (p:PipeS):(E3 p).all Value.oneCell=true:=by simp [E3,Ag6,Value.oneCell]
theorem Hp9 (p:PipeS):Ap3 (.agg ⟨E3 p⟩) (.agg ⟨E3 p⟩)=true:=Dv8 (by simp [E3,A5])
instance {p:PipeS}:LenC (E3 p) 36:=⟨Ad2 p.len⟩
instance {p:PipeS}:PartC (E3 p) 0 36 (E3 p):=⟨Dc2 (Ad2 p.len)⟩
instance {p:PipeS} {cs:List Value} [k:LenC cs 36]:SetsC cs 0 (E3 p) (E3 p):=⟨Bk0 k.ok (Ad2 p.len) (Gs7 p)⟩
instance {p:PipeS}:SameC (.agg ⟨E3 p⟩):=⟨Hp9 p⟩
def okP (p:PipeS):Bool:=decide (0≤p.head∧p.head≤31) && decide (0≤p.count∧p.count≤32) && decide (0≤p.readers∧p.readers≤8) && decide (0≤p.writers∧p.writers≤8)
def Ai0 (p:PipeS):List UInt8:=[1,b8 p.head,b8 p.count,b8 p.readers,b8 p.writers,197]
def I8 (p:PipeS):List UInt8:=Ai0 p++Bu2 (Ai0 p)::0::p.data
theorem A07 {p:PipeS} (hd:p.data.length=32):(I8 p).length=40:=by simp [I8,Ai0,hd]
theorem Ip9 (n m:Int):CtP B2 As2 [int n,int m] [] (.bool (decide (0≤n∧n≤m))):=by
 refine CtP.of Hh2 rfl fun h r=>Tr.eq (He0 ..) ?_;refine Je ?_
 (refine Ja ?_;unhygienic intros)
 refine Ys fun o=>?_
 refine ⟨?_,rfl⟩
 refine congrArg Value.bool ?_;rw [Bool.eq_iff_iff];simp only [Bool.and_eq_true,Bool.or_eq_true,Bool.not_eq_true',Bool.not_eq_false',decide_eq_true_eq,decide_eq_false_iff_not,bne_iff_ne,beq_iff_eq,ne_eq,B3,V6,Aa7,ge_iff_le,gt_iff_lt];first|done|omega
instance {n m:Int} {l:List HP}:PCi B2 As2 [.int .i64 n,.int .i64 m] l (.bool (decide (0≤n∧n≤m))):=PCi.of (Ip9 n m)
theorem G57 (p:PipeS):Ct B2 Bx1 [.agg ⟨E3 p⟩] [] fun v own=>v=.bool (okP p)∧own []:=by
 refine Ct.of H58 rfl fun h r=>Tr.eq (Hy6 ..) ?_;refine Je ?_
 (refine Ja ?_;unhygienic intros)
 refine Ys fun o=>?_
 exact ⟨rfl,o.sub⟩
theorem Ij2 (a:Option Addr) (c:Nat) (p:PipeS):Ct B2 Bk3 [.agg ⟨E3 p⟩,.slice a 40 c] [slC false A7 1 a 40 c (A5 (List.replicate 40 0))] fun v own=>v=.bool (okP p)∧own [slC false A7 1 a 40 c (A5 (if okP p then I8 p else List.replicate 40 0))]:=by
 have hd:=p.len
 refine Ct.of Hr8 rfl fun h r=>Tr.eq (Ho7 ..) ?_;refine Je ?_
 refine Yn fun b1 h=>?_
 (refine Ja ?_;unhygienic intros)
 refine Yc (G57 p) ?_;rintro _ h ⟨rfl,o⟩<;>(refine Jg o ?_;unhygienic intros)
 cases hk:okP p with
 | false =>
  (refine Ja ?_;unhygienic intros)
  refine Ys fun o=>?_
  rw [if_neg (by simp)]
  exact ⟨rfl,o.sub⟩
 | true =>
  (refine Ja ?_;unhygienic intros)
  simp only [Bh5,List.drop_zero,List.take]
  refine U6 2 rfl fun hl hc _=>?_
  refine Tr.xPCells (cs':=A5 (Ai0 p++List.replicate 34 0)) (by omega) ⟨by simp,by simp [A5],by simp [Value.oneCell],rfl⟩ fun h=>?_
  (refine Ja ?_;unhygienic intros)
  refine Tr.pcall (Gi3 (slC false A7 1 a 40 c (A5 (Ai0 p++List.replicate 34 0))) a false 40 c c (Ai0 p++List.replicate 34 0) 6 (by simp [Ai0]) (by simp [Ai0,B4])) ?_
  refine Je ?_
  (refine Ja ?_;unhygienic intros;repeat(refine Gw ?_;rintro px rfl;refine Ja ?_;unhygienic intros))
  rw [show List.take 6 (Ai0 p++List.replicate 34 0:List UInt8)=Ai0 p from rfl,Dp1]
  refine Tr.xVS (cs':=A5 (Ai0 p++Bu2 (Ai0 p)::List.replicate 33 0)) ⟨by simp [A5,Ai0],rfl,rfl⟩ fun h=>?_
  (refine Ja ?_;unhygienic intros)
  refine Tr.xCellsB (xs:=A5 p.data) (Hw5 p.len) ?_
  rw [Gk8 (by omega),El2]
  refine Tr.xPAggS (cs':=A5 (I8 p)) ⟨?_,?_,Ag6 _,?_⟩ fun h=>?_
  ·intro e;have:=congrArg List.length e;simp [A5,hd] at this
  ·simp [A5,hd,Ai0]
  ·rw [U9,hd]
   simp [A5,I8,Ai0]
  refine Ys fun o=>?_
  simp only [if_true]
  exact ⟨trivial,o.sub⟩
abbrev E86 (k:Nat):HP:=pt k (.cells Bp0 false [int 40,.func (.func Bk3) ⟨[]⟩ ⟨[]⟩,.func (.func Bk7) ⟨[]⟩ ⟨[]⟩])
theorem Hl2 (k:Nat) (f:PipeS):Ct B2 V8 [P0 k,.agg ⟨E3 f⟩] [E86 k] fun v own=>(okP f=true∧∃ a,v=.tuple ⟨[.slice a 40 40,.bool true]⟩∧own [E86 k,slC false A7 1 a 40 40 (A5 (I8 f))])∨(okP f=false∧v=.tuple ⟨[.slice none 0 0,.bool false]⟩∧own [E86 k]):=by
 refine Ct.of B46 rfl fun h r=>Tr.eq (B36 ..) ?_;refine Je ?_
 (refine Ja ?_;unhygienic intros)
 refine Tr.ck ⟨by omega,by omega,by simp [B4]⟩ ?_
 refine Yn fun b1 h=>?_
 rw [show H4 (Int.toNat 40) [.int .u8 0]=A5 (List.replicate 40 0) from rfl]
 refine Aa8 0 rfl 1 40 rfl (by omega) ?_
 simp only [List.set_cons_zero]
 refine Je ?_
 (refine Jb ?_;unhygienic intros)
 refine Yb (Yf rfl ?_)
 (refine Jb ?_;unhygienic intros)
 refine Yc (Ij2 (some ⟨b1,0,none⟩) 40 f) ?_;rintro _ h ⟨rfl,o⟩<;>(refine Jg o ?_;unhygienic intros)
 refine Ys fun o=>(?_:Tr _ _ _ _) o;refine Je ?_
 cases hk:okP f with
 | false =>
  (refine Ja ?_;unhygienic intros)
  refine Ys fun o=>?_
  exact .inr ⟨rfl,rfl,o.sub⟩
 | true =>
  (refine Ja ?_;unhygienic intros)
  refine Ys fun o=>?_
  simp only [if_true] at o
  exact .inl ⟨rfl,_,rfl,o.sub⟩
theorem Il5:Ct B2 An6 [int 40,.func (.func Bk3) ⟨[]⟩ ⟨[]⟩,.func (.func Bk7) ⟨[]⟩ ⟨[]⟩] [] fun v own=>∃ k,v=P0 k∧own [E86 k]:=by
 refine Ct.of Ee3 rfl fun h r=>Tr.eq (Ec3 ..) ?_;refine Je ?_
 rw [show mm2 false (mm2 true 40 0) 64=40 from rfl]
 (refine Ja ?_;unhygienic intros)
 refine Ys fun o=>?_
 exact ⟨_,rfl,o.sub⟩
theorem Gq6:Ct B2 Bj5 [] [] fun v own=>∃ k,v=P0 k∧own [E86 k]:=by
 refine Ct.of G33 rfl fun h r=>Tr.eq (G97 ..) ?_;refine Je ?_
 refine Yc (Il5) ?_;rintro _ h ⟨k,rfl,o⟩<;>(refine Jf o ?_;unhygienic intros)
 refine Ys fun o=>?_
 exact ⟨_,rfl,o.sub⟩
theorem Ec6 (f:PipeS):Ct B2 Aw9 [.agg ⟨E3 f⟩] [] fun v own=>(okP f=true∧∃ a,v=.tuple ⟨[.slice a 40 40,.bool true]⟩∧own [slC false A7 1 a 40 40 (A5 (I8 f))])∨(okP f=false∧v=.tuple ⟨[.slice none 0 0,.bool false]⟩∧own []):=by
 refine Ct.of Gw7 rfl fun h r=>Tr.eq (Gw0 ..) ?_;refine Je ?_
 refine Yn fun b1 h=>?_
 (refine Ja ?_;unhygienic intros)
 refine Yc (Gq6) ?_;rintro _ h ⟨k,rfl,o⟩<;>(refine Jg o ?_;unhygienic intros)
 (refine Ja ?_;unhygienic intros)
 refine Yc (Hl2 k f) ?_
 rintro v h (⟨hk,a,rfl,o⟩|⟨hk,rfl,o⟩)
 ·refine (?_:Tr _ _ _ _) o
  refine Je ?_
  (refine Ja ?_;unhygienic intros)
  refine Ys fun o=>?_
  exact .inl ⟨hk,a,rfl,o.sub⟩
 ·refine (?_:Tr _ _ _ _) o
  refine Je ?_
  (refine Ja ?_;unhygienic intros)
  refine Ys fun o=>?_
  exact .inr ⟨hk,rfl,o.sub⟩
def Dx7 (l:List UInt8):List UInt8:=(l++List.replicate 32 0).take 32
theorem H56 (l:List UInt8):(Dx7 l).length=32:=by simp [Dx7]
theorem D83 {l:List UInt8} (h:l.length=32):Dx7 l=l:=by simp [Dx7,← h]
def Be2 (l:List UInt8):PipeS:=⟨byI l 1,byI l 2,byI l 3,byI l 4,Dx7 (l.drop 8),H56 _⟩
def isP (l:List UInt8):Bool:=okP (Be2 l) && decide (I8 (Be2 l)=l)
theorem Il8 (a:Option Addr) (c:Nat) (l:List UInt8) (hl:l.length=40):Ct B2 Bk7 [.slice a 40 c] [slC false A7 1 a 40 c (A5 l)] fun v own=>v=.tuple ⟨[.agg ⟨E3 (Be2 l)⟩,.bool (isP l)]⟩∧own [slC false A7 1 a 40 c (A5 l)]:=by
 have hd:=(Be2 l).len
 have hp:Dx7 (l.drop 8)=l.drop 8:=D83 (by simp [hl])
 have key:∀ a1:Option Addr,CtP B2 D4 [.slice a1 40 40,.slice a 40 c] [slC false A7 1 a1 40 40 (A5 (I8 (Be2 l))),slC false A7 1 a 40 c (A5 l)] (.bool (decide (I8 (Be2 l)=l))):=fun a1=>by
  have e:=A07 hd
  have J:=Es1 (slC false A7 1 a1 (I8 (Be2 l)).length 40 (A5 (I8 (Be2 l)))) (slC false A7 1 a l.length c (A5 l)) a1 false 40 a false c (I8 (Be2 l)) l (by rw [e];simp [B4])
  rwa [hl,e] at J
 refine Ct.of Hr9 rfl fun h r=>Tr.eq (Hp3 ..) ?_;refine Je ?_
 refine Yn fun b1 h=>?_
 refine U6 1 rfl fun hl2 hc2 _=>?_
 (refine Ja ?_;unhygienic intros;repeat(refine Gw ?_;rintro px rfl;refine Ja ?_;unhygienic intros))
 refine Tr.xIntS (v:=byI l 1) (Ae0 (by omega)) ?_
 (refine Ja ?_;unhygienic intros)
 refine Tr.xIntS (v:=byI l 2) (Ae0 (by omega)) ?_
 (refine Ja ?_;unhygienic intros)
 refine Tr.xIntS (v:=byI l 3) (Ae0 (by omega)) ?_
 (refine Ja ?_;unhygienic intros)
 refine Tr.xIntS (v:=byI l 4) (Ae0 (by omega)) ?_
 simp only [byI,An3]
 refine Yn fun b2 h=>?_
 (refine Jb ?_;unhygienic intros)
 rw [Gk8 (show 8<c by omega),G56]
 refine Tr.xAggS (xs:=A5 (l.drop 8)) ⟨by omega,by simp [U9,hl],?_⟩ ?_
 ·rw [B70,List.take_of_length_le (by simp [U9,hl])]
 rw [show pCells (some (⟨b2,4,none⟩:Addr))=pAgg ⟨b2,4,none⟩ from rfl]
 refine Tr.xPAgg (cs':=E3 (Be2 l)) ⟨by simp [U9,hl],Ag6 _,by simp [E3,Be2,byI,U9,hl,hp]⟩ fun h=>?_
 (refine Ja ?_;unhygienic intros)
 refine Yc (Ec6 (Be2 l)) ?_
 rintro v h (⟨hk,a1,rfl,o⟩|⟨hk,rfl,o⟩)
 ·refine (?_:Tr _ _ _ _) o
  refine Je ?_
  (refine Jb ?_;unhygienic intros)
  refine Yb (Yt rfl ?_)
  refine Tr.pcall (key a1) ?_;refine Je ?_;(refine Jb ?_;unhygienic intros)
  refine Ys fun o=>(?_:Tr _ _ _ _) o;refine Je ?_
  (refine Ja ?_;unhygienic intros)
  refine Ys fun o=>?_
  exact ⟨by unfold isP;rw [hk,Bool.true_and],o.sub⟩
 ·refine (?_:Tr _ _ _ _) o
  refine Je ?_
  (refine Ja ?_;unhygienic intros)
  refine Ys fun o=>?_
  exact ⟨by unfold isP;rw [hk];rfl,o.sub⟩
theorem Hk7 (k:Nat) (a:Option Addr) (c:Nat) (l:List UInt8) (hl:l.length=40):Ct B2 V7 [P0 k,.slice a 40 c] [E86 k,slC false A7 1 a 40 c (A5 l)] fun v own=>v=.tuple ⟨[.agg ⟨E3 (if isP l then Be2 l else .zero)⟩,.bool (isP l)]⟩∧own [E86 k,slC false A7 1 a 40 c (A5 l)]:=by
 have hd:=(Be2 l).len
 have hp:Dx7 (l.drop 8)=l.drop 8:=D83 (by simp [hl])
 refine Ct.of B35 rfl fun h r=>Tr.eq (B40 ..) ?_;refine Je ?_
 (refine Ja ?_;unhygienic intros)
 refine Yf rfl ?_
 (refine Jb ?_;unhygienic intros)
 refine Yc (Es0 40 a c l hl (by simp [B4])) ?_;rintro _ h ⟨a1,c1,rfl,o⟩<;>(refine Jg o ?_;unhygienic intros)
 refine Yc (Il8 a1 c1 l hl) ?_;rintro _ h ⟨rfl,o⟩<;>(refine Jg o ?_;unhygienic intros)
 cases hk:isP l with
 | false =>
  (refine Ja ?_;unhygienic intros)
  refine Ys fun o=>?_
  exact ⟨rfl,o.sub⟩
 | true =>
  (refine Ja ?_;unhygienic intros)
  refine Ys fun o=>?_
  exact ⟨rfl,o.sub⟩
def Q8 (l:List UInt8):PipeS × Int:=if l.all (·==0) then (.zero,0) else if isP l then (Be2 l,1) else (.zero,2)
theorem Hr7 (a:Option Addr) (c:Nat) (l:List UInt8) (hl:l.length=40):Ct B2 Aw6 [.slice a 40 c] [slC false A7 1 a 40 c (A5 l)] fun v own=>v=.tuple ⟨[.agg ⟨E3 (Q8 l).1⟩,int (Q8 l).2]⟩∧own [slC false A7 1 a 40 c (A5 l)]:=by
 have hd:=(Be2 l).len
 have hp:Dx7 (l.drop 8)=l.drop 8:=D83 (by simp [hl])
 refine Ct.of Gx1 rfl fun h r=>Tr.eq (Gu4 ..) ?_;refine Je ?_
 refine Yn fun b1 h=>?_
 refine Yb (Yt rfl ?_)
 refine Tr.pcall (Em2 40 a c l hl (by simp [B4])) ?_;refine Je ?_;(refine Jb ?_;unhygienic intros)
 refine Ys fun o=>(?_:Tr _ _ _ _) o;refine Je ?_
 cases hb:l.all (·==0) with
 | true =>
  (refine Ja ?_;unhygienic intros)
  refine Ys fun o=>?_
  exact ⟨by unfold Q8;rw [hb];rfl,o.sub⟩
 | false =>
  (refine Jb ?_;unhygienic intros)
  refine Yc (Gq6) ?_;rintro _ h ⟨k,rfl,o⟩<;>(refine Jg o ?_;unhygienic intros)
  refine Yc (Hk7 k a c l hl) ?_;rintro _ h ⟨rfl,o⟩<;>(refine Jg o ?_;unhygienic intros)
  cases hk:isP l with
  | false =>
   (refine Ja ?_;unhygienic intros)
   refine Ys fun o=>?_
   exact ⟨by unfold Q8;rw [hb,hk];rfl,o.sub⟩
  | true =>
   (refine Ja ?_;unhygienic intros)
   refine Ys fun o=>?_
   exact ⟨by unfold Q8;rw [hb,hk];rfl,o.sub⟩
structure ProcS where
 state:Int
 parent:Int
 group:Int
 code:Int
 pending:Int
 mask:Int
 ignored:Int
 caught:Int
 fds:List Int
 len:fds.length=8
abbrev Gy0:List Int:=[0,0,0,0,0,0,0,0]
abbrev ProcS.zero:ProcS:=⟨0,0,0,0,0,0,0,0,Gy0,rfl⟩
abbrev E2 (p:ProcS):List Value:=int p.state::int p.parent::int p.group::int p.code::int p.pending::int p.mask::int p.ignored::int p.caught::p.fds.map int
theorem Bw3 (p:ProcS):(E2 p).length=16:=by simp [E2,p.len]
theorem H11 (p:ProcS):(E2 p).all Value.oneCell=true:=by simp [E2,Value.oneCell]
instance {p:ProcS}:LenC (E2 p) 16:=⟨Bw3 p⟩
instance {p:ProcS}:PartC (E2 p) 0 16 (E2 p):=⟨Dc2 (Bw3 p)⟩
instance {p:ProcS}:PartC (E2 p) 8 8 (p.fds.map int):=⟨by
 have h:Nat.ble (8+8) (E2 p).length=true:=by rw [Bw3];rfl
 have e:((E2 p).drop 8).take 8=p.fds.map int:=by rw [show (E2 p).drop 8=p.fds.map int from rfl,List.take_of_length_le (by simp [p.len])]
 rw [Di6,h,e];rfl⟩
instance {p:ProcS} {cs:List Value} [k:LenC cs 16]:SetsC cs 0 (E2 p) (E2 p):=⟨Bk0 k.ok (Bw3 p) (H11 p)⟩
instance {p:ProcS}:SameC (.agg ⟨E2 p⟩):=⟨Dv8 (by simp [E2])⟩
def Ex8 (n w:Int):Bool:=D10 .i64 n 65534==0 && P3 .i64 n w==0
def okS (p:ProcS):Bool :=
 !(decide (p.state<1) || decide (p.state>3) || decide (p.parent<0) || decide (p.parent>8) || decide (p.group<0) || decide (p.group≥8) || decide (p.code<0) || decide (p.code>255)) &&
 (!(!Ex8 p.pending 0 || !Ex8 p.mask 16896 || !Ex8 p.ignored 16896 || !Ex8 p.caught 16896 || P3 .i64 p.ignored p.caught != 0) &&
 (!(p.fds.any fun f=>decide (f<0) || decide (f>12)) &&
 (if p.state=2 then p.pending==0 && decide (p.fds=Gy0) else p.code==0)))
def hi2 (n:Int):UInt8:=if 0≤n∧n≤65535 then b8 (n / 256) else 0
def lo2 (n:Int):UInt8:=if 0≤n∧n≤65535 then b8 n else 0
abbrev put2 (n:Int):List UInt8:=[hi2 n,lo2 n]
def Ef6 (p:ProcS):List UInt8:=[b8 p.state,b8 p.parent,b8 p.group,b8 p.code]++(put2 p.pending++(put2 p.mask++(put2 p.ignored++(put2 p.caught++(p.fds.map b8++[167])))))
theorem Ib9 (n:Int):(put2 n).length=2:=rfl
theorem H26 (p:ProcS):(Ef6 p).length=21:=by simp [Ef6,Ib9,p.len]
def Av9 (p:ProcS):List UInt8:=Ef6 p++[Bu2 (Ef6 p),0,0]
theorem Ec0 (p:ProcS):(Av9 p).length=24:=by simp [Av9,H26]
theorem Ii0 (n w:Int):CtP B2 Ak5 [int n,int w] [] (.bool (Ex8 n w)):=by
 refine CtP.of G93 rfl fun h r=>Tr.eq (Ha8 ..) ?_;refine Je ?_
 exact Jz
instance {n w:Int} {l:List HP}:PCi B2 Ak5 [.int .i64 n,.int .i64 w] l (.bool (Ex8 n w)):=PCi.of (Ii0 n w)
theorem Ik5 (f:Int):CtP B2 Bj0 [int f] [] (.bool (decide (f<0) || decide (f>12))):=by
 refine CtP.of Gz2 rfl fun h r=>Tr.eq (G21 ..) ?_;refine Je ?_
 exact Jz
theorem E71 (p:HP) (a:Option Addr) (ro:Bool) (c:Nat) (l:List Int) (g:FuncId) (f:Int→Bool) {e:TypeId} [ks:IsSl p a ro e 1 l.length c (l.map int)] (hl:l.length≤B4) (hf:∀ x,CtP B2 g [int x] [] (.bool (f x))):∀ (m i:Nat),l.length-i=m→i≤l.length →
  V4 I2 D7 N1 [(0,.slice a l.length c),(1,.func (.func g) ⟨[]⟩ ⟨[]⟩),(7,int l.length),(8,int i)] [p] (int (Bs2 f i (l.drop i))):=by
 intro m
 induction m with
 | zero =>
  intro i hm hi
  refine V4.of L8 fun h r=>Tr.eq (S6 ..) ?_;refine Je ?_
  refine Yf (by simp;omega) ?_
  refine Ys fun o=>?_
  rw [List.drop_eq_nil_of_le (by omega)];exact ⟨rfl,rfl⟩
 | succ m ih =>
  intro i hm hi
  have hlt:i<l.length:=by omega
  have hp:l[i]?=some l[i]:=List.getElem?_eq_getElem hlt
  have hd:l.drop i=l[i]::l.drop (i+1):=List.drop_eq_getElem_cons hlt
  generalize l[i]=x at hp hd
  have e1:IntKind.wrap .i64 ((i:Int)+1)=((i+1:Nat):Int):=by rw [B3];simp only [B4] at hl;omega
  refine V4.of L8 fun h r=>Tr.eq (S6 ..) ?_;refine Je ?_
  refine Yt (by simp;omega) ?_
  (refine Ja ?_;unhygienic intros;repeat(refine Gw ?_;rintro px rfl;refine Ja ?_;unhygienic intros))
  refine Tr.xIntS (v:=x) (by simp [hp]) ?_
  (refine Ja ?_;unhygienic intros)
  refine Tr.pcall (hf x) ?_
  cases hx:f x with
  | true =>
   (refine Ja ?_;unhygienic intros)
   refine Ys fun o=>?_
   rw [hd,Bs2,if_pos hx];exact ⟨by first|rfl|trivial,by first|rfl|trivial⟩
  | false =>
   (refine Ja ?_;unhygienic intros)
   rw [e1]
   refine Z9 (ih (i+1) (by omega) (by omega)) (r:=r) (by simp) fun o=>?_
   rw [hd,Bs2,if_neg (by simp [hx])];exact ⟨by first|rfl|trivial,by first|rfl|trivial⟩
theorem E51 (p:HP) (a:Option Addr) (ro:Bool) (c:Nat) (l:List Int) (g:FuncId) (f:Int→Bool) {e:TypeId} [ks:IsSl p a ro e 1 l.length c (l.map int)] (hl:l.length≤B4) (hf:∀ x,CtP B2 g [int x] [] (.bool (f x))) :
  CtP B2 E8 [.slice a l.length c,.func (.func g) ⟨[]⟩ ⟨[]⟩] [p] (.bool (l.any f)):=by
 have j:CtP B2 D7 [.slice a l.length c,.func (.func g) ⟨[]⟩ ⟨[]⟩] [p] (int (Bs2 f 0 l)):=by
  refine CtP.of L8 rfl fun h r=>Tr.eq (A55 ..) ?_;refine Je ?_
  exact Z9 (E71 p a ro c l g f hl hf _ 0 rfl (by omega)) (r:=r) (by simp) fun o=>⟨rfl,rfl⟩
 refine CtP.of Av6 rfl fun h r=>Tr.eq (Av5 ..) ?_;refine Je ?_
 refine Bw8 j (r:=r) (by simp) ?_
 (refine Ja ?_;unhygienic intros)
 refine Ys fun o=>?_
 rw [Et2];exact ⟨by first|rfl|trivial,by first|rfl|trivial⟩
theorem Ha0:∀ (l m:List Int),l.length=m.length→eqs (l.map int) (m.map int)=some (decide (l=m))
 | [],[],_=>rfl
 | [],_::_,h=>by simp at h
 | _::_,[],h=>by simp at h
 | a::l,b::m,h=>by
  have ih:=Ha0 l m (by simpa using h)
  simp only [List.map_cons,eqs,eq1,decide_true,ih]
  by_cases h1:a=b<;>by_cases h2:l=m<;>simp [h1,h2]
theorem E66:∀ (l:List Int),H0 (List.replicate l.length (TypeDesc.int .i64)) (l.map int)=true
 | []=>rfl
 | a::l=>by
  have:=E66 l
  simp only [List.length_cons,List.replicate_succ,List.map_cons,H0,decide_true,this,Bool.and_self]
theorem eq8 {α:Type} (l m:List Int) (hl:l.length=8) (hm:m.length=8) (k:Bool→Option α):B91 PR Gm1 (l.map int) (m.map int) k=k (decide (l=m)):=by
 have e:Aj9 PR 8 Gm1=some (List.replicate 8 (TypeDesc.int .i64)):=by kernel_rfl
 have f1:=E66 l;have f2:=E66 m
 rw [hl] at f1;rw [hm] at f2
 rw [B91,e]
 simp only [f1,f2,Ha0 l m (by omega),Bool.and_self,ckB,cond_true,eqK]
theorem Ip5 (p:ProcS):Ct B2 Dl9 [.agg ⟨E2 p⟩] [] fun v own=>v=.bool (okS p)∧own []:=by
 have h8:=p.len
 refine Ct.of Hx3 rfl fun h r=>Tr.eq (Hq8 ..) ?_;refine Je ?_
 (refine Ja ?_;unhygienic intros)
 refine Tr.cond (fun h1=>?_) fun h1=>?_
 ·refine Ys fun o=>?_
  refine ⟨?_,o.sub⟩
  unfold okS;rw [h1];rfl
 (refine Ja ?_;unhygienic intros)
 refine Tr.cond (fun h2=>?_) fun h2=>?_
 ·refine Ys fun o=>?_
  refine ⟨?_,o.sub⟩
  unfold okS;rw [h1,h2];rfl
 (refine Ja ?_;unhygienic intros)
 refine Gl9 0 rfl [int p.state,int p.parent,int p.group,int p.code,int p.pending,int p.mask,int p.ignored,int p.caught] (p.fds.map int) [] (by simp [E2]) 1 8 8 8 ⟨by simp [h8],by omega,by simp,by simp [E2],by omega,by omega⟩ ?_
 refine Je ?_
 have J:=E51 (e:=D3) (slX false D3 1 (some ⟨b,8,none⟩) p.fds.length 8 ([int p.state,int p.parent,int p.group,int p.code,int p.pending,int p.mask,int p.ignored,int p.caught],[]) (p.fds.map int)) (some ⟨b,8,none⟩) false 8 p.fds Bj0 (fun f=>decide (f<0) || decide (f>12)) (by rw [h8];simp [B4]) Ik5
 rw [h8] at J
 refine Tr.pcall (J) ?_;refine Je ?_;(refine Ja ?_;unhygienic intros)
 refine En1 0 rfl (E2 p) (by simp [E2]) ?_
 refine Je ?_
 cases h3:p.fds.any fun f=>decide (f<0) || decide (f>12) with
 | true =>
  (refine Ja ?_;unhygienic intros)
  refine Ys fun o=>?_
  refine ⟨?_,o.sub⟩
  unfold okS;rw [h1,h2,h3];rfl
 | false =>
  (refine Ja ?_;unhygienic intros)
  have e:okS p=if p.state=2 then p.pending==0 && decide (p.fds=Gy0) else p.code==0:=by unfold okS;rw [h1,h2,h3];rfl
  rw [e]
  by_cases h4:p.state=2
  ·refine Yt (by simpa using h4) ?_
   rw [if_pos h4]
   (repeat' first|refine Gu ?_|(with_reducible first|refine Gn fun b h=>?_|apply Gx|apply Gy|rintro px rfl|apply Gw|refine fun(h:H)=>?_|intro hb)|refine Gs ?_|refine Gt ?_|exact Gz rfl|fail)
   rw [show ([int 0,int 0,int 0,int 0,int 0,int 0,int 0,int 0]:List Value)=Gy0.map int from rfl,eq8 _ _ h8 rfl]
   (repeat' first|refine Gu ?_|(with_reducible first|refine Gn fun b h=>?_|apply Gx|apply Gy|rintro px rfl|apply Gw|refine fun(h:H)=>?_|intro hb)|refine Gs ?_|refine Gt ?_|exact Gz rfl|fail)
   refine Ys fun o=>?_
   exact ⟨rfl,o.sub⟩
  ·refine Yf (by simpa using h4) ?_
   rw [if_neg h4]
   (refine Ja ?_;unhygienic intros)
   refine Ys fun o=>?_
   exact ⟨rfl,o.sub⟩
theorem Il3 (a:Option Addr) (c:Nat) (cs:List Value) (j:Nat) (n:Int) (hj:j+2≤cs.length) (hm:cs.length≤B4):Ct B2 Bi1 [.slice a cs.length c,int j,int n] [slC false A7 1 a cs.length c cs] fun v own =>
  (∃ ok,v=.bool ok)∧own [slC false A7 1 a cs.length c (if 0≤n∧n≤65535 then (cs.set j (.int .u8 ((b8 (n / 256)).toNat:Int))).set (j+1) (.int .u8 ((b8 n).toNat:Int)) else cs)]:=by
 simp only [B4] at hm
 have e1:IntKind.wrap .i64 ((cs.length:Int)-2)=(cs.length:Int)-2:=by rw [B3];omega
 have e2:IntKind.wrap .i64 ((j:Int)+1)=((j+1:Nat):Int):=by rw [B3];omega
 refine Ct.of Hb6 rfl fun h r=>Tr.eq (G02 ..) ?_;refine Je ?_
 rw [e1,e2]
 (refine Ja ?_;unhygienic intros)
 by_cases h:0≤n∧n≤65535
 ·refine Yf (by simp;omega) ?_
  rw [if_pos h]
  (refine Ja ?_;unhygienic intros;repeat(refine Gw ?_;rintro px rfl;refine Ja ?_;unhygienic intros))
  rw [Int.toNat_natCast,show Int.fdiv n (2 ^ 8)=n / 256 by rw [Int.fdiv_eq_ediv_of_nonneg _ (by omega)];rfl,Bh5,Bh5]
  refine Je ?_
  refine Tr.xVS (cs':=cs.set j (.int .u8 ((b8 (n / 256)).toNat:Int))) ⟨by omega,rfl,rfl⟩ fun h=>?_
  (refine Ja ?_;unhygienic intros)
  rw [Int.toNat_natCast]
  refine Je ?_
  refine Tr.xVS (cs':=(cs.set j (.int .u8 ((b8 (n / 256)).toNat:Int))).set (j+1) (.int .u8 ((b8 n).toNat:Int))) ⟨by simp;omega,rfl,rfl⟩ fun h=>?_
  refine Ys fun o=>?_
  exact ⟨⟨_,rfl⟩,o.sub⟩
 ·refine Yt (by simp;omega) ?_
  rw [if_neg h]
  refine Ys fun o=>?_
  exact ⟨⟨_,rfl⟩,o.sub⟩
theorem D44 (l:List UInt8) (j:Nat) (x:UInt8):(A5 l).set j (.int .u8 (x.toNat:Int))=A5 (l.set j x):=by simp [A5,List.map_set]
theorem D86 (a:Option Addr) (c m:Nat) (l:List UInt8) (j:Nat) (n:Int) (hm:l.length=m) (hj:j+2≤m) (h1:l[j]?=some 0) (h2:l[j+1]?=some 0) (hl:m≤B4):Ct B2 Bi1 [.slice a m c,int j,int n] [slC false A7 1 a m c (A5 l)] fun v own =>
  (∃ ok,v=.bool ok)∧own [slC false A7 1 a m c (A5 ((l.set j (hi2 n)).set (j+1) (lo2 n)))]:=by
 subst hm
 have J:=Il3 a c (A5 l) j n (by rw [U9];omega) (by rw [U9];omega)
 rw [U9] at J
 have e:(if 0≤n∧n≤65535 then ((A5 l).set j (.int .u8 ((b8 (n / 256)).toNat:Int))).set (j+1) (.int .u8 ((b8 n).toNat:Int)) else A5 l)=A5 ((l.set j (hi2 n)).set (j+1) (lo2 n)):=by
  unfold hi2 lo2
  split
  ·rw [D44,D44]
  ·rw [Em5 h1,Em5 h2]
 rw [e] at J
 exact J
def two (l:List UInt8) (j:Nat):Int:=byI l j*256+byI l (j+1)
theorem Iq5 (x y:UInt8):Go5 .i64 (IntKind.wrap .i64 (IntKind.wrap .i64 (x.toNat:Int)*2 ^ 8)) (IntKind.wrap .i64 (y.toNat:Int))=(x.toNat:Int)*256+y.toNat:=by
 have hx:=x.toNat_lt;have hy:=y.toNat_lt
 have e1:IntKind.wrap .i64 (IntKind.wrap .i64 (x.toNat:Int)*2 ^ 8)=((x.toNat*256:Nat):Int):=by rw [An3,B3];omega
 rw [e1,An3]
 unfold Go5
 have e0:IntKind.bits .i64=64:=rfl
 rw [e0,BitVec.ofInt_natCast,BitVec.ofInt_natCast,BitVec.toNat_or,BitVec.toNat_ofNat,BitVec.toNat_ofNat,Nat.mod_eq_of_lt (by omega),Nat.mod_eq_of_lt (by omega)]
 have e2:x.toNat*256 ||| y.toNat=x.toNat*256+y.toNat:=by
  have:=Nat.two_pow_add_eq_or_of_lt (i:=8) (b:=y.toNat) (by omega) x.toNat
  rw [show 2 ^ 8*x.toNat=x.toNat*256 by omega] at this
  exact this.symm
 rw [e2,B3];omega
theorem Ex0 (a:Option Addr) (c n:Nat) (l:List UInt8) (j:Nat) (hn:l.length=n) (hj:j+2≤n) (hm:n≤B4):CtP B2 Bz3 [.slice a n c,int j] [slC false A7 1 a n c (A5 l)] (.tuple ⟨[int (two l j),.bool true]⟩):=by
 simp only [B4] at hm
 have e1:IntKind.wrap .i64 ((n:Int)-2)=(n:Int)-2:=by rw [B3];omega
 have e2:IntKind.wrap .i64 ((j:Int)+1)=((j+1:Nat):Int):=by rw [B3];omega
 refine CtP.of Gz3 rfl fun h r=>Tr.eq (G38 ..) ?_;refine Je ?_
 rw [e1,e2]
 (refine Ja ?_;unhygienic intros)
 refine Yf (by simp;omega) ?_
 (refine Ja ?_;unhygienic intros;repeat(refine Gw ?_;rintro px rfl;refine Ja ?_;unhygienic intros))
 rw [Int.toNat_natCast]
 refine Je ?_
 refine Tr.xIntS (v:=byI l j) (Ae0 (by omega)) ?_
 (refine Ja ?_;unhygienic intros)
 rw [Int.toNat_natCast]
 refine Je ?_
 refine Tr.xIntS (v:=byI l (j+1)) (Ae0 (by omega)) ?_
 refine Ys fun o=>?_
 rw [Iq5];exact ⟨rfl,rfl⟩
theorem Ik7 (a:Option Addr) (c:Nat) (p:ProcS):Ct B2 O5 [.agg ⟨E2 p⟩,.slice a 24 c] [slC false A7 1 a 24 c (A5 (List.replicate 24 0))] fun v own=>v=.bool (okS p)∧own [slC false A7 1 a 24 c (A5 (if okS p then Av9 p else List.replicate 24 0))]:=by
 refine Ct.of H8 rfl fun h r=>Tr.eq (Hj9 ..) ?_;refine Je ?_
 refine Yn fun b1 h=>?_
 (refine Ja ?_;unhygienic intros)
 refine Yc (Ip5 p) ?_;rintro _ h ⟨rfl,o⟩<;>(refine Jf o ?_;unhygienic intros)
 cases hk:okS p with
 | false =>
  (refine Ja ?_;unhygienic intros)
  refine Ys fun o=>?_
  rw [if_neg (by simp)]
  exact ⟨rfl,o.sub⟩
 | true =>
  simp only [if_true]
  obtain ⟨st,pa,gr,co,pe,ma,ig,ca,fds,len⟩:=p
  match fds,len with
  | [f0,f1,f2,f3,f4,f5,f6,f7],len =>
  (refine Ja ?_;unhygienic intros)
  rename_i b2 h2
  refine U6 2 rfl fun hl hc _=>?_
  simp only [List.map]
  refine Tr.jmp H8 (Tr.eq (A46 ..) ?_);(try simp only[Nr,Nl,wl,Nat.reduceAdd,Nat.reduceMul,Int.reduceToNat])
  (refine Jd ?_;unhygienic intros;repeat(refine Gw ?_;rintro px rfl;refine Jd ?_;unhygienic intros))
  refine Tr.jmp H8 (Tr.eq (A46 ..) ?_);(try simp only[Nr,Nl,wl,Nat.reduceAdd,Nat.reduceMul,Int.reduceToNat])
  (refine Jd ?_;unhygienic intros)
  refine Tr.jmp H8 (Tr.eq (A46 ..) ?_);(try simp only[Nr,Nl,wl,Nat.reduceAdd,Nat.reduceMul,Int.reduceToNat])
  (refine Jd ?_;unhygienic intros)
  refine Tr.jmp H8 (Tr.eq (A46 ..) ?_);(try simp only[Nr,Nl,wl,Nat.reduceAdd,Nat.reduceMul,Int.reduceToNat])
  (refine Jd ?_;unhygienic intros)
  refine Tr.jmp H8 (Tr.eq (A46 ..) ?_);(try simp only[Nr,Nl,wl,Nat.reduceAdd,Nat.reduceMul,Int.reduceToNat])
  (refine Jd ?_;unhygienic intros)
  simp only [Bh5,D44,List.replicate,List.set_cons_zero,List.set_cons_succ,Nat.mul_one]
  refine Tr.jmp H8 (Tr.eq (A43 ..) ?_);(try simp only[Nr,Nl,wl,Nat.reduceAdd,Nat.reduceMul,Int.reduceToNat])
  (refine Jd ?_;unhygienic intros)
  refine Yc (D86 (some px) c 24 [b8 st,b8 pa,b8 gr,b8 co,0,0,0,0,0,0,0,0,0,0,0,0,0,0,0,0,0,0,0,0] 4 pe rfl (by omega) rfl rfl (by simp [B4])) ?_;rintro _ h ⟨⟨_,rfl⟩,o⟩<;>(refine Jf o ?_;unhygienic intros)
  refine Tr.jmp H8 (Tr.eq (A43 ..) ?_);(try simp only[Nr,Nl,wl,Nat.reduceAdd,Nat.reduceMul,Int.reduceToNat])
  (refine Jd ?_;unhygienic intros)
  refine Yc (D86 (some px) c 24 [b8 st,b8 pa,b8 gr,b8 co,hi2 pe,lo2 pe,0,0,0,0,0,0,0,0,0,0,0,0,0,0,0,0,0,0] 6 ma rfl (by omega) rfl rfl (by simp [B4])) ?_;rintro _ h ⟨⟨_,rfl⟩,o⟩<;>(refine Jf o ?_;unhygienic intros)
  refine Tr.jmp H8 (Tr.eq (A43 ..) ?_);(try simp only[Nr,Nl,wl,Nat.reduceAdd,Nat.reduceMul,Int.reduceToNat])
  (refine Jd ?_;unhygienic intros)
  refine Yc (D86 (some px) c 24 [b8 st,b8 pa,b8 gr,b8 co,hi2 pe,lo2 pe,hi2 ma,lo2 ma,0,0,0,0,0,0,0,0,0,0,0,0,0,0,0,0] 8 ig rfl (by omega) rfl rfl (by simp [B4])) ?_;rintro _ h ⟨⟨_,rfl⟩,o⟩<;>(refine Jf o ?_;unhygienic intros)
  refine Tr.jmp H8 (Tr.eq (A43 ..) ?_);(try simp only[Nr,Nl,wl,Nat.reduceAdd,Nat.reduceMul,Int.reduceToNat])
  (refine Jd ?_;unhygienic intros)
  refine Yc (D86 (some px) c 24 [b8 st,b8 pa,b8 gr,b8 co,hi2 pe,lo2 pe,hi2 ma,lo2 ma,hi2 ig,lo2 ig,0,0,0,0,0,0,0,0,0,0,0,0,0,0] 10 ca rfl (by omega) rfl rfl (by simp [B4])) ?_;rintro _ h ⟨⟨_,rfl⟩,o⟩<;>(refine Jf o ?_;unhygienic intros)
  refine Tr.jmp H8 (Tr.eq (A43 ..) ?_);(try simp only[Nr,Nl,wl,Nat.reduceAdd,Nat.reduceMul,Int.reduceToNat])
  (refine Jd ?_;unhygienic intros)
  refine Tr.jmp H8 (Tr.eq (Y6 ..) ?_);(try simp only[Nr,Nl,wl,Nat.reduceAdd,Nat.reduceMul,Int.reduceToNat])
  (refine Jd ?_;unhygienic intros)
  refine Tr.jmp H8 (Tr.eq (Y6 ..) ?_);(try simp only[Nr,Nl,wl,Nat.reduceAdd,Nat.reduceMul,Int.reduceToNat])
  (refine Jd ?_;unhygienic intros)
  refine Tr.jmp H8 (Tr.eq (Y6 ..) ?_);(try simp only[Nr,Nl,wl,Nat.reduceAdd,Nat.reduceMul,Int.reduceToNat])
  (refine Jd ?_;unhygienic intros)
  refine Tr.jmp H8 (Tr.eq (Y6 ..) ?_);(try simp only[Nr,Nl,wl,Nat.reduceAdd,Nat.reduceMul,Int.reduceToNat])
  (refine Jd ?_;unhygienic intros)
  refine Tr.jmp H8 (Tr.eq (Y6 ..) ?_);(try simp only[Nr,Nl,wl,Nat.reduceAdd,Nat.reduceMul,Int.reduceToNat])
  (refine Jd ?_;unhygienic intros)
  refine Tr.jmp H8 (Tr.eq (Y6 ..) ?_);(try simp only[Nr,Nl,wl,Nat.reduceAdd,Nat.reduceMul,Int.reduceToNat])
  (refine Jd ?_;unhygienic intros)
  refine Tr.jmp H8 (Tr.eq (Y6 ..) ?_);(try simp only[Nr,Nl,wl,Nat.reduceAdd,Nat.reduceMul,Int.reduceToNat])
  (refine Jd ?_;unhygienic intros)
  refine Tr.jmp H8 (Tr.eq (Y6 ..) ?_);(try simp only[Nr,Nl,wl,Nat.reduceAdd,Nat.reduceMul,Int.reduceToNat])
  (refine Jd ?_;unhygienic intros)
  refine Tr.jmp H8 (Tr.eq (Y6 ..) ?_);(try simp only[Nr,Nl,wl,Nat.reduceAdd,Nat.reduceMul,Int.reduceToNat])
  (refine Jd ?_;unhygienic intros)
  simp only [Bh5,D44,List.set_cons_zero,List.set_cons_succ,Nat.mul_one]
  rw [show (.int .u8 167:Value)=.int .u8 ((167:UInt8).toNat:Int) from rfl,D44]
  simp only [List.set_cons_zero,List.set_cons_succ]
  refine Tr.pcall (Gi3 (slC false A7 1 (some px) 24 c (A5 [b8 st,b8 pa,b8 gr,b8 co,hi2 pe,lo2 pe,hi2 ma,lo2 ma,hi2 ig,lo2 ig,hi2 ca,lo2 ca,b8 f0,b8 f1,b8 f2,b8 f3,b8 f4,b8 f5,b8 f6,b8 f7,167,0,0,0])) (some px) false 24 c c [b8 st,b8 pa,b8 gr,b8 co,hi2 pe,lo2 pe,hi2 ma,lo2 ma,hi2 ig,lo2 ig,hi2 ca,lo2 ca,b8 f0,b8 f1,b8 f2,b8 f3,b8 f4,b8 f5,b8 f6,b8 f7,167,0,0,0] 21 (by simp) (by simp [B4])) ?_
  refine Je ?_
  (refine Ja ?_;unhygienic intros)
  rw [Dp1]
  (refine Jd ?_;unhygienic intros)
  refine Ys fun o=>?_
  rw [D44] at o
  simp only [List.set_cons_zero,List.set_cons_succ] at o
  simp only [Av9,Ef6,put2,List.map,List.cons_append,List.nil_append]
  exact ⟨trivial,o.sub⟩
abbrev E88 (k:Nat):HP:=pt k (.cells Br2 false [int 24,.func (.func O5) ⟨[]⟩ ⟨[]⟩,.func (.func Y5) ⟨[]⟩ ⟨[]⟩])
theorem He6 (k:Nat) (f:ProcS):Ct B2 V9 [P0 k,.agg ⟨E2 f⟩] [E88 k] fun v own=>(okS f=true∧∃ a,v=.tuple ⟨[.slice a 24 24,.bool true]⟩∧own [E88 k,slC false A7 1 a 24 24 (A5 (Av9 f))])∨(okS f=false∧v=.tuple ⟨[.slice none 0 0,.bool false]⟩∧own [E88 k]):=by
 refine Ct.of B39 rfl fun h r=>Tr.eq (B37 ..) ?_;refine Je ?_
 (refine Ja ?_;unhygienic intros)
 refine Tr.ck ⟨by omega,by omega,by simp [B4]⟩ ?_
 refine Yn fun b1 h=>?_
 rw [show H4 (Int.toNat 24) [.int .u8 0]=A5 (List.replicate 24 0) from rfl]
 refine Aa8 0 rfl 1 24 rfl (by omega) ?_
 simp only [List.set_cons_zero]
 refine Je ?_
 (refine Jb ?_;unhygienic intros)
 refine Yb (Yf rfl ?_)
 (refine Jb ?_;unhygienic intros)
 refine Yc (Ik7 (some ⟨b1,0,none⟩) 24 f) ?_;rintro _ h ⟨rfl,o⟩<;>(refine Jg o ?_;unhygienic intros)
 refine Ys fun o=>(?_:Tr _ _ _ _) o;refine Je ?_
 cases hk:okS f with
 | false =>
  (refine Ja ?_;unhygienic intros)
  refine Ys fun o=>?_
  exact .inr ⟨rfl,rfl,o.sub⟩
 | true =>
  (refine Ja ?_;unhygienic intros)
  refine Ys fun o=>?_
  simp only [if_true] at o
  exact .inl ⟨rfl,_,rfl,o.sub⟩
theorem Im3:Ct B2 Ap4 [int 24,.func (.func O5) ⟨[]⟩ ⟨[]⟩,.func (.func Y5) ⟨[]⟩ ⟨[]⟩] [] fun v own=>∃ k,v=P0 k∧own [E88 k]:=by
 refine Ct.of D96 rfl fun h r=>Tr.eq (Ea9 ..) ?_;refine Je ?_
 rw [show mm2 false (mm2 true 24 0) 64=24 from rfl]
 (refine Ja ?_;unhygienic intros)
 refine Ys fun o=>?_
 exact ⟨_,rfl,o.sub⟩
theorem Gr4:Ct B2 Bb2 [] [] fun v own=>∃ k,v=P0 k∧own [E88 k]:=by
 refine Ct.of Gv9 rfl fun h r=>Tr.eq (Gv2 ..) ?_;refine Je ?_
 refine Yc (Im3) ?_;rintro _ h ⟨k,rfl,o⟩<;>(refine Jf o ?_;unhygienic intros)
 refine Ys fun o=>?_
 exact ⟨_,rfl,o.sub⟩
theorem Gg7 (f:ProcS):Ct B2 A60 [.agg ⟨E2 f⟩] [] fun v own=>(okS f=true∧∃ a,v=.tuple ⟨[.slice a 24 24,.bool true]⟩∧own [slC false A7 1 a 24 24 (A5 (Av9 f))])∨(okS f=false∧v=.tuple ⟨[.slice none 0 0,.bool false]⟩∧own []):=by
 refine Ct.of Gn7 rfl fun h r=>Tr.eq (Gn3 ..) ?_;refine Je ?_
 (refine Ja ?_;unhygienic intros)
 refine Yc (Gr4) ?_;rintro _ h ⟨k,rfl,o⟩<;>(refine Jg o ?_;unhygienic intros)
 refine Yc (He6 k f) ?_
 rintro v h (⟨hk,a,rfl,o⟩|⟨hk,rfl,o⟩)
 ·refine (?_:Tr _ _ _ _) o
  refine Je ?_
  (refine Ja ?_;unhygienic intros)
  refine Ys fun o=>?_
  exact .inl ⟨hk,a,rfl,o.sub⟩
 ·refine (?_:Tr _ _ _ _) o
  refine Je ?_
  (refine Ja ?_;unhygienic intros)
  refine Ys fun o=>?_
  exact .inr ⟨hk,rfl,o.sub⟩
def Be0 (l:List UInt8):ProcS:=⟨byI l 0,byI l 1,byI l 2,byI l 3,two l 4,two l 6,two l 8,two l 10,[byI l 12,byI l 13,byI l 14,byI l 15,byI l 16,byI l 17,byI l 18,byI l 19],rfl⟩
def isS (l:List UInt8):Bool:=okS (Be0 l) && decide (Av9 (Be0 l)=l)
theorem Ih6 (a:Option Addr) (c:Nat) (l:List UInt8) (hl:l.length=24):Ct B2 Y5 [.slice a 24 c] [slC false A7 1 a 24 c (A5 l)] fun v own=>v=.tuple ⟨[.agg ⟨E2 (Be0 l)⟩,.bool (isS l)]⟩∧own [slC false A7 1 a 24 c (A5 l)]:=by
 have key:∀ a1:Option Addr,CtP B2 D4 [.slice a1 24 24,.slice a 24 c] [slC false A7 1 a1 24 24 (A5 (Av9 (Be0 l))),slC false A7 1 a 24 c (A5 l)] (.bool (decide (Av9 (Be0 l)=l))):=fun a1=>by
  have e:=Ec0 (Be0 l)
  have J:=Es1 (slC false A7 1 a1 (Av9 (Be0 l)).length 24 (A5 (Av9 (Be0 l)))) (slC false A7 1 a l.length c (A5 l)) a1 false 24 a false c (Av9 (Be0 l)) l (by rw [e];simp [B4])
  rwa [hl,e] at J
 refine Ct.of O1 rfl fun h r=>Tr.eq (Hi2 ..) ?_;refine Je ?_
 refine Yn fun b1 h=>?_
 refine U6 1 rfl fun hl2 hc2 _=>?_
 (refine Ja ?_;unhygienic intros;repeat(refine Gw ?_;rintro px rfl;refine Ja ?_;unhygienic intros))
 refine Tr.xIntS (v:=byI l 0) (Ae0 (by omega)) ?_
 (refine Ja ?_;unhygienic intros)
 refine Tr.xIntS (v:=byI l 1) (Ae0 (by omega)) ?_
 (refine Ja ?_;unhygienic intros)
 refine Tr.xIntS (v:=byI l 2) (Ae0 (by omega)) ?_
 (refine Ja ?_;unhygienic intros)
 refine Tr.xIntS (v:=byI l 3) (Ae0 (by omega)) ?_
 (refine Ja ?_;unhygienic intros)
 simp only [byI,An3]
 refine Tr.jmp O1 (Tr.eq (A45 ..) ?_);(try simp only[Nr,Nl,wl,Nat.reduceAdd,Nat.reduceMul,Int.reduceToNat])
 (refine Jd ?_;unhygienic intros)
 refine Tr.pcall (Ex0 (some px) c 24 l 4 hl (by omega) (by simp [B4])) ?_;refine Je ?_;(refine Ja ?_;unhygienic intros)
 refine Tr.jmp O1 (Tr.eq (A45 ..) ?_);(try simp only[Nr,Nl,wl,Nat.reduceAdd,Nat.reduceMul,Int.reduceToNat])
 (refine Jd ?_;unhygienic intros)
 refine Tr.pcall (Ex0 (some px) c 24 l 6 hl (by omega) (by simp [B4])) ?_;refine Je ?_;(refine Ja ?_;unhygienic intros)
 refine Tr.jmp O1 (Tr.eq (A45 ..) ?_);(try simp only[Nr,Nl,wl,Nat.reduceAdd,Nat.reduceMul,Int.reduceToNat])
 (refine Jd ?_;unhygienic intros)
 refine Tr.pcall (Ex0 (some px) c 24 l 8 hl (by omega) (by simp [B4])) ?_;refine Je ?_;(refine Ja ?_;unhygienic intros)
 refine Tr.jmp O1 (Tr.eq (A45 ..) ?_);(try simp only[Nr,Nl,wl,Nat.reduceAdd,Nat.reduceMul,Int.reduceToNat])
 (refine Jd ?_;unhygienic intros)
 refine Tr.pcall (Ex0 (some px) c 24 l 10 hl (by omega) (by simp [B4])) ?_;refine Je ?_;(refine Ja ?_;unhygienic intros)
 refine Tr.jmp O1 (Tr.eq (A45 ..) ?_);(try simp only[Nr,Nl,wl,Nat.reduceAdd,Nat.reduceMul,Int.reduceToNat])
 (refine Jd ?_;unhygienic intros)
 refine Tr.jmp O1 (Tr.eq (Y7 ..) ?_);(try simp only[Nr,Nl,wl,Nat.reduceAdd,Nat.reduceMul,Int.reduceToNat])
 (refine Jd ?_;unhygienic intros)
 refine Tr.xIntS (v:=byI l 12) (Ae0 (by omega)) ?_
 (refine Jd ?_;unhygienic intros)
 simp only [byI,An3]
 refine Tr.jmp O1 (Tr.eq (Y7 ..) ?_);(try simp only[Nr,Nl,wl,Nat.reduceAdd,Nat.reduceMul,Int.reduceToNat])
 (refine Jd ?_;unhygienic intros)
 refine Tr.xIntS (v:=byI l 13) (Ae0 (by omega)) ?_
 (refine Jd ?_;unhygienic intros)
 simp only [byI,An3]
 refine Tr.jmp O1 (Tr.eq (Y7 ..) ?_);(try simp only[Nr,Nl,wl,Nat.reduceAdd,Nat.reduceMul,Int.reduceToNat])
 (refine Jd ?_;unhygienic intros)
 refine Tr.xIntS (v:=byI l 14) (Ae0 (by omega)) ?_
 (refine Jd ?_;unhygienic intros)
 simp only [byI,An3]
 refine Tr.jmp O1 (Tr.eq (Y7 ..) ?_);(try simp only[Nr,Nl,wl,Nat.reduceAdd,Nat.reduceMul,Int.reduceToNat])
 (refine Jd ?_;unhygienic intros)
 refine Tr.xIntS (v:=byI l 15) (Ae0 (by omega)) ?_
 (refine Jd ?_;unhygienic intros)
 simp only [byI,An3]
 refine Tr.jmp O1 (Tr.eq (Y7 ..) ?_);(try simp only[Nr,Nl,wl,Nat.reduceAdd,Nat.reduceMul,Int.reduceToNat])
 (refine Jd ?_;unhygienic intros)
 refine Tr.xIntS (v:=byI l 16) (Ae0 (by omega)) ?_
 (refine Jd ?_;unhygienic intros)
 simp only [byI,An3]
 refine Tr.jmp O1 (Tr.eq (Y7 ..) ?_);(try simp only[Nr,Nl,wl,Nat.reduceAdd,Nat.reduceMul,Int.reduceToNat])
 (refine Jd ?_;unhygienic intros)
 refine Tr.xIntS (v:=byI l 17) (Ae0 (by omega)) ?_
 (refine Jd ?_;unhygienic intros)
 simp only [byI,An3]
 refine Tr.jmp O1 (Tr.eq (Y7 ..) ?_);(try simp only[Nr,Nl,wl,Nat.reduceAdd,Nat.reduceMul,Int.reduceToNat])
 (refine Jd ?_;unhygienic intros)
 refine Tr.xIntS (v:=byI l 18) (Ae0 (by omega)) ?_
 (refine Jd ?_;unhygienic intros)
 simp only [byI,An3]
 refine Tr.jmp O1 (Tr.eq (Y7 ..) ?_);(try simp only[Nr,Nl,wl,Nat.reduceAdd,Nat.reduceMul,Int.reduceToNat])
 (refine Jd ?_;unhygienic intros)
 refine Tr.xIntS (v:=byI l 19) (Ae0 (by omega)) ?_
 (refine Jd ?_;unhygienic intros)
 simp only [byI,An3]
 refine Tr.jmp O1 (Tr.eq (Y7 ..) ?_);(try simp only[Nr,Nl,wl,Nat.reduceAdd,Nat.reduceMul,Int.reduceToNat])
 refine Yf rfl ?_
 refine Tr.xAgg (xs:=E2 (Be0 l)) ⟨Nat.le_of_ble_eq_true rfl,rfl⟩ ?_
 refine Yc (Gg7 (Be0 l)) ?_
 rintro v h (⟨hk,a1,rfl,o⟩|⟨hk,rfl,o⟩)
 ·refine (?_:Tr _ _ _ _) o
  refine Je ?_
  refine Tr.dx ?_
  refine Tr.dx ?_
  refine Tr.dx ?_
  refine Tr.xAgg (xs:=E2 (Be0 l)) ⟨Nat.le_of_ble_eq_true rfl,rfl⟩ ?_
  refine Yb (Yt rfl ?_)
  refine Tr.pcall (key a1) ?_
  refine Tr.dx ?_
  refine Tr.xAgg (xs:=E2 (Be0 l)) ⟨Nat.le_of_ble_eq_true rfl,rfl⟩ ?_
  (refine Ja ?_;unhygienic intros)
  refine Ys fun o=>(?_:Tr _ _ _ _) o;refine Je ?_
  (refine Ja ?_;unhygienic intros)
  refine Ys fun o=>?_
  exact ⟨by unfold isS;rw [hk,Bool.true_and],o.sub⟩
 ·refine (?_:Tr _ _ _ _) o
  refine Je ?_
  refine Tr.dx ?_
  refine Tr.dx ?_
  refine Tr.dx ?_
  refine Tr.xAgg (xs:=E2 (Be0 l)) ⟨Nat.le_of_ble_eq_true rfl,rfl⟩ ?_
  (refine Ja ?_;unhygienic intros)
  refine Ys fun o=>?_
  exact ⟨by unfold isS;rw [hk];rfl,o.sub⟩
theorem Hk1 (k:Nat) (a:Option Addr) (c:Nat) (l:List UInt8) (hl:l.length=24):Ct B2 W0 [P0 k,.slice a 24 c] [E88 k,slC false A7 1 a 24 c (A5 l)] fun v own=>v=.tuple ⟨[.agg ⟨E2 (if isS l then Be0 l else .zero)⟩,.bool (isS l)]⟩∧own [E88 k,slC false A7 1 a 24 c (A5 l)]:=by
 refine Ct.of B41 rfl fun h r=>Tr.eq (B43 ..) ?_;refine Je ?_
 (refine Ja ?_;unhygienic intros)
 refine Yf rfl ?_
 (refine Jb ?_;unhygienic intros)
 refine Yc (Es0 24 a c l hl (by simp [B4])) ?_;rintro _ h ⟨a1,c1,rfl,o⟩<;>(refine Jg o ?_;unhygienic intros)
 refine Yc (Ih6 a1 c1 l hl) ?_;rintro _ h ⟨rfl,o⟩<;>(refine Jg o ?_;unhygienic intros)
 cases hk:isS l with
 | false =>
  (refine Ja ?_;unhygienic intros)
  refine Ys fun o=>?_
  exact ⟨rfl,o.sub⟩
 | true =>
  (refine Ja ?_;unhygienic intros)
  refine Ys fun o=>?_
  exact ⟨rfl,o.sub⟩
def Z8 (l:List UInt8):ProcS × Int:=if l.all (·==0) then (.zero,0) else if isS l then (Be0 l,1) else (.zero,2)
theorem Hx4 (a:Option Addr) (c:Nat) (l:List UInt8) (hl:l.length=24):Ct B2 A71 [.slice a 24 c] [slC false A7 1 a 24 c (A5 l)] fun v own=>v=.tuple ⟨[.agg ⟨E2 (Z8 l).1⟩,int (Z8 l).2]⟩∧own [slC false A7 1 a 24 c (A5 l)]:=by
 refine Ct.of Gm8 rfl fun h r=>Tr.eq (Gj2 ..) ?_;refine Je ?_
 refine Yn fun b1 h=>?_
 refine Yb (Yt rfl ?_)
 refine Tr.pcall (Em2 24 a c l hl (by simp [B4])) ?_;refine Je ?_;(refine Jb ?_;unhygienic intros)
 refine Ys fun o=>(?_:Tr _ _ _ _) o;refine Je ?_
 cases hb:l.all (·==0) with
 | true =>
  (refine Ja ?_;unhygienic intros)
  refine Ys fun o=>?_
  exact ⟨by unfold Z8;rw [hb];rfl,o.sub⟩
 | false =>
  (refine Jb ?_;unhygienic intros)
  refine Yc (Gr4) ?_;rintro _ h ⟨k,rfl,o⟩<;>(refine Jg o ?_;unhygienic intros)
  refine Yc (Hk1 k a c l hl) ?_;rintro _ h ⟨rfl,o⟩<;>(refine Jg o ?_;unhygienic intros)
  cases hk:isS l with
  | false =>
   (refine Ja ?_;unhygienic intros)
   refine Ys fun o=>?_
   exact ⟨by unfold Z8;rw [hb,hk];rfl,o.sub⟩
  | true =>
   (refine Ja ?_;unhygienic intros)
   refine Ys fun o=>?_
   exact ⟨by unfold Z8;rw [hb,hk];rfl,o.sub⟩
def L6 (l:List UInt8) (a:Nat) (b:List UInt8):List UInt8:=l.take a++b++l.drop (a+b.length)
theorem Af7 {l b:List UInt8} {a:Nat} (h:a+b.length≤l.length):(L6 l a b).length=l.length:=by simp [L6];omega
theorem Bm3 {l b:List UInt8} {a:Nat} (h:a+b.length≤l.length) (i:Nat):(L6 l a b)[i]?=if a≤i∧i<a+b.length then b[i-a]? else l[i]?:=by
 unfold L6
 by_cases h1:i<a
 ·rw [if_neg (by omega),List.append_assoc,List.getElem?_append_left (by simp;omega),List.getElem?_take,if_pos h1]
 ·rw [List.append_assoc,List.getElem?_append_right (by simp;omega),List.length_take,Nat.min_eq_left (by omega)]
  by_cases h2:i<a+b.length
  ·rw [if_pos ⟨by omega,h2⟩,List.getElem?_append_left (by omega)]
  ·rw [if_neg (by omega),List.getElem?_append_right (by omega),List.getElem?_drop];congr 1;omega
def slice (l:List UInt8) (a n:Nat):List UInt8:=(l.drop a).take n
theorem Bw2 (l:List UInt8) (a n i:Nat):(slice l a n)[i]?=if i<n then l[a+i]? else none:=by
 unfold slice;rw [List.getElem?_take];split
 ·rw [List.getElem?_drop]
 ·rfl
theorem Gt3 {l:List UInt8} {a n:Nat} (h:a+n≤l.length):(slice l a n).length=n:=by simp [slice];omega
abbrev Rg:=List (Nat × Nat)
def A19:List UInt8→Rg→List (List UInt8)→List UInt8
 | l,(lo,_)::rg,x::m=>A19 (L6 l lo x) rg m
 | l,_,_=>l
structure Fit (size:Nat) (rg:Rg) (m:List (List UInt8)):Prop where
 len:m.length=rg.length
 each:∀ (j lo n:Nat),rg[j]?=some (lo,n)→lo+n≤size∧∃ x,m[j]?=some x∧x.length=n
def RgOk (rg:Rg):Prop:=∀ (i j lo n lo' n':Nat),i≠j→rg[i]?=some (lo,n)→rg[j]?=some (lo',n')→lo+n≤lo'∨lo'+n'≤lo
theorem Fit.tail {size:Nat} {p:Nat × Nat} {rg:Rg} {x:List UInt8} {m:List (List UInt8)} (f:Fit size (p::rg) (x::m)):Fit size rg m:=⟨by simpa using f.len,fun j lo n h=>by simpa using f.each (j+1) lo n (by simpa using h)⟩
theorem Fit.head {size lo n:Nat} {rg:Rg} {x:List UInt8} {m:List (List UInt8)} (f:Fit size ((lo,n)::rg) (x::m)):lo+n≤size∧x.length=n:=by
 obtain ⟨h,y,hy,hl⟩:=f.each 0 lo n rfl
 simp at hy;subst hy;exact ⟨h,hl⟩
theorem RgOk.tail {p:Nat × Nat} {rg:Rg} (k:RgOk (p::rg)):RgOk rg:=fun i j lo n lo' n' hij hi hj=>k (i+1) (j+1) lo n lo' n' (by omega) (by simpa using hi) (by simpa using hj)
theorem Dq3:∀ {rg:Rg} {m:List (List UInt8)} {l:List UInt8},Fit l.length rg m→(A19 l rg m).length=l.length
 | [],m,l,f=>by simp [A19]
 | (lo,n)::rg,[],l,f=>by simp [A19]
 | (lo,n)::rg,x::m,l,f=>by
  have h:=f.head
  have e:=Af7 (l:=l) (b:=x) (a:=lo) (by omega)
  unfold A19
  rw [Dq3 (by rw [e];exact f.tail),e]
theorem Dn1:∀ {rg:Rg} {m:List (List UInt8)} {l:List UInt8},Fit l.length rg m→∀ i,(∀ (j lo n:Nat),rg[j]?=some (lo,n)→i<lo∨lo+n≤i)→(A19 l rg m)[i]?=l[i]?
 | [],m,l,f,i,h=>by simp [A19]
 | (lo,n)::rg,[],l,f,i,h=>by simp [A19]
 | (lo,n)::rg,x::m,l,f,i,h=>by
  have h0:=f.head
  have e:=Af7 (l:=l) (b:=x) (a:=lo) (by omega)
  unfold A19
  rw [Dn1 (by rw [e];exact f.tail) i (fun j lo' n' hj=>h (j+1) lo' n' (by simpa using hj)),Bm3 (by omega),if_neg]
  have:=h 0 lo n rfl;omega
theorem B75:∀ {rg:Rg} {m:List (List UInt8)} {l:List UInt8},Fit l.length rg m→RgOk rg→∀ (j lo n:Nat) (x:List UInt8),rg[j]?=some (lo,n)→m[j]?=some x→∀ i,i<n→(A19 l rg m)[lo+i]?=x[i]?
 | [],m,l,f,k,j,lo,n,x,h,hx,i,hi=>by simp at h
 | (lo0,n0)::rg,[],l,f,k,j,lo,n,x,h,hx,i,hi=>by simp at hx
 | (lo0,n0)::rg,x0::m,l,f,k,j,lo,n,x,h,hx,i,hi=>by
  have h0:=f.head
  have e:=Af7 (l:=l) (b:=x0) (a:=lo0) (by omega)
  unfold A19
  cases j with
  | zero =>
   simp at h hx
   obtain ⟨rfl,rfl⟩:=h;subst hx
   rw [Dn1 (by rw [e];exact f.tail) (lo0+i) (fun j lo' n' hj=>by
    have:=k 0 (j+1) lo0 n0 lo' n' (by omega) rfl (by simpa using hj)
    omega),Bm3 (by omega),if_pos (by omega)]
   congr 1;omega
  | succ j=>exact B75 (by rw [e];exact f.tail) k.tail j lo n x (by simpa using h) (by simpa using hx) i hi
theorem Ht4 {rg:Rg} {m:List (List UInt8)} {l:List UInt8} (f:Fit l.length rg m) (k:RgOk rg) {j lo n:Nat} {x:List UInt8} (h:rg[j]?=some (lo,n)) (hx:m[j]?=some x) {a c:Nat} (hc:a+c≤n):slice (A19 l rg m) (lo+a) c=slice x a c:=by
 refine List.ext_getElem? fun i=>?_
 rw [Bw2,Bw2]
 split
 ·rw [Nat.add_assoc,B75 f k j lo n x h hx (a+i) (by omega)]
 ·rfl
theorem Fit.set {size:Nat} {rg:Rg} {m:List (List UInt8)} (f:Fit size rg m) {j lo n:Nat} (h:rg[j]?=some (lo,n)) {y:List UInt8} (hy:y.length=n):Fit size rg (m.set j y):=⟨by simpa using f.len,fun i lo' n' hi=>by
 obtain ⟨h1,z,hz,hl⟩:=f.each i lo' n' hi
 refine ⟨h1,?_⟩
 by_cases hij:j=i
 ·subst hij
  rw [h] at hi;cases hi
  exact ⟨y,by simp [(List.getElem?_eq_some_iff.1 hz).1],hy⟩
 ·exact ⟨z,by rw [List.getElem?_set_ne hij];exact hz,hl⟩⟩
theorem He4 {rg:Rg} {m:List (List UInt8)} {l:List UInt8} (f:Fit l.length rg m) (k:RgOk rg) {j lo n:Nat} {x:List UInt8} (h:rg[j]?=some (lo,n)) (hx:m[j]?=some x) {a:Nat} {b:List UInt8} (hc:a+b.length≤n):L6 (A19 l rg m) (lo+a) b=A19 l rg (m.set j (L6 x a b)):=by
 obtain ⟨h1,y,hy,hl⟩:=f.each j lo n h
 rw [hx] at hy;cases hy
 have e:=Af7 (l:=x) (b:=b) (a:=a) (by omega)
 have f2:=f.set h (y:=L6 x a b) (by omega)
 have lp:=Dq3 f
 refine List.ext_getElem? fun i=>?_
 rw [Bm3 (by omega)]
 by_cases hi:lo≤i∧i<lo+n
 ·obtain ⟨i',rfl⟩:∃ i',i=lo+i':=⟨i-lo,by omega⟩
  rw [B75 f2 k j lo n (L6 x a b) h (by simp [(List.getElem?_eq_some_iff.1 hx).1]) i' (by omega),Bm3 (by omega),B75 f k j lo n x h hx i' (by omega)]
  by_cases h2:a≤i'∧i'<a+b.length
  ·rw [if_pos (by omega),if_pos h2];congr 1;omega
  ·rw [if_neg (by omega),if_neg h2]
 ·rw [if_neg (by omega)]
  by_cases ho:∃ (j' lo' n':Nat),rg[j']?=some (lo',n')∧lo'≤i∧i<lo'+n'
  ·obtain ⟨j',lo',n',hj',h3,h4⟩:=ho
   have hne:j≠j':=fun e=>by subst e;rw [h] at hj';cases hj';omega
   obtain ⟨_,z,hz,_⟩:=f.each j' lo' n' hj'
   obtain ⟨i',rfl⟩:∃ i',i=lo'+i':=⟨i-lo',by omega⟩
   rw [B75 f k j' lo' n' z hj' hz i' (by omega),B75 f2 k j' lo' n' z hj' (by rw [List.getElem?_set_ne hne];exact hz) i' (by omega)]
  ·have hall:∀ (j' lo' n':Nat),rg[j']?=some (lo',n')→i<lo'∨lo'+n'≤i:=fun j' lo' n' hj'=>by
    by_cases hh:lo'≤i∧i<lo'+n'
    ·exact absurd ⟨j',lo',n',hj',hh.1,hh.2⟩ ho
    ·omega
   rw [Dn1 f i hall,Dn1 f2 i hall]
structure RecS where
 kind:Int
 index:Int
deriving DecidableEq
abbrev Z7 (r:RecS):List Value:=[int r.kind,int r.index]
structure Fr where
 S:KS
 N:Nat
 env:Int
 caps:List Int
 rg:Rg
structure FrOk (F:Fr):Prop where
 ok:KOk F.N F.S
 hN:F.N+1<1000000000
 ne:0<F.caps.length
 small:F.caps.length≤40
 len:F.rg.length=F.caps.length
 env:¬ (F.env<0∨F.env≥(F.S.envs.length:Int))
 pl:∀ (j:Nat) (cap:Int) (lo n:Nat),F.caps[j]?=some cap→F.rg[j]?=some (lo,n)→∀ (a m:Nat) (right:Int),right=1∨right=2→a+m≤n→Q1 F.S.tabs F.S.regs F.env cap right a m=(((lo+a:Nat):Int),0)
 dj:RgOk F.rg
 own:∃ lo,F.rg[0]?=some (lo,492)
 brs:∀ (j lo n:Nat),0<j→F.rg[j]?=some (lo,n)→n=40
def Fr.at (F:Fr) (m:List (List UInt8)):KS:=Bp4 F.S (A19 F.S.mem F.rg m)
structure CX where
 m:List (List UInt8)
 bad:List RecS
def Ah2:Nat→List RecS→List MapEntry
 | _,[]=>[]
 | i,r::l=>{ key:=.agg ⟨Z7 r⟩,val:=int 1,born:=i }::Ah2 (i+1) l
abbrev Ip8 (c k:Nat) (env:Int) (caps:List Int) (bad:List RecS) (x:Option Addr × Nat × Nat):List HP :=
 [pt c (.cells Dh2 false [P0 k,int env,.slice x.1 caps.length x.2.1,.map (some x.2.2)]),slC false B7 1 x.1 caps.length x.2.1 (caps.map int),pt x.2.2 (.map (Ah2 0 bad) bad.length)]
def W5 (c k:Nat) (env:Int) (caps:List Int) (bad:List RecS):HP:=hex fun x=>sl (Ip8 c k env caps bad x)
instance {c k:Nat} {env:Int} {caps:List Int} {bad:List RecS}:Chk (W5 c k env caps bad) (Ip8 c k env caps bad):=⟨rfl⟩
abbrev cmF (c k:Nat) (F:Fr) (x:CX):List HP:=[E5 k (F.at x.m),W5 c k F.env F.caps x.bad,pu (Fit F.S.mem.length F.rg x.m)]
def cmC (c k:Nat) (F:Fr) (x:CX):HP:=hex fun _:Unit=>sl (cmF c k F x)
instance {c k:Nat} {F:Fr} {x:CX}:Chk (cmC c k F x) (fun _:Unit=>cmF c k F x):=⟨rfl⟩
def U8 (nc:Nat) (kind:Int):Int:=if kind=1 then 8 else if kind=2 then 12 else if kind=3 then 3+nc else 1
def H2 (nc:Nat) (r:RecS):Option (Nat × Nat × Nat) :=
 if r.index<0∨r.index≥U8 nc r.kind then none
 else if r.kind=1 then some (0,24*r.index.toNat,24)
 else if r.kind=2 then some (0,192+8*r.index.toNat,8)
 else if r.kind=3 then if r.index<4 then some (0,288+40*r.index.toNat,40) else some (r.index.toNat-3,0,40)
 else if r.kind=4 then some (0,448,40)
 else some (0,488,4)
def G27 (caps:List Int):Option (Nat × Nat × Nat)→List Value
 | some (j,a,n)=>[int (caps.getD j 0),int a,int n]
 | none=>[int 0,int 0,int 0]
theorem G52 (c k:Nat) (env:Int) (caps:List Int) (bad:List RecS) (kind:Int) (hs:caps.length≤40):CtP B2 Ab7 [P0 c,int kind] [W5 c k env caps bad] (int (U8 caps.length kind)):=by
 have e:IntKind.wrap .i64 (IntKind.wrap .i64 (4+(caps.length:Int))-1)=3+(caps.length:Int):=by rw [B3,B3];omega
 refine CtP.of D36 rfl fun h r=>Tr.eq (Dz7 ..) ?_;refine Je ?_
 refine B8 (W5 c k env caps bad) fun ⟨a,n,mb⟩=>?_;refine Je ?_
 unfold U8
 by_cases h1:kind=1
 ·refine Yt (by simpa using h1) ?_
  rw [if_pos h1];exact Jz
 refine Yf (by simpa using h1) ?_
 rw [if_neg h1]
 by_cases h2:kind=2
 ·refine Yt (by simpa using h2) ?_
  rw [if_pos h2];exact Jz
 refine Yf (by simpa using h2) ?_
 rw [if_neg h2]
 by_cases h3:kind=3
 ·refine Yt (by simpa using h3) ?_
  rw [if_pos h3];(refine Ja ?_;unhygienic intros)
  refine Ys fun o=>?_
  rw [e];exact ⟨by first|rfl|trivial,by first|rfl|trivial⟩
 refine Yf (by simpa using h3) ?_
 rw [if_neg h3];exact Jz
theorem Er3 (c k:Nat) (env:Int) (caps:List Int) (bad:List RecS) (rc:RecS) (hs:caps.length≤40) (hn:0<caps.length):Ct B2 Q5 [P0 c,.agg ⟨Z7 rc⟩] [W5 c k env caps bad] fun v own =>
  v=.tuple ⟨[.agg ⟨G27 caps (H2 caps.length rc)⟩,.bool (H2 caps.length rc).isSome]⟩∧own [W5 c k env caps bad]:=by
 have hg:∀ j,j<caps.length→(caps.map int)[j]?=some (int (caps.getD j 0)):=fun j hj=>by rw [List.getElem?_map,O2 0 hj];rfl
 refine Ct.of Du2 rfl fun h r=>Tr.eq (Du3 ..) ?_;refine Je ?_
 (refine Jb ?_;unhygienic intros)
 refine Tr.orG (c:=decide (rc.index≥U8 caps.length rc.kind)) (fun hb=>?_) ?_
 ·(refine Ja ?_;unhygienic intros)
  refine Tr.pcall (G52 c k env caps bad rc.kind hs) ?_;refine Je ?_;exact Jz
 by_cases hi:rc.index<0∨rc.index≥U8 caps.length rc.kind
 ·refine Yt (by simp only [Bool.or_eq_true,decide_eq_true_eq];exact hi) ?_
  have e:H2 caps.length rc=none:=by unfold H2;rw [if_pos hi]
  rw [e]
  (refine Ja ?_;unhygienic intros)
  refine Ys fun o=>?_
  exact ⟨rfl,o.sub⟩
 refine Yf (by simp only [Bool.or_eq_false_iff,decide_eq_false_iff_not];omega) ?_
 refine B8 (W5 c k env caps bad) fun ⟨a,n,mb⟩=>?_;refine Je ?_
 (refine Ja ?_;unhygienic intros;repeat(refine Gw ?_;rintro px rfl;refine Ja ?_;unhygienic intros))
 refine Tr.xIntS (v:=caps.getD 0 0) (hg 0 hn) ?_
 (refine Ja ?_;unhygienic intros)
 by_cases h1:rc.kind=1
 ·refine Yt (by simpa using h1) ?_
  have e:H2 caps.length rc=some (0,24*rc.index.toNat,24):=by unfold H2;rw [if_neg hi,if_pos h1]
  have hm:U8 caps.length rc.kind=8:=by unfold U8;rw [if_pos h1]
  have e1:IntKind.wrap .i64 (24*rc.index)=((24*rc.index.toNat:Nat):Int):=by rw [B3];omega
  rw [e,e1]
  (refine Ja ?_;unhygienic intros)
  refine B6 (W5 c k env caps bad) ⟨some px,n,mb⟩ ?_;refine Je ?_
  refine Ys fun o=>?_
  exact ⟨rfl,o.sub⟩
 refine Yf (by simpa using h1) ?_
 by_cases h2:rc.kind=2
 ·(refine Ja ?_;unhygienic intros)
  refine Yt (by simpa using h2) ?_
  have e:H2 caps.length rc=some (0,192+8*rc.index.toNat,8):=by unfold H2;rw [if_neg hi,if_neg h1,if_pos h2]
  have hm:U8 caps.length rc.kind=12:=by unfold U8;rw [if_neg h1,if_pos h2]
  have e1:IntKind.wrap .i64 (192+IntKind.wrap .i64 (8*rc.index))=((192+8*rc.index.toNat:Nat):Int):=by rw [B3,B3];omega
  rw [e,e1]
  (refine Ja ?_;unhygienic intros)
  refine B6 (W5 c k env caps bad) ⟨some px,n,mb⟩ ?_;refine Je ?_
  refine Ys fun o=>?_
  exact ⟨rfl,o.sub⟩
 (refine Ja ?_;unhygienic intros)
 refine Yf (by simpa using h2) ?_
 (refine Jb ?_;unhygienic intros)
 refine Tr.andG (c:=decide (rc.index<4)) (fun hb=>?_) ?_
 ·exact Jz
 by_cases h3:rc.kind=3
 ·have hm:U8 caps.length rc.kind=3+caps.length:=by unfold U8;rw [if_neg h1,if_neg h2,if_pos h3]
  by_cases h4:rc.index<4
  ·refine Yt (by simp [h3,h4]) ?_
   have e:H2 caps.length rc=some (0,288+40*rc.index.toNat,40):=by unfold H2;rw [if_neg hi,if_neg h1,if_neg h2,if_pos h3,if_pos h4]
   have e1:IntKind.wrap .i64 (288+IntKind.wrap .i64 (40*rc.index))=((288+40*rc.index.toNat:Nat):Int):=by rw [B3,B3];omega
   rw [e,e1]
   (refine Ja ?_;unhygienic intros)
   refine B6 (W5 c k env caps bad) ⟨some px,n,mb⟩ ?_;refine Je ?_
   refine Ys fun o=>?_
   exact ⟨rfl,o.sub⟩
  ·refine Yf (by simp [h4]) ?_
   have e:H2 caps.length rc=some (rc.index.toNat-3,0,40):=by unfold H2;rw [if_neg hi,if_neg h1,if_neg h2,if_pos h3,if_neg h4]
   have e1:IntKind.wrap .i64 (IntKind.wrap .i64 (rc.index-4)+1)=((rc.index.toNat-3:Nat):Int):=by rw [B3,B3];omega
   rw [e,e1]
   (refine Ja ?_;unhygienic intros)
   refine Yt (by simpa using h3) ?_
   (refine Ja ?_;unhygienic intros)
   rw [Int.toNat_natCast]
   refine Je ?_
   refine Tr.xIntS (v:=caps.getD (rc.index.toNat-3) 0) (hg _ (by omega)) ?_
   (refine Ja ?_;unhygienic intros)
   refine B6 (W5 c k env caps bad) ⟨some px,n,mb⟩ ?_;refine Je ?_
   refine Ys fun o=>?_
   exact ⟨rfl,o.sub⟩
 refine Yf (by simp [h3]) ?_
 (refine Ja ?_;unhygienic intros)
 refine Yf (by simpa using h3) ?_
 (refine Ja ?_;unhygienic intros)
 by_cases h4:rc.kind=4
 ·refine Yt (by simpa using h4) ?_
  have e:H2 caps.length rc=some (0,448,40):=by unfold H2;rw [if_neg hi,if_neg h1,if_neg h2,if_neg h3,if_pos h4]
  rw [e]
  (refine Ja ?_;unhygienic intros)
  refine B6 (W5 c k env caps bad) ⟨some px,n,mb⟩ ?_;refine Je ?_
  refine Ys fun o=>?_
  exact ⟨rfl,o.sub⟩
 refine Yf (by simpa using h4) ?_
 have e:H2 caps.length rc=some (0,488,4):=by unfold H2;rw [if_neg hi,if_neg h1,if_neg h2,if_neg h3,if_neg h4]
 rw [e]
 (refine Ja ?_;unhygienic intros)
 refine B6 (W5 c k env caps bad) ⟨some px,n,mb⟩ ?_;refine Je ?_
 refine Ys fun o=>?_
 exact ⟨rfl,o.sub⟩
theorem H69:Aj9 PR 8 D9=some [TypeDesc.int .i64,TypeDesc.int .i64]:=by kernel_rfl
theorem Ik4:Ec9 PR D9=some true:=by kernel_rfl
instance {a b:Int}:KeyC PR D9 (.agg ⟨[.int .i64 a,.int .i64 b]⟩):=⟨fun x=>by
 unfold NN.keyN;rw [H69,Ik4];rfl⟩
theorem El5 (r:RecS):∀ (l:List RecS) (i j:Nat),Ai2 (.agg ⟨Z7 r⟩) (Ah2 j l) i=some (if r ∈ l then some (i+l.idxOf r) else none)
 | [],i,j=>by simp [Ah2,Ai2]
 | q::l,i,j=>by
  have ih:=El5 r l (i+1) (j+1)
  obtain ⟨qk,qi⟩:=q
  obtain ⟨rk,ri⟩:=r
  simp only [Ah2,Ai2,Be6,Z7,eqs,eq1,decide_true,List.mem_cons] at ih ⊢
  by_cases h:rk=qk∧ri=qi
  ·obtain ⟨rfl,rfl⟩:=h
   simp
  ·have e:(rk==qk && (ri==qi && true))=false:=by
    rw [Bool.and_eq_false_iff]
    by_cases h1:rk=qk
    ·right;simp;intro h2;exact h ⟨h1,h2⟩
    ·left;simpa using h1
   have hne:¬ (({ kind:=rk,index:=ri }:RecS)={ kind:=qk,index:=qi }):=fun e=>by
    rw [RecS.mk.injEq] at e;exact h e
   rw [e]
   simp only [hne,false_or]
   rw [ih,List.idxOf_cons]
   have:(({ kind:=qk,index:=qi }:RecS)=={ kind:=rk,index:=ri })=false:=by
    rw [beq_eq_false_iff_ne];exact fun e=>hne e.symm
   rw [this,cond_false]
   split<;>simp;omega
theorem Dp5:∀ (l:List RecS) (j:Nat),(Ah2 j l).length=l.length
 | [],_=>rfl
 | _::l,j=>by simp [Ah2,Dp5 l]
theorem G20:∀ (l:List RecS) (j i:Nat) (r:RecS),l[i]?=some r→(Ah2 j l)[i]?=some { key:=.agg ⟨Z7 r⟩,val:=int 1,born:=j+i }
 | [],_,i,r,h=>by simp at h
 | q::l,j,0,r,h=>by simp at h;subst h;rfl
 | q::l,j,i+1,r,h=>by
  have:=G20 l (j+1) i r (by simpa using h)
  rw [Ah2,List.getElem?_cons_succ,this];congr 2;omega
theorem Bw7 (r:RecS) (l:List RecS):Al6 (int 0) (.agg ⟨Z7 r⟩) (Ah2 0 l)=some (if r ∈ l then (int 1,true) else (int 0,false)):=by
 unfold Al6
 rw [El5]
 by_cases h:r ∈ l
 ·rw [if_pos h,if_pos h]
  have hi:=List.idxOf_lt_length_of_mem h
  have hg:l[l.idxOf r]?=some r:=by rw [List.getElem?_eq_getElem hi,List.getElem_idxOf]
  simp only [Nat.zero_add]
  rw [G20 l 0 _ r hg]
 ·rw [if_neg h,if_neg h]
theorem Ha4:∀ (l m:List RecS) (j:Nat),Ah2 j (l++m)=Ah2 j l++Ah2 (j+l.length) m
 | [],m,j=>by simp [Ah2]
 | q::l,m,j=>by simp only [List.cons_append,Ah2,Ha4 l m (j+1),List.length_cons];congr 2;congr 1;omega
theorem Ed6 {r:RecS} {l:List RecS} (h:¬ r ∈ l):D17 (int 0) (.agg ⟨Z7 r⟩) (Ah2 0 l) l.length=some (int 0,l.length,.map (Ah2 0 l++[{ key:=.agg ⟨Z7 r⟩,val:=int 0,born:=l.length }]) (l.length+1)):=by
 unfold D17;rw [El5,if_neg h]
theorem Gr1 (r:RecS) (e:MapEntry):∀ (l:List RecS) (i j:Nat),¬ r ∈ l→Ai2 (.agg ⟨Z7 r⟩) (Ah2 j l++[e]) i=Ai2 (.agg ⟨Z7 r⟩) [e] (i+l.length)
 | [],i,j,h=>by simp [Ah2]
 | q::l,i,j,h=>by
  have ih:=Gr1 r e l (i+1) (j+1) (fun hm=>h (List.mem_cons_of_mem _ hm))
  have hq:Be6 (.agg ⟨Z7 r⟩) (.agg ⟨Z7 q⟩)=some false:=by
   obtain ⟨qk,qi⟩:=q
   obtain ⟨rk,ri⟩:=r
   simp only [Be6,Z7,eqs,eq1,decide_true]
   congr 1
   rw [Bool.and_eq_false_iff]
   by_cases h1:rk=qk
   ·right;simp;intro h2;exact h (by subst h1 h2;exact List.mem_cons_self ..)
   ·left;simpa using h1
  show (match Be6 (.agg ⟨Z7 r⟩) (.agg ⟨Z7 q⟩) with
   | some true=>some (some i)
   | some false=>Ai2 (.agg ⟨Z7 r⟩) (Ah2 (j+1) l++[e]) (i+1)
   | none=>none)=_
  rw [hq]
  simp only
  rw [ih];congr 1;simp;omega
theorem Dv1 {r:RecS} {l:List RecS} (h:¬ r ∈ l):Al6 (int 0) (.agg ⟨Z7 r⟩) (Ah2 0 l++[{ key:=.agg ⟨Z7 r⟩,val:=int 0,born:=l.length }])=some (int 0,true):=by
 unfold Al6
 rw [Gr1 r _ l 0 0 h]
 obtain ⟨rk,ri⟩:=r
 simp only [Ai2,Be6,Z7,eqs,eq1,decide_true,BEq.rfl,Bool.and_self,Nat.zero_add]
 rw [List.getElem?_append_right (by rw [Dp5];exact Nat.le_refl _),Dp5];simp
theorem Db7:∀ (l:List RecS) (j:Nat) (n:Nat) (e:MapEntry) (i:Nat),e.born=n→j+l.length≤n→Bk6 (n:Int) (Ah2 j l++[e]) i=some (i+l.length)
 | [],j,n,e,i,h,hl=>by simp [Ah2,Bk6,h]
 | q::l,j,n,e,i,h,hl=>by
  have ih:=Db7 l (j+1) n e (i+1) h (by simp at hl;omega)
  simp only [Ah2,List.cons_append,Bk6]
  have:(((j:Nat):Int)==(n:Int))=false:=by simp at hl ⊢;omega
  rw [this,cond_false,ih];congr 1;simp;omega
theorem Gp1 (f:MapEntry→MapEntry) (e:MapEntry):∀ (l:List MapEntry),modN f l.length (l++[e])=l++[f e]
 | []=>rfl
 | q::l=>by simp [modN,Gp1 f e l]
theorem Eb6 (r:RecS) (l:List RecS):modN (fun e=>{ e with val:=int (IntKind.wrap .i64 (0+1)) }) l.length (Ah2 0 l++[{ key:=.agg ⟨Z7 r⟩,val:=int 0,born:=l.length }])=Ah2 0 (l++[r]):=by
 rw [show l.length=(Ah2 0 l).length from (Dp5 l 0).symm,Gp1,Ha4]
 simp [Ah2,Dp5];decide
theorem Fr.mem_at (F:Fr) (m:List (List UInt8)):(F.at m).mem=A19 F.S.mem F.rg m:=rfl
theorem Fr.at_ok {F:Fr} (k:FrOk F) {m:List (List UInt8)} (f:Fit F.S.mem.length F.rg m):KOk F.N (F.at m):=by
 have:=k.ok
 exact ⟨this.envs,this.tabs,this.space,this.quota,by rw [Fr.mem_at,Dq3 f];exact this.mem,this.regs,this.may,this.mayl,this.nsect,this.sects,this.now⟩
theorem Ia5 {F:Fr} (k:FrOk F) {r:RecS} {j a n:Nat} (h:H2 F.caps.length r=some (j,a,n)):∃ lo z,F.rg[j]?=some (lo,z)∧a+n≤z∧j<F.caps.length:=by
 obtain ⟨lo0,h0⟩:=k.own
 have hl:=k.len;have hn:=k.ne
 unfold H2 at h
 split at h;· cases h
 rename_i hi
 split at h
 ·rename_i h1
  have hm:U8 F.caps.length r.kind=8:=by unfold U8;rw [if_pos h1]
  cases h;exact ⟨lo0,492,h0,by omega,hn⟩
 rename_i h1
 split at h
 ·rename_i h2
  have hm:U8 F.caps.length r.kind=12:=by unfold U8;rw [if_neg h1,if_pos h2]
  cases h;exact ⟨lo0,492,h0,by omega,hn⟩
 rename_i h2
 split at h
 ·rename_i h3
  have hm:U8 F.caps.length r.kind=3+F.caps.length:=by unfold U8;rw [if_neg h1,if_neg h2,if_pos h3]
  split at h
  ·cases h;exact ⟨lo0,492,h0,by omega,hn⟩
  ·cases h
   have hlt:r.index.toNat-3<F.rg.length:=by omega
   have hg:=List.getElem?_eq_getElem hlt
   generalize hx:F.rg[r.index.toNat-3]=x at hg
   obtain ⟨lo,z⟩:=x
   have:=k.brs _ lo z (by omega) hg
   exact ⟨lo,z,hg,by omega,by omega⟩
 split at h<;>(cases h;exact ⟨lo0,492,h0,by omega,hn⟩)
def R0 (kind:Int):Nat:=if kind=1 then 24 else if kind=2 then 8 else if kind=3 then 40 else if kind=4 then 40 else 4
theorem Dj9 {nc:Nat} {r:RecS} {j a n:Nat} (h:H2 nc r=some (j,a,n)):n=R0 r.kind:=by
 unfold H2 at h;unfold R0
 split at h;· cases h
 split at h
 ·rename_i h1;cases h;rw [if_pos h1]
 rename_i h1
 rw [if_neg h1]
 split at h
 ·rename_i h2;cases h;rw [if_pos h2]
 rename_i h2
 rw [if_neg h2]
 split at h
 ·rename_i h3;rw [if_pos h3];split at h<;>(cases h;rfl)
 rename_i h3
 rw [if_neg h3]
 split at h
 ·rename_i h4;cases h;rw [if_pos h4]
 ·rename_i h4;cases h;rw [if_neg h4]
def rdX (X:CX) (r:RecS):Option (List UInt8) :=
 match H2 X.m.length r with
 | some (j,a,n)=>if r ∈ X.bad then none else some (slice (X.m.getD j []) a n)
 | none=>none
def wrX (X:CX) (r:RecS) (b:List UInt8) (ok:Bool):Bool × CX :=
 match H2 X.m.length r with
 | some (j,a,n)=>if ok=true∧¬ r ∈ X.bad then (true,{ X with m:=X.m.set j (L6 (X.m.getD j []) a b) }) else (false,X)
 | none=>(false,X)
theorem Fit.mlen {F:Fr} (k:FrOk F) {m:List (List UInt8)} (f:Fit F.S.mem.length F.rg m):m.length=F.caps.length:=by rw [f.len,k.len]
theorem Eb4 {F:Fr} (k:FrOk F) {m:List (List UInt8)} (f:Fit F.S.mem.length F.rg m) {r:RecS} {j a n:Nat} (h:H2 F.caps.length r=some (j,a,n)) :
  ∃ lo z cap,F.caps[j]?=some cap∧F.rg[j]?=some (lo,z)∧a+n≤z∧m[j]?=some (m.getD j [])∧(m.getD j []).length=z∧lo+z≤F.S.mem.length∧cap=F.caps.getD j 0:=by
 obtain ⟨lo,z,hr,ha,hj⟩:=Ia5 k h
 obtain ⟨h1,x,hx,hl⟩:=f.each j lo z hr
 have e:m.getD j []=x:=by rw [List.getD_eq_getElem?_getD,hx];rfl
 exact ⟨lo,z,F.caps.getD j 0,O2 0 hj,hr,ha,by rw [e];exact hx,by rw [e];exact hl,h1,rfl⟩
theorem Il0 {F:Fr} (k:FrOk F) {X:CX} (f:Fit F.S.mem.length F.rg X.m) {r:RecS} {l:List UInt8} (h:rdX X r=some l):l.length=R0 r.kind:=by
 unfold rdX at h
 rw [f.mlen k] at h
 cases hp:H2 F.caps.length r with
 | none=>rw [hp] at h;cases h
 | some p =>
  obtain ⟨j,a,n⟩:=p
  rw [hp] at h
  obtain ⟨lo,z,cap,_,_,ha,hx,hl,_⟩:=Eb4 k f hp
  simp only at h
  split at h
  ·cases h
  ·cases h;rw [Gt3 (by omega),Dj9 hp]
theorem Ir7 {F:Fr} (k:FrOk F) {m:List (List UInt8)} (f:Fit F.S.mem.length F.rg m) {r:RecS} {j a n:Nat} (h:H2 F.caps.length r=some (j,a,n)) :
  Aa0 (F.at m) F.env ⟨1,F.caps.getD j 0,(a:Int),(n:Int),0,0,[]⟩=((0,0,slice (m.getD j []) a n),F.at m):=by
 obtain ⟨lo,z,cap,hc,hr,ha,hx,hl,hz,rfl⟩:=Eb4 k f h
 have hp:=k.pl j _ lo z hc hr a n 1 (.inl rfl) ha
 have lp:=Dq3 f
 have hb:Dx1 (A19 F.S.mem F.rg m) ((lo+a:Nat):Int) (n:Int)=some (slice (m.getD j []) a n):=by
  unfold Dx1
  rw [if_pos (by rw [lp];omega),Int.toNat_natCast,Int.toNat_natCast]
  rw [← Ht4 f k.dj hr hx ha];rfl
 have e:Aq7 (F.at m).tabs (F.at m).regs (F.at m).mem F.env (F.caps.getD j 0) (a:Int) (n:Int)=(slice (m.getD j []) a n,0):=by
  unfold Aq7
  rw [show Q1 (F.at m).tabs (F.at m).regs F.env (F.caps.getD j 0) 1 (a:Int) (n:Int)=(((lo+a:Nat):Int),0) from hp]
  rw [if_neg (by simp),show Dx1 (F.at m).mem _ _=_ from hb]
 unfold Aa0
 rw [if_neg (show ¬ (F.env<0∨F.env≥((F.at m).envs.length:Int)) from k.env)]
 unfold kDo
 rw [if_pos rfl,e]
theorem Im7 {F:Fr} (k:FrOk F) {m:List (List UInt8)} (f:Fit F.S.mem.length F.rg m) {r:RecS} {j a n:Nat} (h:H2 F.caps.length r=some (j,a,n)) {b:List UInt8} (hb:b.length=n) :
  Aa0 (F.at m) F.env ⟨2,F.caps.getD j 0,(a:Int),0,0,0,b⟩=((0,0,[]),F.at (m.set j (L6 (m.getD j []) a b))):=by
 obtain ⟨lo,z,cap,hc,hr,ha,hx,hl,hz,rfl⟩:=Eb4 k f h
 have hp:=k.pl j _ lo z hc hr a n 2 (.inr rfl) ha
 have lp:=Dq3 f
 have hs:Bb6 (A19 F.S.mem F.rg m) ((lo+a:Nat):Int) b=some (A19 F.S.mem F.rg (m.set j (L6 (m.getD j []) a b))):=by
  unfold Bb6
  rw [if_pos (by rw [lp];omega),Int.toNat_natCast]
  rw [← He4 f k.dj hr hx (by omega)];rfl
 have e:Al1 (F.at m).tabs (F.at m).regs (F.at m).mem F.env (F.caps.getD j 0) (a:Int) b=(0,A19 F.S.mem F.rg (m.set j (L6 (m.getD j []) a b))):=by
  unfold Al1
  rw [hb,show Q1 (F.at m).tabs (F.at m).regs F.env (F.caps.getD j 0) 2 (a:Int) (n:Int)=(((lo+a:Nat):Int),0) from hp]
  rw [if_neg (by simp),show Bb6 (F.at m).mem _ _=_ from hs]
 unfold Aa0
 rw [if_neg (show ¬ (F.env<0∨F.env≥((F.at m).envs.length:Int)) from k.env)]
 unfold kDo
 rw [if_neg (show ¬ ((2:Int)=1) by decide),if_pos rfl,e];rfl
theorem Ij0 {F:Fr} (k:FrOk F) {X:CX} (f:Fit F.S.mem.length F.rg X.m) {r:RecS} {b:List UInt8} {ok:Bool} (hb:ok=true→b.length=R0 r.kind):Fit F.S.mem.length F.rg (wrX X r b ok).2.m:=by
 unfold wrX
 rw [f.mlen k]
 cases hp:H2 F.caps.length r with
 | none=>exact f
 | some p =>
  obtain ⟨j,a,n⟩:=p
  obtain ⟨lo,z,cap,hc,hr,ha,hx,hl,hz,_⟩:=Eb4 k f hp
  simp only
  split
  ·rename_i hk
   exact f.set hr (by rw [Af7 (by rw [hb hk.1,← Dj9 hp];omega)];exact hl)
  ·exact f
instance {caps:List Int} {o:Option (Nat × Nat × Nat)}:LenC (G27 caps o) 3:=⟨by cases o<;>rfl⟩
theorem H81 (caps:List Int) (o:Option (Nat × Nat × Nat)):(G27 caps o).all Value.oneCell=true:=by cases o<;>rfl
instance {caps:List Int} {o:Option (Nat × Nat × Nat)} {cs:List Value} [k:LenC cs 3]:SetsC cs 0 (G27 caps o) (G27 caps o):=⟨Bk0 k.ok LenC.ok (H81 caps o)⟩
instance {rc:RecS}:PartC (Z7 rc) 0 2 (Z7 rc):=⟨rfl⟩
theorem Hn8 (r:RecS) (l:List RecS):(if r ∈ l then (int 1,true) else (int 0,false))=(int (if r ∈ l then 1 else 0),decide (r ∈ l)):=by split<;>simp [*]
theorem Hn0 (r:RecS) (l:List RecS):decide ((if r ∈ l then (1:Int) else 0)>0)=decide (r ∈ l):=by split<;>simp [*]
theorem D77 (k:Nat) (S:KS) (N:Nat) (ok:KOk N S) (hN:N+1<1000000000) (env:Int) (c:CallS) (ba:Option Addr) (bc:Nat) (ro:Bool) (h5:c.op≠5) :
  Ct B2 S8 [P0 k,int env,.agg ⟨Bk8 c ba bc⟩] [E5 k S,slC ro A7 1 ba c.b.length bc (A5 c.b)] fun v own=>∃ x d,v=.agg ⟨[int (Aa0 S env c).1.1,int (Aa0 S env c).1.2.1,.slice x (Aa0 S env c).1.2.2.length d]⟩ ∧
    own [slC false A7 1 x (Aa0 S env c).1.2.2.length d (A5 (Aa0 S env c).1.2.2),E5 k (Aa0 S env c).2,slC ro A7 1 ba c.b.length bc (A5 c.b)]:=by
 intro h r o
 obtain ⟨pq,o1⟩:=Own.ex (f:=fun pq=>slX ro A7 1 ba c.b.length bc pq (A5 c.b)) (o.perm (.swap _ _ _))
 obtain ⟨v,h',e,x,d,rfl,o2⟩:=H55 k S N ok hN env c ba bc ro pq h5 h r (o1.perm (.swap _ _ _))
 refine ⟨_,h',e,x,d,rfl,?_⟩
 have o3:=o2.picks [2] rfl
 exact (Own.inex (f:=fun pq=>slX ro A7 1 ba c.b.length bc pq (A5 c.b)) pq o3).picks [1,1,0] rfl
theorem Ee0 (c k:Nat) (F:Fr) (X:CX) (rc:RecS) (ok:FrOk F):Ct B2 O3 [P0 c,.agg ⟨Z7 rc⟩] [cmC c k F X] fun v own =>
  (∃ l a cp,rdX X rc=some l∧l.length=R0 rc.kind∧v=.tuple ⟨[.slice a l.length cp,.bool true]⟩∧own [slC false A7 1 a l.length cp (A5 l),cmC c k F X]) ∨
  (rdX X rc=none∧v=.tuple ⟨[.slice none 0 0,.bool false]⟩∧own [cmC c k F X]):=by
 refine Ct.of Dy7 rfl fun h r=>Tr.eq (D35 ..) ?_;refine Je ?_
 refine B8 (cmC c k F X) fun u=>?_;refine Je ?_
 refine P5 2 rfl fun f=>?_
 (refine Ja ?_;unhygienic intros)
 refine Yc (Er3 c k F.env F.caps X.bad rc ok.small ok.ne) ?_;rintro _ h ⟨rfl,o⟩<;>(refine Jg o ?_;unhygienic intros)
 have em:=f.mlen ok
 cases hp:H2 F.caps.length rc with
 | none =>
  (refine Jb ?_;unhygienic intros)
  refine Yb (Yt rfl ?_)
  refine Ys fun o=>(?_:Tr _ _ _ _) o;refine Je ?_
  (refine Ja ?_;unhygienic intros)
  refine B6 (cmC c k F X) () ?_;refine Je ?_
  refine Ys fun o=>?_
  exact .inr ⟨by unfold rdX;rw [em,hp],rfl,o.sub⟩
 | some p =>
  obtain ⟨j,a,n⟩:=p
  refine B8 (W5 c k F.env F.caps X.bad) fun ⟨ca,cn,mb⟩=>?_;refine Je ?_
  (refine Jb ?_;unhygienic intros)
  refine Tr.orG (c:=decide (rc ∈ X.bad)) (fun _=>?_) ?_
  ·(refine Ja ?_;unhygienic intros)
   rw [Bw7,Hn8]
   (refine Ja ?_;unhygienic intros)
   refine Ys fun o=>?_
   rw [Hn0];exact ⟨by first|rfl|trivial,by first|rfl|trivial⟩
  by_cases hb:rc ∈ X.bad
  ·rw [decide_eq_true hb]
   (refine Ja ?_;unhygienic intros)
   refine B6 (W5 c k F.env F.caps X.bad) ⟨ca,cn,mb⟩ ?_;refine Je ?_
   refine B6 (cmC c k F X) () ?_;refine Je ?_
   refine Ys fun o=>?_
   exact .inr ⟨by unfold rdX;rw [em,hp];exact if_pos hb,rfl,o.sub⟩
  ·rw [decide_eq_false hb]
   refine Yf rfl ?_
   (refine Ja ?_;unhygienic intros)
   refine B6 (W5 c k F.env F.caps X.bad) ⟨ca,cn,mb⟩ ?_;refine Je ?_
   have J:=Ik9 k (F.at X.m) F.N (F.at_ok ok f) ok.hN F.env 1 (F.caps.getD j 0) (a:Int) (n:Int) 0 0 (by decide)
   rw [Ir7 ok f hp] at J
   refine Yc (J) ?_;rintro _ h ⟨y,d,rfl,o⟩<;>(refine Jf o ?_;unhygienic intros)
   refine Yf rfl ?_
   (refine Ja ?_;unhygienic intros)
   refine B6 (cmC c k F X) () ?_;refine Je ?_
   refine Ys fun o=>?_
   have e:rdX X rc=some (slice (X.m.getD j []) a n):=by unfold rdX;rw [em,hp];exact if_neg hb
   exact .inl ⟨_,y,d,e,Il0 ok f e,rfl,o.sub⟩
theorem Bg9 (c k:Nat) (F:Fr) (X:CX) (rc:RecS) (ok:FrOk F) (bs:List UInt8) (g:Bool) (ba:Option Addr) (bc:Nat) (hb:g=true→bs.length=R0 rc.kind) :
  Ct B2 I1 [P0 c,.agg ⟨Z7 rc⟩,.slice ba bs.length bc,.bool g] [cmC c k F X,slC false A7 1 ba bs.length bc (A5 bs)] fun v own =>
   v=.bool (wrX X rc bs g).1∧own [cmC c k F (wrX X rc bs g).2,slC false A7 1 ba bs.length bc (A5 bs)]:=by
 refine Ct.of Du4 rfl fun h r=>Tr.eq (Du0 ..) ?_;refine Je ?_
 refine B8 (cmC c k F X) fun u=>?_;refine Je ?_
 refine P5 2 rfl fun f=>?_
 (refine Ja ?_;unhygienic intros)
 refine Yc (Er3 c k F.env F.caps X.bad rc ok.small ok.ne) ?_;rintro _ h ⟨rfl,o⟩<;>(refine Jg o ?_;unhygienic intros)
 have em:=f.mlen ok
 cases hp:H2 F.caps.length rc with
 | none =>
  (refine Jb ?_;unhygienic intros)
  refine Yb (Yt rfl ?_)
  refine Ys fun o=>(?_:Tr _ _ _ _) o;refine Je ?_
  refine Yb (Yt rfl ?_)
  refine Ys fun o=>(?_:Tr _ _ _ _) o;refine Je ?_
  (refine Ja ?_;unhygienic intros)
  refine B6 (cmC c k F X) () ?_;refine Je ?_
  refine Ys fun o=>?_
  have e:wrX X rc bs g=(false,X):=by unfold wrX;rw [em,hp]
  rw [e]
  exact ⟨by first|rfl|trivial,o.sub⟩
 | some p =>
  obtain ⟨j,a,n⟩:=p
  refine B8 (W5 c k F.env F.caps X.bad) fun ⟨ca,cn,mb⟩=>?_;refine Je ?_
  (refine Jb ?_;unhygienic intros)
  refine Yb (Yf rfl ?_)
  refine Ys fun o=>(?_:Tr _ _ _ _) o;refine Je ?_
  (refine Jb ?_;unhygienic intros)
  refine Tr.orG (c:=decide (rc ∈ X.bad)) (fun _=>?_) ?_
  ·(refine Ja ?_;unhygienic intros)
   rw [Bw7,Hn8]
   (refine Ja ?_;unhygienic intros)
   refine Ys fun o=>?_
   rw [Hn0];exact ⟨by first|rfl|trivial,by first|rfl|trivial⟩
  by_cases hg:g=true∧¬ rc ∈ X.bad
  ·have e:wrX X rc bs g=(true,{ X with m:=X.m.set j (L6 (X.m.getD j []) a bs) }):=by unfold wrX;rw [em,hp];exact if_pos hg
   have f2:=Ij0 (r:=rc) (b:=bs) (ok:=g) ok f hb
   rw [e] at f2
   obtain ⟨rfl,hg2⟩:=hg
   rw [e,decide_eq_false hg2]
   refine Yf rfl ?_
   (refine Ja ?_;unhygienic intros)
   refine B6 (W5 c k F.env F.caps X.bad) ⟨ca,cn,mb⟩ ?_;refine Je ?_
   have hl:bs.length=n:=by rw [hb rfl,Dj9 hp]
   have J:=D77 k (F.at X.m) F.N (F.at_ok ok f) ok.hN F.env ⟨2,F.caps.getD j 0,(a:Int),0,0,0,bs⟩ ba bc false (show ((2:Int)≠5) by decide)
   rw [Im7 ok f hp hl] at J
   refine Yc (J) ?_;rintro _ h ⟨y,d,rfl,o⟩<;>(refine Jf o ?_;unhygienic intros)
   refine Aq0 (show Fit F.S.mem.length F.rg (X.m.set j (L6 (X.m.getD j []) a bs)) from f2) ?_
   refine B6 (cmC c k F { X with m:=X.m.set j (L6 (X.m.getD j []) a bs) }) () ?_;refine Je ?_
   refine Ys fun o=>?_
   exact ⟨rfl,o.sub⟩
  ·have e:wrX X rc bs g=(false,X):=by unfold wrX;rw [em,hp];exact if_neg hg
   rw [e]
   refine Yt ?_ ?_
   ·cases g with
    | false=>rfl
    | true=>simpa using hg
   refine B6 (W5 c k F.env F.caps X.bad) ⟨ca,cn,mb⟩ ?_;refine Je ?_
   refine B6 (cmC c k F X) () ?_;refine Je ?_
   refine Ys fun o=>?_
   exact ⟨by first|rfl|trivial,o.sub⟩
def V3 {α:Type} (dec:List UInt8→α × Int) (z:α) (X:CX) (rc:RecS):(α × Int) × CX :=
 match rdX X rc with
 | some l=>(dec l,if (dec l).2=2 then { X with bad:=X.bad++[rc] } else X)
 | none=>((z,2),X)
theorem Ed0 {X:CX} {rc:RecS} {l:List UInt8} (h:rdX X rc=some l):¬ rc ∈ X.bad:=by
 unfold rdX at h
 split at h
 ·split at h
  ·cases h
  ·assumption
 ·cases h
theorem H34 (l:List UInt8) (h:(Z8 l).2≠1):(Z8 l).1=.zero:=by
 unfold Z8 at *;split<;>first|rfl|(split<;>first|rfl|(simp_all;done))
theorem H07 (l:List UInt8) (h:(Aa9 l).2≠1):(Aa9 l).1=.zero:=by
 unfold Aa9 at *;split<;>first|rfl|(split<;>first|rfl|(simp_all;done))
theorem H14 (l:List UInt8) (h:(Q8 l).2≠1):(Q8 l).1=.zero:=by
 unfold Q8 at *;split<;>first|rfl|(split<;>first|rfl|(simp_all;done))
theorem Ih1 (c k:Nat) (F:Fr) (X:CX) (rc:RecS) (ok:FrOk F) (hk:R0 rc.kind=24):Ct B2 L1 [P0 c,.agg ⟨Z7 rc⟩,.func (.func A71) ⟨[]⟩ ⟨[]⟩] [cmC c k F X] fun v own =>
  v=.tuple ⟨[.agg ⟨E2 (V3 Z8 .zero X rc).1.1⟩,int (V3 Z8 .zero X rc).1.2]⟩∧own [cmC c k F (V3 Z8 .zero X rc).2]:=by
 refine Ct.of Ar0 rfl fun h r=>Tr.eq (Di5 ..) ?_;refine Je ?_
 (refine Ja ?_;unhygienic intros)
 refine Yc (Ee0 c k F X rc ok) ?_
 rintro v h (⟨l,a,cp,hr,hl,rfl,o⟩|⟨hr,rfl,o⟩)
 ·refine (?_:Tr _ _ _ _) o
  refine Je ?_
  have e:V3 Z8 .zero X rc=(Z8 l,if (Z8 l).2=2 then { X with bad:=X.bad++[rc] } else X):=by unfold V3;rw [hr]
  have hb:=Ed0 hr
  rw [e]
  rw [hk] at hl
  rw [hl]
  (refine Ja ?_;unhygienic intros)
  refine Yc (Hx4 a cp l hl) ?_;rintro _ h ⟨rfl,o⟩<;>(refine Jf o ?_;unhygienic intros)
  by_cases h2:(Z8 l).2=2
  ·refine Yt (by simpa using h2) ?_
   have hz:=H34 l (by omega)
   simp only [if_pos h2]
   refine B8 (cmC c k F X) fun u=>?_;refine Je ?_
   refine B8 (W5 c k F.env F.caps X.bad) fun ⟨ca,cn,mb⟩=>?_;refine Je ?_
   (refine Ja ?_;unhygienic intros)
   rw [Bw7,if_neg hb]
   (refine Ja ?_;unhygienic intros)
   rw [Ed6 hb]
   (refine Ja ?_;unhygienic intros)
   rw [Dv1 hb]
   (refine Ja ?_;unhygienic intros)
   rw [Db7 X.bad 0 X.bad.length _ 0 rfl (by omega),Nat.zero_add]
   (refine Ja ?_;unhygienic intros)
   rw [Eb6]
   refine Tr.jmp Ar0 (Tr.eq (A70 ..) ?_);(try simp only[Nr,Nl,wl,Nat.reduceAdd,Nat.reduceMul,Int.reduceToNat])
   refine Yt (by rw [bne_iff_ne];omega) ?_
   (refine Ja ?_;unhygienic intros)
   rw [show X.bad.length+1=(X.bad++[rc]).length by simp]
   refine B6 (W5 c k F.env F.caps (X.bad++[rc])) ⟨ca,cn,mb⟩ ?_;refine Je ?_
   refine B6 (cmC c k F { X with bad:=X.bad++[rc] }) () ?_;refine Je ?_
   refine Ys fun o=>?_
   exact ⟨by rw [hz]<;>rfl,o.sub⟩
  ·refine Yf (by simpa using h2) ?_
   simp only [if_neg h2]
   refine Tr.jmp Ar0 (Tr.eq (A70 ..) ?_);(try simp only[Nr,Nl,wl,Nat.reduceAdd,Nat.reduceMul,Int.reduceToNat])
   by_cases h1:(Z8 l).2=1
   ·refine Yf (by simpa using h1) ?_
    (refine Ja ?_;unhygienic intros)
    refine Ys fun o=>?_
    exact ⟨rfl,o.sub⟩
   ·refine Yt (by simpa using h1) ?_
    (refine Ja ?_;unhygienic intros)
    refine Ys fun o=>?_
    exact ⟨by rw [H34 l h1]<;>rfl,o.sub⟩
 ·refine (?_:Tr _ _ _ _) o
  refine Je ?_
  have e:V3 Z8 .zero X rc=((.zero,2),X):=by unfold V3;rw [hr]
  rw [e]
  (refine Ja ?_;unhygienic intros)
  refine Ys fun o=>?_
  exact ⟨rfl,o.sub⟩
theorem Ii4 (c k:Nat) (F:Fr) (X:CX) (rc:RecS) (ok:FrOk F) (hk:R0 rc.kind=8):Ct B2 J8 [P0 c,.agg ⟨Z7 rc⟩,.func (.func A57) ⟨[]⟩ ⟨[]⟩] [cmC c k F X] fun v own =>
  v=.tuple ⟨[.agg ⟨Af4 (V3 Aa9 .zero X rc).1.1⟩,int (V3 Aa9 .zero X rc).1.2]⟩∧own [cmC c k F (V3 Aa9 .zero X rc).2]:=by
 refine Ct.of Aq4 rfl fun h r=>Tr.eq (Dm0 ..) ?_;refine Je ?_
 (refine Ja ?_;unhygienic intros)
 refine Yc (Ee0 c k F X rc ok) ?_
 rintro v h (⟨l,a,cp,hr,hl,rfl,o⟩|⟨hr,rfl,o⟩)
 ·refine (?_:Tr _ _ _ _) o
  refine Je ?_
  have e:V3 Aa9 .zero X rc=(Aa9 l,if (Aa9 l).2=2 then { X with bad:=X.bad++[rc] } else X):=by unfold V3;rw [hr]
  have hb:=Ed0 hr
  rw [e]
  rw [hk] at hl
  rw [hl]
  (refine Ja ?_;unhygienic intros)
  refine Yc (Hs1 a cp l hl) ?_;rintro _ h ⟨rfl,o⟩<;>(refine Jf o ?_;unhygienic intros)
  by_cases h2:(Aa9 l).2=2
  ·refine Yt (by simpa using h2) ?_
   have hz:=H07 l (by omega)
   simp only [if_pos h2]
   refine B8 (cmC c k F X) fun u=>?_;refine Je ?_
   refine B8 (W5 c k F.env F.caps X.bad) fun ⟨ca,cn,mb⟩=>?_;refine Je ?_
   (refine Ja ?_;unhygienic intros)
   rw [Bw7,if_neg hb]
   (refine Ja ?_;unhygienic intros)
   rw [Ed6 hb]
   (refine Ja ?_;unhygienic intros)
   rw [Dv1 hb]
   (refine Ja ?_;unhygienic intros)
   rw [Db7 X.bad 0 X.bad.length _ 0 rfl (by omega),Nat.zero_add]
   (refine Ja ?_;unhygienic intros)
   rw [Eb6]
   refine Tr.jmp Aq4 (Tr.eq (A54 ..) ?_);(try simp only[Nr,Nl,wl,Nat.reduceAdd,Nat.reduceMul,Int.reduceToNat])
   refine Yt (by rw [bne_iff_ne];omega) ?_
   (refine Ja ?_;unhygienic intros)
   rw [show X.bad.length+1=(X.bad++[rc]).length by simp]
   refine B6 (W5 c k F.env F.caps (X.bad++[rc])) ⟨ca,cn,mb⟩ ?_;refine Je ?_
   refine B6 (cmC c k F { X with bad:=X.bad++[rc] }) () ?_;refine Je ?_
   refine Ys fun o=>?_
   exact ⟨by rw [hz]<;>rfl,o.sub⟩
  ·refine Yf (by simpa using h2) ?_
   simp only [if_neg h2]
   refine Tr.jmp Aq4 (Tr.eq (A54 ..) ?_);(try simp only[Nr,Nl,wl,Nat.reduceAdd,Nat.reduceMul,Int.reduceToNat])
   by_cases h1:(Aa9 l).2=1
   ·refine Yf (by simpa using h1) ?_
    (refine Ja ?_;unhygienic intros)
    refine Ys fun o=>?_
    exact ⟨rfl,o.sub⟩
   ·refine Yt (by simpa using h1) ?_
    (refine Ja ?_;unhygienic intros)
    refine Ys fun o=>?_
    exact ⟨by rw [H07 l h1]<;>rfl,o.sub⟩
 ·refine (?_:Tr _ _ _ _) o
  refine Je ?_
  have e:V3 Aa9 .zero X rc=((.zero,2),X):=by unfold V3;rw [hr]
  rw [e]
  (refine Ja ?_;unhygienic intros)
  refine Ys fun o=>?_
  exact ⟨rfl,o.sub⟩
theorem Hm5 (c k:Nat) (F:Fr) (X:CX) (rc:RecS) (ok:FrOk F) (hk:R0 rc.kind=40):Ct B2 I5 [P0 c,.agg ⟨Z7 rc⟩,.func (.func Aw6) ⟨[]⟩ ⟨[]⟩] [cmC c k F X] fun v own =>
  v=.tuple ⟨[.agg ⟨E3 (V3 Q8 .zero X rc).1.1⟩,int (V3 Q8 .zero X rc).1.2]⟩∧own [cmC c k F (V3 Q8 .zero X rc).2]:=by
 refine Ct.of Aq8 rfl fun h r=>Tr.eq (Di9 ..) ?_;refine Je ?_
 (refine Ja ?_;unhygienic intros)
 refine Yc (Ee0 c k F X rc ok) ?_
 rintro v h (⟨l,a,cp,hr,hl,rfl,o⟩|⟨hr,rfl,o⟩)
 ·refine (?_:Tr _ _ _ _) o
  refine Je ?_
  have e:V3 Q8 .zero X rc=(Q8 l,if (Q8 l).2=2 then { X with bad:=X.bad++[rc] } else X):=by unfold V3;rw [hr]
  have hb:=Ed0 hr
  rw [e]
  rw [hk] at hl
  rw [hl]
  (refine Ja ?_;unhygienic intros)
  refine Yc (Hr7 a cp l hl) ?_;rintro _ h ⟨rfl,o⟩<;>(refine Jf o ?_;unhygienic intros)
  by_cases h2:(Q8 l).2=2
  ·refine Yt (by simpa using h2) ?_
   have hz:=H14 l (by omega)
   simp only [if_pos h2]
   refine B8 (cmC c k F X) fun u=>?_;refine Je ?_
   refine B8 (W5 c k F.env F.caps X.bad) fun ⟨ca,cn,mb⟩=>?_;refine Je ?_
   (refine Ja ?_;unhygienic intros)
   rw [Bw7,if_neg hb]
   (refine Ja ?_;unhygienic intros)
   rw [Ed6 hb]
   (refine Ja ?_;unhygienic intros)
   rw [Dv1 hb]
   (refine Ja ?_;unhygienic intros)
   rw [Db7 X.bad 0 X.bad.length _ 0 rfl (by omega),Nat.zero_add]
   (refine Ja ?_;unhygienic intros)
   rw [Eb6]
   refine Tr.jmp Aq8 (Tr.eq (A67 ..) ?_);(try simp only[Nr,Nl,wl,Nat.reduceAdd,Nat.reduceMul,Int.reduceToNat])
   refine Yt (by rw [bne_iff_ne];omega) ?_
   (refine Ja ?_;unhygienic intros)
   rw [show X.bad.length+1=(X.bad++[rc]).length by simp]
   refine B6 (W5 c k F.env F.caps (X.bad++[rc])) ⟨ca,cn,mb⟩ ?_;refine Je ?_
   refine B6 (cmC c k F { X with bad:=X.bad++[rc] }) () ?_;refine Je ?_
   refine Ys fun o=>?_
   exact ⟨by rw [hz]<;>rfl,o.sub⟩
  ·refine Yf (by simpa using h2) ?_
   simp only [if_neg h2]
   refine Tr.jmp Aq8 (Tr.eq (A67 ..) ?_);(try simp only[Nr,Nl,wl,Nat.reduceAdd,Nat.reduceMul,Int.reduceToNat])
   by_cases h1:(Q8 l).2=1
   ·refine Yf (by simpa using h1) ?_
    (refine Ja ?_;unhygienic intros)
    refine Ys fun o=>?_
    exact ⟨rfl,o.sub⟩
   ·refine Yt (by simpa using h1) ?_
    (refine Ja ?_;unhygienic intros)
    refine Ys fun o=>?_
    exact ⟨by rw [H14 l h1]<;>rfl,o.sub⟩
 ·refine (?_:Tr _ _ _ _) o
  refine Je ?_
  have e:V3 Q8 .zero X rc=((.zero,2),X):=by unfold V3;rw [hr]
  rw [e]
  (refine Ja ?_;unhygienic intros)
  refine Ys fun o=>?_
  exact ⟨rfl,o.sub⟩
def Gb1 (g:Int):List UInt8:=[b8 g,211,Bu2 [b8 g,211],0]
def At8 (l:List UInt8):Int × Int:=if byI l 0<8∧Gb1 (byI l 0)=l then (byI l 0,1) else (0,2)
theorem Gv5 (g:Int):Ct B2 Ap7 [int g] [] fun v own =>
  (0≤g∧g<8∧∃ a c,v=.tuple ⟨[.slice a 4 c,.bool true]⟩∧own [slC false A7 1 a 4 c (A5 (Gb1 g))])∨(¬ (0≤g∧g<8)∧v=.tuple ⟨[.slice none 0 0,.bool false]⟩∧own []):=by
 refine Ct.of Ec2 rfl fun h r=>Tr.eq (Ee7 ..) ?_;refine Je ?_
 (refine Ja ?_;unhygienic intros)
 by_cases hg:0≤g∧g<8
 ·refine Yf (by simp;omega) ?_
  rw [Bh5]
  refine Yn fun b h=>?_
  rw [show ([.int .u8 ((b8 g).toNat:Int),.int .u8 211]:List Value)=A5 [b8 g,211] from rfl]
  refine Aa8 0 rfl 1 2 rfl (by omega) ?_
  refine Je ?_
  refine Tr.pcall (Gi3 (slC false A7 1 (some ⟨b,0,none⟩) 2 2 (A5 [b8 g,211])) (some ⟨b,0,none⟩) false 2 2 2 [b8 g,211] 2 (by simp) (by simp [B4])) ?_
  (refine Ja ?_;unhygienic intros)
  rw [show List.take 2 [b8 g,211]=[b8 g,211] from rfl,Dp1]
  refine Tr.xApd ⟨rfl,rfl,by simp [B4]⟩ fun a' c' h'=>?_
  refine Je ?_
  refine Ys fun o=>?_
  exact .inl ⟨hg.1,hg.2,a',c',rfl,(show Own h' (_::slC false A7 1 a' 4 c' (A5 (Gb1 g))::_) from o).sub⟩
 ·refine Yt (by simp;omega) ?_
  refine Ys fun o=>?_
  exact .inr ⟨hg,rfl,o.sub⟩
theorem Ij7 (l:List UInt8):∀ (m i:Nat) (r:List UInt8),l.length-i=m→ByteArray.toList.loop ⟨⟨l⟩⟩ i r=r.reverse++l.drop i:=by
 intro m
 induction m with
 | zero =>
  intro i r hm
  unfold ByteArray.toList.loop
  rw [if_neg (show ¬ i<(ByteArray.mk ⟨l⟩).size by show ¬ i<l.length;omega),List.drop_eq_nil_of_le (by omega)];simp
 | succ m ih =>
  intro i r hm
  have hlt:i<l.length:=by omega
  unfold ByteArray.toList.loop
  rw [if_pos (show i<(ByteArray.mk ⟨l⟩).size from hlt),ih (i+1) _ (by omega),List.drop_eq_getElem_cons hlt]
  have:(ByteArray.mk ⟨l⟩).get! i=l[i]:=by
   show (Array.mk l)[i]! = l[i]
   simp [hlt]
  rw [this];simp
theorem Gs9 (l:List UInt8):(ByteArray.mk ⟨l⟩).toList=l:=by
 unfold ByteArray.toList
 rw [Ij7 l _ 0 [] rfl];simp
theorem Hq9 (a:Option Addr) (c:Nat) (l:List UInt8) (hl:l.length=4):Ct B2 An2 [.slice a 4 c] [slC false A7 1 a 4 c (A5 l)] fun v own=>v=.tuple ⟨[int (At8 l).1,int (At8 l).2]⟩∧own [slC false A7 1 a 4 c (A5 l)]:=by
 refine Ct.of Ez0 rfl fun h r=>Tr.eq (Ez4 ..) ?_;refine Je ?_
 refine Yf rfl ?_
 (refine Ja ?_;unhygienic intros;repeat(refine Gw ?_;rintro px rfl;refine Ja ?_;unhygienic intros))
 refine Tr.xIntS (v:=byI l 0) (Ae0 (by omega)) ?_
 simp only [byI,An3]
 refine Yc (Gv5 (byI l 0)) ?_
 rintro v h (⟨h1,h2,a1,c1,rfl,o⟩|⟨hn,rfl,o⟩)
 ·refine (?_:Tr _ _ _ _) o
  refine Je ?_
  (refine Ja ?_;unhygienic intros)
  rw [Gs9,Gs9]
  by_cases he:Gb1 (byI l 0)=l
  ·have e:At8 l=(byI l 0,1):=by unfold At8;rw [if_pos ⟨h2,he⟩]
   refine Yf (by simp [he]) ?_
   (refine Ja ?_;unhygienic intros)
   refine Tr.xIntS (v:=byI l 0) (Ae0 (by omega)) ?_
   refine Ys fun o=>?_
   rw [e];exact ⟨by simp only [byI,An3],o.sub⟩
  ·have e:At8 l=(0,2):=by unfold At8;rw [if_neg (fun hh=>he hh.2)]
   refine Yt (by simp [he]) ?_
   refine Ys fun o=>?_
   rw [e];exact ⟨rfl,o.sub⟩
 ·refine (?_:Tr _ _ _ _) o
  refine Je ?_
  (refine Jb ?_;unhygienic intros)
  refine Yb (Yt rfl ?_)
  refine Ys fun o=>(?_:Tr _ _ _ _) o;refine Je ?_
  (refine Ja ?_;unhygienic intros)
  refine Ys fun o=>?_
  exact ⟨by unfold At8;rw [if_neg (by simp only [byI] at *;omega)],o.sub⟩
theorem H35 (l:List UInt8) (h:(At8 l).2≠1):(At8 l).1=0:=by
 unfold At8 at *;split<;>simp_all
theorem Ij9 (c k:Nat) (F:Fr) (X:CX) (rc:RecS) (ok:FrOk F) (hk:R0 rc.kind=4):Ct B2 Q9 [P0 c,.agg ⟨Z7 rc⟩,.func (.func An2) ⟨[]⟩ ⟨[]⟩] [cmC c k F X] fun v own =>
  v=.tuple ⟨[int (V3 At8 0 X rc).1.1,int (V3 At8 0 X rc).1.2]⟩∧own [cmC c k F (V3 At8 0 X rc).2]:=by
 refine Ct.of A80 rfl fun h r=>Tr.eq (Ee9 ..) ?_;refine Je ?_
 (refine Ja ?_;unhygienic intros)
 refine Yc (Ee0 c k F X rc ok) ?_
 rintro v h (⟨l,a,cp,hr,hl,rfl,o⟩|⟨hr,rfl,o⟩)
 ·refine (?_:Tr _ _ _ _) o
  refine Je ?_
  have e:V3 At8 0 X rc=(At8 l,if (At8 l).2=2 then { X with bad:=X.bad++[rc] } else X):=by unfold V3;rw [hr]
  have hb:=Ed0 hr
  rw [e]
  rw [hk] at hl
  rw [hl]
  (refine Ja ?_;unhygienic intros)
  refine Yc (Hq9 a cp l hl) ?_;rintro _ h ⟨rfl,o⟩<;>(refine Jf o ?_;unhygienic intros)
  by_cases h2:(At8 l).2=2
  ·refine Yt (by simpa using h2) ?_
   have hz:=H35 l (by omega)
   simp only [if_pos h2]
   refine B8 (cmC c k F X) fun u=>?_;refine Je ?_
   refine B8 (W5 c k F.env F.caps X.bad) fun ⟨ca,cn,mb⟩=>?_;refine Je ?_
   (refine Ja ?_;unhygienic intros)
   rw [Bw7,if_neg hb]
   (refine Ja ?_;unhygienic intros)
   rw [Ed6 hb]
   (refine Ja ?_;unhygienic intros)
   rw [Dv1 hb]
   (refine Ja ?_;unhygienic intros)
   rw [Db7 X.bad 0 X.bad.length _ 0 rfl (by omega),Nat.zero_add]
   (refine Ja ?_;unhygienic intros)
   rw [Eb6]
   refine Tr.jmp A80 (Tr.eq (Bm9 ..) ?_);(try simp only[Nr,Nl,wl,Nat.reduceAdd,Nat.reduceMul,Int.reduceToNat])
   refine Yt (by rw [bne_iff_ne];omega) ?_
   rw [show X.bad.length+1=(X.bad++[rc]).length by simp]
   refine B6 (W5 c k F.env F.caps (X.bad++[rc])) ⟨ca,cn,mb⟩ ?_;refine Je ?_
   refine B6 (cmC c k F { X with bad:=X.bad++[rc] }) () ?_;refine Je ?_
   refine Ys fun o=>?_
   exact ⟨by rw [hz],o.sub⟩
  ·refine Yf (by simpa using h2) ?_
   simp only [if_neg h2]
   refine Tr.jmp A80 (Tr.eq (Bm9 ..) ?_);(try simp only[Nr,Nl,wl,Nat.reduceAdd,Nat.reduceMul,Int.reduceToNat])
   by_cases h1:(At8 l).2=1
   ·refine Yf (by simpa using h1) ?_
    refine Ys fun o=>?_
    exact ⟨rfl,o.sub⟩
   ·refine Yt (by simpa using h1) ?_
    refine Ys fun o=>?_
    exact ⟨by rw [H35 l h1],o.sub⟩
 ·refine (?_:Tr _ _ _ _) o
  refine Je ?_
  have e:V3 At8 0 X rc=((0,2),X):=by unfold V3;rw [hr]
  rw [e]
  (refine Ja ?_;unhygienic intros)
  refine Ys fun o=>?_
  exact ⟨rfl,o.sub⟩
abbrev Ed3 (X:CX) (i:Int):(ProcS × Int) × CX:=V3 Z8 .zero X ⟨1,i⟩
abbrev Eg1 (X:CX) (i:Int):(FileS × Int) × CX:=V3 Aa9 .zero X ⟨2,i⟩
abbrev Di1 (X:CX) (i:Int):(PipeS × Int) × CX:=V3 Q8 .zero X ⟨3,i⟩
abbrev Ed9 (X:CX):(PipeS × Int) × CX:=V3 Q8 .zero X ⟨4,0⟩
abbrev Er2 (X:CX):(Int × Int) × CX:=V3 At8 0 X ⟨5,0⟩
abbrev Bh3 (X:CX) (i:Int) (p:ProcS):Bool × CX:=wrX X ⟨1,i⟩ (Av9 p) (okS p)
abbrev Bi3 (X:CX) (i:Int) (p:FileS):Bool × CX:=wrX X ⟨2,i⟩ (Aj0 p) (okF p)
abbrev Ba2 (X:CX) (i:Int) (p:PipeS):Bool × CX:=wrX X ⟨3,i⟩ (I8 p) (okP p)
abbrev B68 (X:CX) (p:PipeS):Bool × CX:=wrX X ⟨4,0⟩ (I8 p) (okP p)
abbrev B95 (X:CX) (rc:RecS):Bool × CX:=wrX X rc (List.replicate (R0 rc.kind) 0) true
theorem Ds2 (X:CX) (rc:RecS) (b:List UInt8):wrX X rc b false=(false,X):=by
 unfold wrX;split<;>simp
theorem Gp7 (c k:Nat) (F:Fr) (X:CX) (rc:RecS) (ok:FrOk F):Ct B2 Z1 [P0 c,.agg ⟨Z7 rc⟩] [cmC c k F X] fun v own =>
  v=.bool (B95 X rc).1∧own [cmC c k F (B95 X rc).2]:=by
 refine Ct.of Du5 rfl fun h r=>Tr.eq (Du7 ..) ?_;refine Je ?_
 refine B8 (cmC c k F X) fun u=>?_;refine Je ?_
 refine P5 2 rfl fun f=>?_
 (repeat' first|refine Gu ?_|(with_reducible first|refine Gn fun b h=>?_|apply Gx|apply Gy|rintro px rfl|apply Gw|refine fun(h:H)=>?_|intro hb)|refine Gs ?_|refine Gt ?_|exact Gz rfl|fail)
 refine Yc (Er3 c k F.env F.caps X.bad rc ok.small ok.ne) ?_;rintro _ h ⟨rfl,o⟩<;>(refine (?_:Tr _ _ _ _) o;refine Je ?_;(repeat' first|refine Gu ?_|(with_reducible first|refine Gn fun b h=>?_|apply Gx|apply Gy|rintro px rfl|apply Gw|refine fun(h:H)=>?_|intro hb)|refine Gs ?_|refine Gt ?_|exact Gz rfl|fail))
 have em:=f.mlen ok
 cases hp:H2 F.caps.length rc with
 | none =>
  (repeat' first|refine Gu ?_|(with_reducible first|refine Gn fun b h=>?_|apply Gx|apply Gy|rintro px rfl|apply Gw|refine fun(h:H)=>?_|intro hb)|refine Gs ?_|refine Gt ?_|exact Gz rfl|fail)
  rw [show H4 (Int.toNat 0) [.int .u8 0]=A5 [] from rfl]
  refine Aa8 0 rfl 1 0 rfl (by omega) ?_
  refine Je ?_
  refine B6 (cmC c k F X) () ?_;refine Je ?_
  refine Yc (Bg9 c k F X rc ok [] false (some ⟨b,0,none⟩) 0 (by simp)) ?_;rintro _ h ⟨rfl,o⟩<;>(refine (?_:Tr _ _ _ _) o;refine Je ?_;(repeat' first|refine Gu ?_|(with_reducible first|refine Gn fun b h=>?_|apply Gx|apply Gy|rintro px rfl|apply Gw|refine fun(h:H)=>?_|intro hb)|refine Gs ?_|refine Gt ?_|exact Gz rfl|fail))
  refine Ys fun o=>?_
  have e:B95 X rc=(false,X):=by unfold B95 wrX;rw [em,hp]
  rw [Ds2] at o
  rw [e,Ds2]
  exact ⟨by first|rfl|trivial,o.sub⟩
 | some p =>
  obtain ⟨j,a,n⟩:=p
  have hn:=Dj9 hp
  subst hn
  have h40:R0 rc.kind≤40:=by unfold R0;(repeat' split)<;>omega
  (repeat' first|refine Gu ?_|(with_reducible first|refine Gn fun b h=>?_|apply Gx|apply Gy|rintro px rfl|apply Gw|refine fun(h:H)=>?_|intro hb)|refine Gs ?_|refine Gt ?_|exact Gz rfl|fail)
  refine Tr.ck ⟨by omega,by omega,by simp only [B4];omega⟩ ?_
  refine Yn fun b1 h=>?_
  rw [Int.toNat_natCast,show H4 (R0 rc.kind) [.int .u8 0]=A5 (List.replicate (R0 rc.kind) 0) by simp [H4,A5]]
  refine Aa8 0 rfl 1 (R0 rc.kind) (by simp [A5]) (by omega) ?_
  refine Je ?_
  refine B6 (cmC c k F X) () ?_;refine Je ?_
  have J:=Bg9 c k F X rc ok (List.replicate (R0 rc.kind) 0) true (some ⟨b1,0,none⟩) (R0 rc.kind) (by simp)
  rw [List.length_replicate] at J
  refine Yc (J) ?_;rintro _ h ⟨rfl,o⟩<;>(refine (?_:Tr _ _ _ _) o;refine Je ?_;(repeat' first|refine Gu ?_|(with_reducible first|refine Gn fun b h=>?_|apply Gx|apply Gy|rintro px rfl|apply Gw|refine fun(h:H)=>?_|intro hb)|refine Gs ?_|refine Gt ?_|exact Gz rfl|fail))
  refine Ys fun o=>?_
  exact ⟨rfl,o.sub⟩
theorem Dk2 (c k:Nat) (F:Fr) (X:CX) (rc:RecS) (ok:FrOk F):Ct B2 I1 [P0 c,.agg ⟨Z7 rc⟩,.slice none 0 0,.bool false] [cmC c k F X] fun v own=>v=.bool false∧own [cmC c k F X]:=by
 intro h r o
 have o1:Own h (slC false A7 1 none 0 0 (A5 [])::cmC c k F X::r):=o.slNil false A7 (by omega)
 obtain ⟨v,h',e,rfl,o2⟩:=Bg9 c k F X rc ok [] false none 0 (by simp) h r (o1.perm (.swap _ _ _))
 rw [Ds2] at e o2
 exact ⟨_,h',e,rfl,o2.sub⟩
theorem E62 (i:Int):Ct B2 A53 [int i] [] fun v own=>v=.agg ⟨Z7 ⟨1,i⟩⟩∧own []:=by
 refine Ct.of Gj3 rfl fun h r=>Tr.eq (Gm6 ..) ?_;refine Je ?_
 (refine Ja ?_;unhygienic intros)
 refine Ys fun o=>?_
 exact ⟨rfl,o.sub⟩
theorem Ea6 (i:Int):Ct B2 As3 [int i] [] fun v own=>v=.agg ⟨Z7 ⟨2,i⟩⟩∧own []:=by
 refine Ct.of Gn0 rfl fun h r=>Tr.eq (Gi5 ..) ?_;refine Je ?_
 (refine Ja ?_;unhygienic intros)
 refine Ys fun o=>?_
 exact ⟨rfl,o.sub⟩
theorem D90 (i:Int):Ct B2 As7 [int i] [] fun v own=>v=.agg ⟨Z7 ⟨3,i⟩⟩∧own []:=by
 refine Ct.of Gn9 rfl fun h r=>Tr.eq (Gl2 ..) ?_;refine Je ?_
 (refine Ja ?_;unhygienic intros)
 refine Ys fun o=>?_
 exact ⟨rfl,o.sub⟩
theorem G99 (c k:Nat) (F:Fr) (X:CX) (ok:FrOk F) (i:Int):Ct B2 Ab1 [P0 c,int i] [cmC c k F X] fun v own=>v=.tuple ⟨[.agg ⟨E2 (Ed3 X i).1.1⟩,int (Ed3 X i).1.2]⟩∧own [cmC c k F (Ed3 X i).2]:=by
 refine Ct.of D25 rfl fun h r=>Tr.eq (D26 ..) ?_;refine Je ?_
 (refine Ja ?_;unhygienic intros)
 refine Yc (E62 i) ?_;rintro _ h ⟨rfl,o⟩<;>(refine Jf o ?_;unhygienic intros)
 refine Yc (Ih1 c k F X ⟨1,i⟩ ok rfl) ?_;rintro _ h ⟨rfl,o⟩<;>(refine Jf o ?_;unhygienic intros)
 refine Ys fun o=>?_
 exact ⟨rfl,o.sub⟩
theorem Ea8 (c k:Nat) (F:Fr) (X:CX) (ok:FrOk F) (i:Int):Ct B2 N9 [P0 c,int i] [cmC c k F X] fun v own=>v=.tuple ⟨[.agg ⟨Af4 (Eg1 X i).1.1⟩,int (Eg1 X i).1.2]⟩∧own [cmC c k F (Eg1 X i).2]:=by
 refine Ct.of Dz1 rfl fun h r=>Tr.eq (Dz6 ..) ?_;refine Je ?_
 (refine Ja ?_;unhygienic intros)
 refine Yc (Ea6 i) ?_;rintro _ h ⟨rfl,o⟩<;>(refine Jf o ?_;unhygienic intros)
 refine Yc (Ii4 c k F X ⟨2,i⟩ ok rfl) ?_;rintro _ h ⟨rfl,o⟩<;>(refine Jf o ?_;unhygienic intros)
 refine Ys fun o=>?_
 exact ⟨rfl,o.sub⟩
theorem Ea0 (c k:Nat) (F:Fr) (X:CX) (ok:FrOk F) (i:Int):Ct B2 O4 [P0 c,int i] [cmC c k F X] fun v own=>v=.tuple ⟨[.agg ⟨E3 (Di1 X i).1.1⟩,int (Di1 X i).1.2]⟩∧own [cmC c k F (Di1 X i).2]:=by
 refine Ct.of Dz0 rfl fun h r=>Tr.eq (D30 ..) ?_;refine Je ?_
 (refine Ja ?_;unhygienic intros)
 refine Yc (D90 i) ?_;rintro _ h ⟨rfl,o⟩<;>(refine Jf o ?_;unhygienic intros)
 refine Yc (Hm5 c k F X ⟨3,i⟩ ok rfl) ?_;rintro _ h ⟨rfl,o⟩<;>(refine Jf o ?_;unhygienic intros)
 refine Ys fun o=>?_
 exact ⟨rfl,o.sub⟩
theorem Hc7 (c k:Nat) (F:Fr) (X:CX) (ok:FrOk F):Ct B2 S7 [P0 c] [cmC c k F X] fun v own=>v=.tuple ⟨[.agg ⟨E3 (Ed9 X).1.1⟩,int (Ed9 X).1.2]⟩∧own [cmC c k F (Ed9 X).2]:=by
 refine Ct.of D04 rfl fun h r=>Tr.eq (D03 ..) ?_;refine Je ?_
 (refine Ja ?_;unhygienic intros)
 refine Yc (Hm5 c k F X ⟨4,0⟩ ok rfl) ?_;rintro _ h ⟨rfl,o⟩<;>(refine Jf o ?_;unhygienic intros)
 refine Ys fun o=>?_
 exact ⟨rfl,o.sub⟩
theorem H54 (c k:Nat) (F:Fr) (X:CX) (ok:FrOk F):Ct B2 Ah9 [P0 c] [cmC c k F X] fun v own=>v=.tuple ⟨[int (Er2 X).1.1,.bool ((Er2 X).1.2==1)]⟩∧own [cmC c k F (Er2 X).2]:=by
 refine Ct.of Du6 rfl fun h r=>Tr.eq (Du1 ..) ?_;refine Je ?_
 (refine Ja ?_;unhygienic intros)
 refine Yc (Ij9 c k F X ⟨5,0⟩ ok rfl) ?_;rintro _ h ⟨rfl,o⟩<;>(refine Jf o ?_;unhygienic intros)
 refine Ys fun o=>?_
 exact ⟨rfl,o.sub⟩
theorem Dn5 (f:FileS):(Aj0 f).length=8:=rfl
theorem Da5 (c k:Nat) (F:Fr) (X:CX) (ok:FrOk F) (i:Int) (p:ProcS):Ct B2 J9 [P0 c,int i,.agg ⟨E2 p⟩] [cmC c k F X] fun v own=>v=.bool (Bh3 X i p).1∧own [cmC c k F (Bh3 X i p).2]:=by
 refine Ct.of Di7 rfl fun h r=>Tr.eq (Dj1 ..) ?_;refine Je ?_
 (refine Ja ?_;unhygienic intros)
 refine Yc (Gg7 p) ?_
 rintro v h (⟨hk,a,rfl,o⟩|⟨hk,rfl,o⟩)
 ·refine (?_:Tr _ _ _ _) o
  refine Je ?_
  (refine Ja ?_;unhygienic intros)
  refine Yc (E62 i) ?_;rintro _ h ⟨rfl,o⟩<;>(refine Jf o ?_;unhygienic intros)
  have J:=Bg9 c k F X ⟨1,i⟩ ok (Av9 p) true a 24 (fun _=>Ec0 p)
  rw [Ec0] at J
  refine Yc (J) ?_;rintro _ h ⟨rfl,o⟩<;>(refine Jf o ?_;unhygienic intros)
  refine Ys fun o=>?_
  unfold Bh3;rw [hk]
  exact ⟨rfl,o.sub⟩
 ·refine (?_:Tr _ _ _ _) o
  refine Je ?_
  (refine Ja ?_;unhygienic intros)
  refine Yc (E62 i) ?_;rintro _ h ⟨rfl,o⟩<;>(refine Jf o ?_;unhygienic intros)
  refine Yc (Dk2 c k F X ⟨1,i⟩ ok) ?_;rintro _ h ⟨rfl,o⟩<;>(refine Jf o ?_;unhygienic intros)
  refine Ys fun o=>?_
  unfold Bh3;rw [hk,Ds2]
  exact ⟨rfl,o.sub⟩
theorem B96 (c k:Nat) (F:Fr) (X:CX) (ok:FrOk F) (i:Int) (p:FileS):Ct B2 J7 [P0 c,int i,.agg ⟨Af4 p⟩] [cmC c k F X] fun v own=>v=.bool (Bi3 X i p).1∧own [cmC c k F (Bi3 X i p).2]:=by
 refine Ct.of Di8 rfl fun h r=>Tr.eq (Dh6 ..) ?_;refine Je ?_
 (refine Ja ?_;unhygienic intros)
 refine Yc (Gg3 p) ?_
 rintro v h (⟨hk,a,rfl,o⟩|⟨hk,rfl,o⟩)
 ·refine (?_:Tr _ _ _ _) o
  refine Je ?_
  (refine Ja ?_;unhygienic intros)
  refine Yc (Ea6 i) ?_;rintro _ h ⟨rfl,o⟩<;>(refine Jf o ?_;unhygienic intros)
  have J:=Bg9 c k F X ⟨2,i⟩ ok (Aj0 p) true a 8 (fun _=>Dn5 p)
  rw [Dn5] at J
  refine Yc (J) ?_;rintro _ h ⟨rfl,o⟩<;>(refine Jf o ?_;unhygienic intros)
  refine Ys fun o=>?_
  unfold Bi3;rw [hk]
  exact ⟨rfl,o.sub⟩
 ·refine (?_:Tr _ _ _ _) o
  refine Je ?_
  (refine Ja ?_;unhygienic intros)
  refine Yc (Ea6 i) ?_;rintro _ h ⟨rfl,o⟩<;>(refine Jf o ?_;unhygienic intros)
  refine Yc (Dk2 c k F X ⟨2,i⟩ ok) ?_;rintro _ h ⟨rfl,o⟩<;>(refine Jf o ?_;unhygienic intros)
  refine Ys fun o=>?_
  unfold Bi3;rw [hk,Ds2]
  exact ⟨rfl,o.sub⟩
theorem Dy9 (c k:Nat) (F:Fr) (X:CX) (ok:FrOk F) (i:Int) (p:PipeS):Ct B2 O8 [P0 c,int i,.agg ⟨E3 p⟩] [cmC c k F X] fun v own=>v=.bool (Ba2 X i p).1∧own [cmC c k F (Ba2 X i p).2]:=by
 refine Ct.of Dl7 rfl fun h r=>Tr.eq (Dj7 ..) ?_;refine Je ?_
 (refine Ja ?_;unhygienic intros)
 refine Yc (Ec6 p) ?_
 rintro v h (⟨hk,a,rfl,o⟩|⟨hk,rfl,o⟩)
 ·refine (?_:Tr _ _ _ _) o
  refine Je ?_
  (refine Ja ?_;unhygienic intros)
  refine Yc (D90 i) ?_;rintro _ h ⟨rfl,o⟩<;>(refine Jf o ?_;unhygienic intros)
  have J:=Bg9 c k F X ⟨3,i⟩ ok (I8 p) true a 40 (fun _=>A07 p.len)
  rw [A07 p.len] at J
  refine Yc (J) ?_;rintro _ h ⟨rfl,o⟩<;>(refine Jf o ?_;unhygienic intros)
  refine Ys fun o=>?_
  unfold Ba2;rw [hk]
  exact ⟨rfl,o.sub⟩
 ·refine (?_:Tr _ _ _ _) o
  refine Je ?_
  (refine Ja ?_;unhygienic intros)
  refine Yc (D90 i) ?_;rintro _ h ⟨rfl,o⟩<;>(refine Jf o ?_;unhygienic intros)
  refine Yc (Dk2 c k F X ⟨3,i⟩ ok) ?_;rintro _ h ⟨rfl,o⟩<;>(refine Jf o ?_;unhygienic intros)
  refine Ys fun o=>?_
  unfold Ba2;rw [hk,Ds2]
  exact ⟨rfl,o.sub⟩
theorem Gz5 (c k:Nat) (F:Fr) (X:CX) (ok:FrOk F) (i:Int):Ct B2 Ab9 [P0 c,int i] [cmC c k F X] fun v own=>v=.bool (B95 X ⟨2,i⟩).1∧own [cmC c k F (B95 X ⟨2,i⟩).2]:=by
 refine Ct.of De1 rfl fun h r=>Tr.eq (De4 ..) ?_;refine Je ?_
 refine Yc (Ea6 i) ?_;rintro _ h ⟨rfl,o⟩<;>(refine Jf o ?_;unhygienic intros)
 refine Yc (Gp7 c k F X ⟨2,i⟩ ok) ?_;rintro _ h ⟨rfl,o⟩<;>(refine Jf o ?_;unhygienic intros)
 refine Ys fun o=>?_
 exact ⟨rfl,o.sub⟩
theorem G70 (c k:Nat) (F:Fr) (X:CX) (ok:FrOk F) (i:Int):Ct B2 Ac3 [P0 c,int i] [cmC c k F X] fun v own=>v=.bool (B95 X ⟨3,i⟩).1∧own [cmC c k F (B95 X ⟨3,i⟩).2]:=by
 refine Ct.of De0 rfl fun h r=>Tr.eq (Df5 ..) ?_;refine Je ?_
 refine Yc (D90 i) ?_;rintro _ h ⟨rfl,o⟩<;>(refine Jf o ?_;unhygienic intros)
 refine Yc (Gp7 c k F X ⟨3,i⟩ ok) ?_;rintro _ h ⟨rfl,o⟩<;>(refine Jf o ?_;unhygienic intros)
 refine Ys fun o=>?_
 exact ⟨rfl,o.sub⟩
def Dk0 (f:CX→Int→CX):Nat→Int→CX→CX
 | 0,_,X=>X
 | m+1,i,X=>Dk0 f m (i+1) (f X i)
def Gg8 (X:CX):CX:=(Er2 (Ed9 X).2).2
def Ha3 (nc:Nat) (X:CX):CX:=Gg8 (Dk0 (fun X i=>(Di1 X i).2) (3+nc) 0 X)
def G63 (nc:Nat) (X:CX):CX:=Ha3 nc (Dk0 (fun X i=>(Eg1 X i).2) 12 0 X)
def lookN (nc:Nat) (X:CX):CX:=G63 nc (Dk0 (fun X i=>(Ed3 X i).2) 8 0 X)
def Gg1 (X:CX):CX:=lookN X.m.length X
theorem Hw4 (c k:Nat) (F:Fr) (ok:FrOk F):∀ (m:Nat) (i:Int) (X:CX),0≤i→i+m=3+F.caps.length →
  CtJ I2 D2 Ad4 [(0,P0 c),(20,int (3+F.caps.length)),(21,int i)] [cmC c k F X] fun v own=>v=.tuple ⟨[]⟩∧own [cmC c k F (Gg8 (Dk0 (fun X i=>(Di1 X i).2) m i X))]:=by
 have hs:=ok.small
 intro m
 induction m with
 | zero =>
  intro i X h0 hi
  refine CtJ.of O0 fun h r=>Tr.eq (Bg2 ..) ?_;refine Je ?_
  refine Yf (by simp;omega) ?_
  refine Yc (Hc7 c k F X ok) ?_;rintro _ h ⟨rfl,o⟩<;>(refine Jf o ?_;unhygienic intros)
  refine Yc (H54 c k F (Ed9 X).2 ok) ?_;rintro _ h ⟨rfl,o⟩<;>(refine Jf o ?_;unhygienic intros)
  refine Ys fun o=>?_
  exact ⟨rfl,o⟩
 | succ m ih =>
  intro i X h0 hi
  have e1:IntKind.wrap .i64 (i+1)=i+1:=by rw [B3];omega
  refine CtJ.of O0 fun h r=>Tr.eq (Bg2 ..) ?_;refine Je ?_
  refine Yt (by simp;omega) ?_
  refine Yc (Ea0 c k F X ok i) ?_;rintro _ h ⟨rfl,o⟩<;>(refine Jf o ?_;unhygienic intros)
  rw [e1]
  refine Yr (ih (i+1) (Di1 X i).2 (by omega) (by omega)) ?_
  rintro _ h ⟨rfl,o⟩
  exact ⟨rfl,o⟩
theorem Hs7 (c k:Nat) (F:Fr) (ok:FrOk F):∀ (m:Nat) (i:Int) (X:CX),0≤i→i+m=12 →
  CtJ I2 D2 Ad5 [(0,P0 c),(12,int i)] [cmC c k F X] fun v own=>v=.tuple ⟨[]⟩∧own [cmC c k F (Ha3 F.caps.length (Dk0 (fun X i=>(Eg1 X i).2) m i X))]:=by
 have hs:=ok.small
 intro m
 induction m with
 | zero =>
  intro i X h0 hi
  refine CtJ.of O0 fun h r=>Tr.eq (Be7 ..) ?_;refine Je ?_
  refine Yf (by simp;omega) ?_
  refine B8 (cmC c k F X) fun u=>?_;refine Je ?_
  refine Tr.pcall (G52 c k F.env F.caps X.bad 3 ok.small) ?_;refine Je ?_;(refine Ja ?_;unhygienic intros)
  refine B6 (cmC c k F X) () ?_;refine Je ?_
  refine Yr (Hw4 c k F ok (3+F.caps.length) 0 X (by omega) (by omega)) ?_
  rintro _ h ⟨rfl,o⟩
  exact ⟨rfl,o⟩
 | succ m ih =>
  intro i X h0 hi
  have e1:IntKind.wrap .i64 (i+1)=i+1:=by rw [B3];omega
  refine CtJ.of O0 fun h r=>Tr.eq (Be7 ..) ?_;refine Je ?_
  refine Yt (by simp;omega) ?_
  refine Yc (Ea8 c k F X ok i) ?_;rintro _ h ⟨rfl,o⟩<;>(refine Jf o ?_;unhygienic intros)
  rw [e1]
  refine Yr (ih (i+1) (Eg1 X i).2 (by omega) (by omega)) ?_
  rintro _ h ⟨rfl,o⟩
  exact ⟨rfl,o⟩
theorem Hs6 (c k:Nat) (F:Fr) (ok:FrOk F):∀ (m:Nat) (i:Int) (X:CX),0≤i→i+m=8 →
  CtJ I2 D2 Ad3 [(0,P0 c),(5,int i)] [cmC c k F X] fun v own=>v=.tuple ⟨[]⟩∧own [cmC c k F (G63 F.caps.length (Dk0 (fun X i=>(Ed3 X i).2) m i X))]:=by
 intro m
 induction m with
 | zero =>
  intro i X h0 hi
  refine CtJ.of O0 fun h r=>Tr.eq (Bg4 ..) ?_;refine Je ?_
  refine Yf (by simp;omega) ?_
  refine Yr (Hs7 c k F ok 12 0 X (by omega) (by omega)) ?_
  rintro _ h ⟨rfl,o⟩
  exact ⟨rfl,o⟩
 | succ m ih =>
  intro i X h0 hi
  have e1:IntKind.wrap .i64 (i+1)=i+1:=by rw [B3];omega
  refine CtJ.of O0 fun h r=>Tr.eq (Bg4 ..) ?_;refine Je ?_
  refine Yt (by simp;omega) ?_
  refine Yc (G99 c k F X ok i) ?_;rintro _ h ⟨rfl,o⟩<;>(refine Jf o ?_;unhygienic intros)
  rw [e1]
  refine Yr (ih (i+1) (Ed3 X i).2 (by omega) (by omega)) ?_
  rintro _ h ⟨rfl,o⟩
  exact ⟨rfl,o⟩
theorem Gj0 (c k:Nat) (F:Fr) (X:CX) (ok:FrOk F):Ct B2 D2 [P0 c] [cmC c k F X] fun v own=>v=.tuple ⟨[]⟩∧own [cmC c k F (Gg1 X)]:=by
 refine Ct.of O0 rfl fun h r=>Tr.eq (D15 ..) ?_;refine Je ?_
 intro o
 obtain ⟨u,o1⟩:=Own.unfold (cmC c k F X) o
 have f:=(Own.front o1 (i:=2) rfl).pure
 have e:Gg1 X=lookN F.caps.length X:=by unfold Gg1;rw [f.mlen ok]
 rw [e]
 refine (?_:Tr _ _ _ _) o
 refine Yr (Hs6 c k F ok 8 0 X (by omega) (by omega)) ?_
 rintro _ h ⟨rfl,o⟩
 exact ⟨rfl,o⟩
end Go.EQ
