/- A child has its parent's descriptors, of the same files: what the one closes the other still has; what the one writes the other reads; no conditions. -/
import Derived.Test.YtnmdbfbjdhgmlaaGreatMf
set_option linter.all false
set_option maxRecDepth 10000
namespace Go.EQ
open Go Go.NN
theorem V2 (l:List UInt8):(A0 l).length=l.length:=by simp [A0]
theorem D70 {l:List UInt8} {i:Nat} {x:UInt8} (h:l[i]?=some x):(A0 l)[i]?=some (.int .u8 x.toNat):=by
 unfold A0;rw [List.getElem?_map,h];rfl
theorem Ii4 (l:List UInt8) (x:Nat):(A0 l).take x=A0 (l.take x):=by unfold A0;rw [List.map_take]
theorem Ip0 (l m:List UInt8):A0 (l++m)=A0 l++A0 m:=by simp [A0]
def Ea8 (n:Int) (l:List UInt8):Int:=l.foldl (fun n c=>IntKind.wrap .u8 (n+c.toNat)) n
def Gm9 (l:List UInt8):Int:=Ea8 (IntKind.wrap .u8 l.length) l
theorem H58 (p:HP) (a:Option Addr) (ro:Bool) (n c d:Nat) (l:List UInt8) [ks:IsSl p a ro B1 1 n c (A0 l)] (x:Nat) (hx:x≤l.length) (hl:l.length≤B7):∀ (m i:Nat) (acc:Int),x-i=m→i≤x →
  V3 H5 Aa8 Bn0 [(3,.int .u8 acc),(9,.slice a x d),(10,int x),(11,int i)] [p] (.int .u8 (Ea8 acc ((l.take x).drop i))):=by
 intro m
 induction m with
 | zero =>
  intro i acc hm hi
  refine V3.of D08 fun h r=>Tr.eq (D69 ..) ?_;refine Je ?_
  refine Yf (by simp;omega) ?_
  refine Ys fun o=>?_
  rw [List.drop_eq_nil_of_le (by simp;omega)];exact ⟨rfl,rfl⟩
 | succ m ih =>
  intro i acc hm hi
  have hlt:i<(l.take x).length:=by rw [List.length_take];omega
  have hp:l[i]?=some (l.take x)[i]:=by
   rw [List.getElem_take];exact List.getElem?_eq_getElem (by omega)
  have hd:(l.take x).drop i=(l.take x)[i]::(l.take x).drop (i+1):=List.drop_eq_getElem_cons hlt
  generalize (l.take x)[i]=y at hp hd
  have e1:IntKind.wrap .i64 ((i:Int)+1)=((i+1:Nat):Int):=by rw [B5];simp only [B7] at hl;omega
  refine V3.of D08 fun h r=>Tr.eq (D69 ..) ?_;refine Je ?_
  refine Yt (by simp;omega) ?_
  refine U4 0 rfl fun h1 h2 h3=>?_
  rw [V2] at h1
  (refine Ja ?_;unhygienic intros;repeat(refine Gw ?_;rintro px rfl;refine Ja ?_;unhygienic intros))
  refine Tr.xIntS (v:=y.toNat) (by simpa using D70 hp) ?_
  rw [e1,hd]
  exact Z1 (ih (i+1) _ (by omega) (by omega)) (r:=r) (by simp) fun o=>⟨rfl,rfl⟩
theorem Gi1 (p:HP) (a:Option Addr) (ro:Bool) (n c d:Nat) (l:List UInt8) [ks:IsSl p a ro B1 1 n c (A0 l)] (x:Nat) (hx:x≤l.length) (hl:l.length≤B7) :
  CtP B6 Aa8 [.slice a x d] [p] (.int .u8 (Gm9 (l.take x))):=by
 refine CtP.of D08 rfl fun h r=>Tr.eq (Hk1 ..) ?_;refine Je ?_
 have e:(l.take x).length=x:=by rw [List.length_take];omega
 have J:=H58 p a ro n c d l x hx hl _ 0 (IntKind.wrap .u8 x) rfl (by omega)
 rw [List.drop_zero] at J
 refine Z1 J (r:=r) (by simp) fun o=>⟨?_,rfl⟩
 unfold Gm9;rw [e]
def Dy4:Nat→List UInt8→Int
 | _,[]=>-1
 | i,x::l=>if x≠0 then i else Dy4 (i+1) l
theorem Gs3:∀ (l:List UInt8) (i:Nat),decide (Dy4 i l≥0)=!l.all (·==0)
 | [],i=>by simp [Dy4]
 | x::l,i=>by
  unfold Dy4
  by_cases h:x=0
  ·rw [if_neg (by simp [h]),Gs3 l (i+1)];simp [h]
  ·rw [if_pos h];simp [h]
theorem Ir5 (x:UInt8):CtP B6 Af6 [.int .u8 x.toNat] [] (.bool (x != 0)):=by
 refine CtP.of Ge7 rfl fun h r=>Tr.eq (Ge1 ..) ?_;refine Je ?_
 refine Ys fun o=>?_
 refine ⟨?_,rfl⟩
 congr 1
 have:((x.toNat:Int)=0)↔x=0:=by
  constructor
  ·intro h;exact UInt8.toNat.inj (by simpa using (show x.toNat=0 by omega))
  ·rintro rfl;rfl
 by_cases h:x=0
 ·subst h;rfl
 ·rw [bne_iff_ne.2 h,bne_iff_ne];intro h2;exact h (this.1 h2)
theorem Gb1 (p:HP) (a:Option Addr) (ro:Bool) (c:Nat) (l:List UInt8) [ks:IsSl p a ro B1 1 l.length c (A0 l)] (hl:l.length≤B7):∀ (m i:Nat),l.length-i=m→i≤l.length →
  V3 H5 G2 Q4 [(0,.slice a l.length c),(1,.func (.func Af6) ⟨[]⟩ ⟨[]⟩),(7,int l.length),(8,int i)] [p] (int (Dy4 i (l.drop i))):=by
 intro m
 induction m with
 | zero =>
  intro i hm hi
  refine V3.of Af0 fun h r=>Tr.eq (Ar4 ..) ?_;refine Je ?_
  refine Yf (by simp;omega) ?_
  refine Ys fun o=>?_
  rw [List.drop_eq_nil_of_le (by omega)];exact ⟨rfl,rfl⟩
 | succ m ih =>
  intro i hm hi
  have hlt:i<l.length:=by omega
  have hp:l[i]?=some l[i]:=List.getElem?_eq_getElem hlt
  have hd:l.drop i=l[i]::l.drop (i+1):=List.drop_eq_getElem_cons hlt
  generalize l[i]=x at hp hd
  have e1:IntKind.wrap .i64 ((i:Int)+1)=((i+1:Nat):Int):=by rw [B5];simp only [B7] at hl;omega
  refine V3.of Af0 fun h r=>Tr.eq (Ar4 ..) ?_;refine Je ?_
  refine Yt (by simp;omega) ?_
  (refine Ja ?_;unhygienic intros;repeat(refine Gw ?_;rintro px rfl;refine Ja ?_;unhygienic intros))
  refine Tr.xIntS (v:=x.toNat) (by simpa using D70 hp) ?_
  (refine Ja ?_;unhygienic intros)
  refine Bw9 (Ir5 x) (r:=p::r) (by simp) ?_
  by_cases hx:x=0
  ·have:(x != 0)=false:=by simp [hx]
   rw [this]
   (refine Ja ?_;unhygienic intros)
   rw [e1]
   refine Z1 (ih (i+1) (by omega) (by omega)) (r:=r) (by simp) fun o=>?_
   rw [hd,Dy4,if_neg (by simp [hx])];exact ⟨by first|rfl|trivial,by first|rfl|trivial⟩
  ·have:(x != 0)=true:=by simp [hx]
   rw [this]
   (refine Ja ?_;unhygienic intros)
   refine Ys fun o=>?_
   rw [hd,Dy4,if_pos hx];exact ⟨by first|rfl|trivial,by first|rfl|trivial⟩
theorem Ia6 (p:HP) (a:Option Addr) (ro:Bool) (c:Nat) (l:List UInt8) [ks:IsSl p a ro B1 1 l.length c (A0 l)] (hl:l.length≤B7) :
  CtP B6 Am5 [.slice a l.length c] [p] (.bool (l.all (·==0))):=by
 have j:CtP B6 G2 [.slice a l.length c,.func (.func Af6) ⟨[]⟩ ⟨[]⟩] [p] (int (Dy4 0 l)):=by
  refine CtP.of Af0 rfl fun h r=>Tr.eq (B05 ..) ?_;refine Je ?_
  exact Z1 (Gb1 p a ro c l hl _ 0 rfl (by omega)) (r:=r) (by simp) fun o=>⟨rfl,rfl⟩
 have j2:CtP B6 Q3 [.slice a l.length c,.func (.func Af6) ⟨[]⟩ ⟨[]⟩] [p] (.bool (!l.all (·==0))):=by
  refine CtP.of Br4 rfl fun h r=>Tr.eq (Bp3 ..) ?_;refine Je ?_
  refine Bw9 j (r:=r) (by simp) ?_
  (refine Ja ?_;unhygienic intros)
  refine Ys fun o=>?_
  rw [Gs3];exact ⟨by first|rfl|trivial,by first|rfl|trivial⟩
 refine CtP.of Gw7 rfl fun h r=>Tr.eq (Gx5 ..) ?_;refine Je ?_
 refine Bw9 j2 (r:=r) (by simp) ?_
 (refine Ja ?_;unhygienic intros)
 refine Ys fun o=>?_
 exact ⟨by simp,rfl⟩
theorem G94 (p q:HP) (a:Option Addr) (ro:Bool) (c:Nat) (a2:Option Addr) (ro2:Bool) (c2:Nat) (l m:List UInt8) [ks:IsSl p a ro B1 1 l.length c (A0 l)] [ks2:IsSl q a2 ro2 B1 1 m.length c2 (A0 m)] (hl:l.length≤B7) (hlm:m.length=l.length):∀ (k i:Nat),l.length-i=k→i≤l.length →
  V3 H5 D6 W0 [(0,.slice a l.length c),(1,.slice a2 m.length c2),(12,int l.length),(13,int i)] [p,q] (.bool (decide (l.drop i=m.drop i))):=by
 intro k
 induction k with
 | zero =>
  intro i hm hi
  refine V3.of Am2 fun h r=>Tr.eq (A26 ..) ?_;refine Je ?_
  refine Yf (by simp;omega) ?_
  refine Ys fun o=>?_
  rw [List.drop_eq_nil_of_le (by omega),List.drop_eq_nil_of_le (by omega)];exact ⟨rfl,rfl⟩
 | succ k ih =>
  intro i hm hi
  have hlt:i<l.length:=by omega
  have hp:l[i]?=some l[i]:=List.getElem?_eq_getElem hlt
  have hd:l.drop i=l[i]::l.drop (i+1):=List.drop_eq_getElem_cons hlt
  have hlt2:i<m.length:=by omega
  have hp2:m[i]?=some m[i]:=List.getElem?_eq_getElem hlt2
  have hd2:m.drop i=m[i]::m.drop (i+1):=List.drop_eq_getElem_cons hlt2
  generalize l[i]=x at hp hd
  generalize m[i]=y at hp2 hd2
  have e1:IntKind.wrap .i64 ((i:Int)+1)=((i+1:Nat):Int):=by rw [B5];simp only [B7] at hl;omega
  refine V3.of Am2 fun h r=>Tr.eq (A26 ..) ?_;refine Je ?_
  refine Yt (by simp;omega) ?_
  (refine Ja ?_;unhygienic intros;repeat(refine Gw ?_;rintro px rfl;refine Ja ?_;unhygienic intros))
  refine Tr.xIntS (v:=x.toNat) (by simpa using D70 hp) ?_
  (refine Ja ?_;unhygienic intros;repeat(refine Gw ?_;rintro px rfl;refine Ja ?_;unhygienic intros))
  refine Tr.xIntS (v:=y.toNat) (by simpa using D70 hp2) ?_
  by_cases hx:x=y
  ·subst hx
   refine Yf (by simp) ?_
   rw [e1]
   refine Z1 (ih (i+1) (by omega) (by omega)) (r:=r) (by simp) fun o=>?_
   rw [hd,hd2];exact ⟨by simp,rfl⟩
  ·refine Yt (by rw [bne_iff_ne];intro h2;exact hx (UInt8.toNat.inj (by omega))) ?_
   refine Ys fun o=>?_
   rw [hd,hd2];exact ⟨by simp [hx],rfl⟩
theorem En0 (p q:HP) (a:Option Addr) (ro:Bool) (c:Nat) (a2:Option Addr) (ro2:Bool) (c2:Nat) (l m:List UInt8) [ks:IsSl p a ro B1 1 l.length c (A0 l)] [ks2:IsSl q a2 ro2 B1 1 m.length c2 (A0 m)] (hl:l.length≤B7) :
  CtP B6 D6 [.slice a l.length c,.slice a2 m.length c2] [p,q] (.bool (decide (l=m))):=by
 refine CtP.of Am2 rfl fun h r=>Tr.eq (Df7 ..) ?_;refine Je ?_
 by_cases h:m.length=l.length
 ·refine Yf (by simp [h]) ?_
  have J:=G94 p q a ro c a2 ro2 c2 l m hl h _ 0 rfl (by omega)
  simp only [List.drop_zero] at J
  exact Z1 J (r:=r) (by simp) fun o=>⟨rfl,rfl⟩
 ·refine Yt (by rw [bne_iff_ne];omega) ?_
  refine Ys fun o=>?_
  exact ⟨by rw [decide_eq_false (fun e=>h (by rw [e]))],rfl⟩
theorem H44 (p:HP) (ro:Bool) (a:Option Addr) (c:Nat) (l:List UInt8) [ks:IsSl p a ro B1 1 l.length c (A0 l)] (hn:l.length≤B7) :
  Ct B6 G7 [.slice a l.length c] [p] fun v own=>∃ a' c',v=.slice a' l.length c'∧own [slC false B1 1 a' l.length c' (A0 l),p]:=by
 refine Ct.of Bb3 rfl fun h r=>Tr.eq (Bc1 ..) ?_;refine Je ?_
 refine U4 0 rfl fun hl hc _=>?_
 refine Tr.cond (fun hb=>?_) fun hb=>?_
 ·obtain rfl:a=none:=by simpa using hb
  refine H1 false B1 1 (by omega) ?_
  intro o
  have o1:=(o.tail.head ks.en).slNone
  obtain rfl:l=[]:=by
   have:=o1.2.2.1
   cases l with
   | nil=>rfl
   | cons x l=>simp [A0] at this
  obtain rfl:c=0:=o1.2.1
  exact ⟨_,_,rfl,none,0,rfl,o⟩
 ·(refine Ja ?_;unhygienic intros)
  refine Aa1 0 rfl 1 0 rfl (by omega) ?_;refine Je ?_
  (refine Ja ?_;unhygienic intros)
  refine Tr.xApd ⟨by simp [A0],by simp [A0,Value.oneCell],by omega⟩ fun a' c' h'=>?_
  refine Je ?_
  refine Ys fun o=>⟨a',c',by simp,by simpa using o⟩
end Go.EQ
namespace Go.NN
section
variable {l:List HP} {h:H} {α:Type} {Q:α→H→Prop} {ro:Bool} {e:TypeId} {cs:List Value}
instance {f:Fn} {a c:Array Value} {k:Option α}:Dx (one (.func f a c) k) k:=⟨rfl⟩
theorem Tr.xPCells {a:Option Addr} {n c sz:Nat} {vs cs':List Value} {l':List HP} {k:H→Option (α × H)} [k1:LkO l a false e sz n c cs] (hn:0<n) (hj:vs≠[]∧vs.length≤cs.length∧vs.all Value.oneCell=true∧vs++cs.drop vs.length=cs') [k2:UpO l a (slC false e sz a n c cs') e sz n c cs l'] (t:∀ h',Tr l' h' (k h') Q):Tr l h (NN.pCells a vs h k) Q:=fun ow=>by
 obtain ⟨i,p,hi,hp⟩:=k1.ix
 obtain ⟨y,rfl⟩:=((ow.front hi).head hp).slSome hn
 have:NN.pCells (Option.some y) vs h k=NN.pAgg ((B8 y).add 0) vs h k:=by
  show NN.pAgg (B8 y) vs h k=_
  congr 1
 rw [this]
 exact Tr.xPAggS (k1:=k1) ⟨hj.1,by omega,hj.2.2.1,by simpa using hj.2.2.2⟩ (k2:=k2) t ow
end
end Go.NN

set_option maxRecDepth 10000
namespace Go.EQ
open Go Go.NN
def b8 (x:Int):UInt8:=UInt8.ofNat (x%256).toNat
theorem Dj8 (x:Int):IntKind.wrap .u8 x=x%256:=Ic7 x
theorem Bj7 (x:Int):IntKind.wrap .u8 x=((b8 x).toNat:Int):=by
 rw [Dj8,b8,UInt8.toNat_ofNat']
 omega
def Bv2 (l:List UInt8):UInt8:=b8 (Gm9 l)
theorem G14:∀ (l:List UInt8) (n:Int),0≤n∧n<256→0≤Ea8 n l∧Ea8 n l<256
 | [],n,h=>h
 | x::l,n,h=>G14 l _ (by show 0≤IntKind.wrap .u8 (n+x.toNat)∧IntKind.wrap .u8 (n+x.toNat)<256;rw [Dj8];omega)
theorem Do5 (l:List UInt8):Gm9 l=((Bv2 l).toNat:Int):=by
 have:=G14 l (IntKind.wrap .u8 l.length) (by rw [Dj8];omega)
 unfold Bv2
 rw [← Bj7,Dj8]
 unfold Gm9 at *;omega
structure FileS where
 kind:Int
 pipe:Int
 refs:Int
 flags:Int
abbrev FileS.zero:FileS:=⟨0,0,0,0⟩
abbrev Ah5 (f:FileS):List Value:=[int f.kind,int f.pipe,int f.refs,int f.flags]
def okF (f:FileS):Bool:=decide (f.kind≥1) && decide (f.kind≤3) && decide (f.pipe≥0) && decide (f.pipe≤7) && (f.kind != 3 || f.pipe==0) && decide (f.refs≥1) && decide (f.refs≤64) && (f.flags==0 || f.flags==1)
def A99 (f:FileS):List UInt8:=[b8 f.kind,b8 f.pipe,b8 f.refs,b8 f.flags,179]
def Ai4 (f:FileS):List UInt8:=A99 f++[Bv2 (A99 f),0,0]
theorem In8 (f:FileS):Ct B6 Dk5 [.agg ⟨Ah5 f⟩] [] fun v own=>v=.bool (okF f)∧own []:=by
 refine Ct.of Hu8 rfl fun h r=>Tr.eq (Hu0 ..) ?_;refine Je ?_
 (refine Ja ?_;unhygienic intros)
 refine Ys fun o=>?_
 refine ⟨?_,o.sub⟩
 rfl
theorem Ij1 (a:Option Addr) (c:Nat) (f:FileS):Ct B6 Ar2 [.agg ⟨Ah5 f⟩,.slice a 8 c] [slC false B1 1 a 8 c (A0 (List.replicate 8 0))] fun v own=>v=.bool (okF f)∧own [slC false B1 1 a 8 c (A0 (if okF f then Ai4 f else List.replicate 8 0))]:=by
 refine Ct.of Hh6 rfl fun h r=>Tr.eq (Hi9 ..) ?_;refine Je ?_
 (refine Ja ?_;unhygienic intros)
 refine Yc (In8 f) ?_;rintro _ h ⟨rfl,o⟩<;>(refine Jf o ?_;unhygienic intros)
 cases hk:okF f with
 | false =>
  (refine Ja ?_;unhygienic intros)
  refine Ys fun o=>?_
  rw [if_neg (by simp)]
  exact ⟨rfl,o.sub⟩
 | true =>
  (refine Ja ?_;unhygienic intros)
  simp only [Bj7,List.drop_zero,List.take]
  refine U4 2 rfl fun hl hc _=>?_
  refine Tr.xPCells (cs':=A0 (A99 f++[0,0,0])) (by omega) ⟨by simp,by simp [A0],by simp [Value.oneCell],rfl⟩ fun h=>?_
  (refine Ja ?_;unhygienic intros)
  refine Tr.pcall (Gi1 (slC false B1 1 a 8 c (A0 (A99 f++[0,0,0]))) a false 8 c c (A99 f++[0,0,0]) 5 (by simp [A99]) (by simp [A99,B7])) ?_
  refine Je ?_
  (refine Ja ?_;unhygienic intros;repeat(refine Gw ?_;rintro px rfl;refine Ja ?_;unhygienic intros))
  rw [show List.take 5 (A99 f++[0,0,0]:List UInt8)=A99 f from rfl,Do5]
  refine Tr.xVS (cs':=A0 (Ai4 f)) ⟨by simp [A0,A99],rfl,rfl⟩ fun h=>?_
  refine Ys fun o=>?_
  simp only [if_true]
  exact ⟨trivial,o.sub⟩
theorem Dv3 {l:List Value} (h:l.all (fun v=>match v with|.int _ _=>true|_=>false)=true):Ap6 (.agg ⟨l⟩) (.agg ⟨l⟩)=true:=by
 show Bs2 l l=true
 induction l with
 | nil=>rfl
 | cons v l ih =>
  simp only [List.all_cons,Bool.and_eq_true] at h
  show (A28 v v && Bs2 l l)=true
  rw [ih h.2,Bool.and_true]
  cases v<;>first|(simp [A28];done)|exact absurd h.1 (by simp)
abbrev G36 (k:Nat):HP:=pt k (.cells Aj3 false [int 8,.func (.func Ar2) ⟨[]⟩ ⟨[]⟩,.func (.func Ar1) ⟨[]⟩ ⟨[]⟩])
theorem Hg7 (k:Nat) (f:FileS):Ct B6 V9 [P0 k,.agg ⟨Ah5 f⟩] [G36 k] fun v own=>(okF f=true∧∃ a,v=.tuple ⟨[.slice a 8 8,.bool true]⟩∧own [G36 k,slC false B1 1 a 8 8 (A0 (Ai4 f))])∨(okF f=false∧v=.tuple ⟨[.slice none 0 0,.bool false]⟩∧own [G36 k]):=by
 refine Ct.of B43 rfl fun h r=>Tr.eq (B51 ..) ?_;refine Je ?_
 (refine Ja ?_;unhygienic intros)
 refine Tr.ck ⟨by omega,by omega,by simp [B7]⟩ ?_
 refine Yn fun b1 h=>?_
 rw [show H6 (Int.toNat 8) [.int .u8 0]=A0 (List.replicate 8 0) from rfl]
 refine Aa1 0 rfl 1 8 rfl (by omega) ?_
 simp only [List.set_cons_zero]
 refine Je ?_
 (refine Jb ?_;unhygienic intros)
 refine Yb (Yf rfl ?_)
 (refine Jb ?_;unhygienic intros)
 refine Yc (Ij1 (some ⟨b1,0,none⟩) 8 f) ?_;rintro _ h ⟨rfl,o⟩<;>(refine Jg o ?_;unhygienic intros)
 refine Ys fun o=>(?_:Tr _ _ _ _) o;refine Je ?_
 cases hk:okF f with
 | false =>
  (refine Ja ?_;unhygienic intros)
  refine Ys fun o=>?_
  exact .inr ⟨rfl,rfl,o.sub⟩
 | true =>
  (refine Ja ?_;unhygienic intros)
  refine Ys fun o=>?_
  simp only [if_true] at o
  exact .inl ⟨rfl,_,rfl,o.sub⟩
theorem Ij6:Ct B6 Aq1 [int 8,.func (.func Ar2) ⟨[]⟩ ⟨[]⟩,.func (.func Ar1) ⟨[]⟩ ⟨[]⟩] [] fun v own=>∃ k,v=P0 k∧own [pt k (.cells Aj3 false [int 8,.func (.func Ar2) ⟨[]⟩ ⟨[]⟩,.func (.func Ar1) ⟨[]⟩ ⟨[]⟩])]:=by
 refine Ct.of Ec2 rfl fun h r=>Tr.eq (Ee1 ..) ?_;refine Je ?_
 rw [show mm2 false (mm2 true 8 0) 64=8 from rfl]
 (refine Ja ?_;unhygienic intros)
 refine Ys fun o=>?_
 exact ⟨_,rfl,o.sub⟩
theorem Gq6:Ct B6 Bc5 [] [] fun v own=>∃ k,v=P0 k∧own [pt k (.cells Aj3 false [int 8,.func (.func Ar2) ⟨[]⟩ ⟨[]⟩,.func (.func Ar1) ⟨[]⟩ ⟨[]⟩])]:=by
 refine Ct.of Gx3 rfl fun h r=>Tr.eq (Gw4 ..) ?_;refine Je ?_
 refine Yc (Ij6) ?_;rintro _ h ⟨k,rfl,o⟩<;>(refine Jf o ?_;unhygienic intros)
 refine Ys fun o=>?_
 exact ⟨_,rfl,o.sub⟩
theorem Gc0 (f:FileS):Ct B6 A42 [.agg ⟨Ah5 f⟩] [] fun v own=>(okF f=true∧∃ a,v=.tuple ⟨[.slice a 8 8,.bool true]⟩∧own [slC false B1 1 a 8 8 (A0 (Ai4 f))])∨(okF f=false∧v=.tuple ⟨[.slice none 0 0,.bool false]⟩∧own []):=by
 refine Ct.of Gj7 rfl fun h r=>Tr.eq (Gk1 ..) ?_;refine Je ?_
 (refine Ja ?_;unhygienic intros)
 refine Yc (Gq6) ?_;rintro _ h ⟨k,rfl,o⟩<;>(refine Jf o ?_;unhygienic intros)
 refine Tr.same (Dv3 rfl) ?_
 refine Yc (Hg7 k f) ?_
 rintro v h (⟨hk,a,rfl,o⟩|⟨hk,rfl,o⟩)
 ·refine (?_:Tr _ _ _ _) o
  refine Je ?_
  (refine Ja ?_;unhygienic intros)
  refine Ys fun o=>?_
  exact .inl ⟨hk,a,rfl,o.sub⟩
 ·refine (?_:Tr _ _ _ _) o
  refine Je ?_
  (refine Ja ?_;unhygienic intros)
  refine Ys fun o=>?_
  exact .inr ⟨hk,rfl,o.sub⟩
theorem Ad6 {l:List UInt8} {i:Nat} (h:i<l.length):(A0 l)[i]?=some (.int .u8 ((l.getD i 0).toNat:Int)):=by
 rw [List.getD_eq_getElem?_getD,List.getElem?_eq_getElem h];exact D70 (List.getElem?_eq_getElem h)
theorem Am9 (x:UInt8):IntKind.wrap .i64 (x.toNat:Int)=(x.toNat:Int):=by
 have:=x.toNat_lt;rw [B5];omega
abbrev byI (l:List UInt8) (i:Nat):Int:=((l.getD i 0).toNat:Int)
def B58 (l:List UInt8):FileS:=⟨byI l 0,byI l 1,byI l 2,byI l 3⟩
def isF (l:List UInt8):Bool:=okF (B58 l) && decide (Ai4 (B58 l)=l)
theorem Ik7 (a:Option Addr) (c:Nat) (l:List UInt8) (hl:l.length=8):Ct B6 Ar1 [.slice a 8 c] [slC false B1 1 a 8 c (A0 l)] fun v own=>v=.tuple ⟨[.agg ⟨Ah5 (B58 l)⟩,.bool (isF l)]⟩∧own [slC false B1 1 a 8 c (A0 l)]:=by
 have key:∀ a1:Option Addr,CtP B6 D6 [.slice a1 8 8,.slice a 8 c] [slC false B1 1 a1 8 8 (A0 (Ai4 (B58 l))),slC false B1 1 a 8 c (A0 l)] (.bool (decide (Ai4 (B58 l)=l))):=fun a1=>by
  have J:=En0 (slC false B1 1 a1 8 8 (A0 (Ai4 (B58 l)))) (slC false B1 1 a l.length c (A0 l)) a1 false 8 a false c (Ai4 (B58 l)) l (by simp [Ai4,A99,B7])
  rwa [hl,show (Ai4 (B58 l)).length=8 from rfl] at J
 refine Ct.of Hi8 rfl fun h r=>Tr.eq (Hi4 ..) ?_;refine Je ?_
 refine Yn fun b1 h=>?_
 (refine Ja ?_;unhygienic intros;repeat(refine Gw ?_;rintro px rfl;refine Ja ?_;unhygienic intros))
 refine Tr.xIntS (v:=byI l 0) (Ad6 (by omega)) ?_
 (refine Ja ?_;unhygienic intros)
 refine Tr.xIntS (v:=byI l 1) (Ad6 (by omega)) ?_
 (refine Ja ?_;unhygienic intros)
 refine Tr.xIntS (v:=byI l 2) (Ad6 (by omega)) ?_
 (refine Ja ?_;unhygienic intros)
 refine Tr.xIntS (v:=byI l 3) (Ad6 (by omega)) ?_
 simp only [byI,Am9]
 refine Yn fun b2 h=>?_
 (refine Jb ?_;unhygienic intros)
 refine Yc (Gc0 (B58 l)) ?_
 rintro v h (⟨hk,a1,rfl,o⟩|⟨hk,rfl,o⟩)
 ·refine (?_:Tr _ _ _ _) o
  refine Je ?_
  (refine Jb ?_;unhygienic intros)
  refine Yb (Yt rfl ?_)
  refine Tr.pcall (key a1) ?_;refine Je ?_;(refine Jb ?_;unhygienic intros)
  refine Tr.same (Dv3 rfl) ?_
  refine Ys fun o=>(?_:Tr _ _ _ _) o;refine Je ?_
  (refine Ja ?_;unhygienic intros)
  refine Ys fun o=>?_
  exact ⟨by unfold isF;rw [hk,Bool.true_and];rfl,o.sub⟩
 ·refine (?_:Tr _ _ _ _) o
  refine Je ?_
  (refine Ja ?_;unhygienic intros)
  refine Ys fun o=>?_
  exact ⟨by unfold isF;rw [hk];rfl,o.sub⟩
theorem Eq7 (n:Nat) (a:Option Addr) (c:Nat) (l:List UInt8) (hl:l.length=n) (hn:n≤B7):Ct B6 G7 [.slice a n c] [slC false B1 1 a n c (A0 l)] fun v own=>∃ a' c',v=.slice a' n c'∧own [slC false B1 1 a' n c' (A0 l),slC false B1 1 a n c (A0 l)]:=by
 subst hl;exact H44 (slC false B1 1 a l.length c (A0 l)) false a c l hn
theorem Em1 (n:Nat) (a:Option Addr) (c:Nat) (l:List UInt8) (hl:l.length=n) (hn:n≤B7):CtP B6 Am5 [.slice a n c] [slC false B1 1 a n c (A0 l)] (.bool (l.all (·==0))):=by
 subst hl;exact Ia6 (slC false B1 1 a l.length c (A0 l)) a false c l hn
theorem Hd9 (k:Nat) (a:Option Addr) (c:Nat) (l:List UInt8) (hl:l.length=8):Ct B6 W3 [P0 k,.slice a 8 c] [G36 k,slC false B1 1 a 8 c (A0 l)] fun v own=>v=.tuple ⟨[.agg ⟨Ah5 (if isF l then B58 l else .zero)⟩,.bool (isF l)]⟩∧own [G36 k,slC false B1 1 a 8 c (A0 l)]:=by
 refine Ct.of B46 rfl fun h r=>Tr.eq (B47 ..) ?_;refine Je ?_
 (refine Ja ?_;unhygienic intros)
 refine Yf rfl ?_
 (refine Jb ?_;unhygienic intros)
 refine Yc (Eq7 8 a c l hl (by simp [B7])) ?_;rintro _ h ⟨a1,c1,rfl,o⟩<;>(refine Jg o ?_;unhygienic intros)
 refine Yc (Ik7 a1 c1 l hl) ?_;rintro _ h ⟨rfl,o⟩<;>(refine Jg o ?_;unhygienic intros)
 cases hk:isF l with
 | false =>
  (refine Ja ?_;unhygienic intros)
  refine Ys fun o=>?_
  exact ⟨rfl,o.sub⟩
 | true =>
  (refine Ja ?_;unhygienic intros)
  refine Ys fun o=>?_
  exact ⟨rfl,o.sub⟩
def Ab1 (l:List UInt8):FileS × Int:=if l.all (·==0) then (.zero,0) else if isF l then (B58 l,1) else (.zero,2)
theorem Hq6 (a:Option Addr) (c:Nat) (l:List UInt8) (hl:l.length=8):Ct B6 A40 [.slice a 8 c] [slC false B1 1 a 8 c (A0 l)] fun v own=>v=.tuple ⟨[.agg ⟨Ah5 (Ab1 l).1⟩,int (Ab1 l).2]⟩∧own [slC false B1 1 a 8 c (A0 l)]:=by
 refine Ct.of Gk4 rfl fun h r=>Tr.eq (Go8 ..) ?_;refine Je ?_
 refine Yn fun b1 h=>?_
 refine Yb (Yt rfl ?_)
 refine Tr.pcall (Em1 8 a c l hl (by simp [B7])) ?_;refine Je ?_;(refine Jb ?_;unhygienic intros)
 refine Ys fun o=>(?_:Tr _ _ _ _) o;refine Je ?_
 cases hb:l.all (·==0) with
 | true =>
  (refine Ja ?_;unhygienic intros)
  refine Ys fun o=>?_
  exact ⟨by unfold Ab1;rw [hb];rfl,o.sub⟩
 | false =>
  (refine Jb ?_;unhygienic intros)
  refine Yc (Gq6) ?_;rintro _ h ⟨k,rfl,o⟩<;>(refine Jg o ?_;unhygienic intros)
  refine Yc (Hd9 k a c l hl) ?_;rintro _ h ⟨rfl,o⟩<;>(refine Jg o ?_;unhygienic intros)
  cases hk:isF l with
  | false =>
   (refine Ja ?_;unhygienic intros)
   refine Ys fun o=>?_
   exact ⟨by unfold Ab1;rw [hb,hk];rfl,o.sub⟩
  | true =>
   (refine Ja ?_;unhygienic intros)
   refine Ys fun o=>?_
   exact ⟨by unfold Ab1;rw [hb,hk];rfl,o.sub⟩
structure PipeS where
 head:Int
 count:Int
 readers:Int
 writers:Int
 data:List UInt8
 len:data.length=32
abbrev PipeS.zero:PipeS:=⟨0,0,0,0,List.replicate 32 0,rfl⟩
abbrev E4 (p:PipeS):List Value:=int p.head::int p.count::int p.readers::int p.writers::A0 p.data
theorem Ac5 {p:PipeS} (hd:p.data.length=32):(E4 p).length=36:=by simp [E4,V2,hd]
theorem Hp8 {p:PipeS} (hd:p.data.length=32):4+32≤(E4 p).length∧((E4 p).drop 4).take 32=A0 p.data:=⟨by rw [Ac5 hd];exact Nat.le_refl _,by
 rw [show (E4 p).drop 4=A0 p.data from rfl,List.take_of_length_le (by rw [V2,hd];exact Nat.le_refl _)]⟩
theorem Gt2 (p:PipeS):(E4 p).all Value.oneCell=true:=by simp [E4,Ag1,Value.oneCell]
theorem Hr2 (p:PipeS):Ap6 (.agg ⟨E4 p⟩) (.agg ⟨E4 p⟩)=true:=Dv3 (by simp [E4,A0])
instance {p:PipeS}:LenC (E4 p) 36:=⟨Ac5 p.len⟩
instance {p:PipeS}:PartC (E4 p) 0 36 (E4 p):=⟨Bx2 (Ac5 p.len)⟩
instance {p:PipeS} {cs:List Value} [k:LenC cs 36]:SetsC cs 0 (E4 p) (E4 p):=⟨Bj9 k.ok (Ac5 p.len) (Gt2 p)⟩
instance {p:PipeS}:SameC (.agg ⟨E4 p⟩):=⟨Hr2 p⟩
def okP (p:PipeS):Bool:=decide (0≤p.head∧p.head≤31) && decide (0≤p.count∧p.count≤32) && decide (0≤p.readers∧p.readers≤8) && decide (0≤p.writers∧p.writers≤8)
def Ah6 (p:PipeS):List UInt8:=[1,b8 p.head,b8 p.count,b8 p.readers,b8 p.writers,197]
def I8 (p:PipeS):List UInt8:=Ah6 p++Bv2 (Ah6 p)::0::p.data
theorem A17 {p:PipeS} (hd:p.data.length=32):(I8 p).length=40:=by simp [I8,Ah6,hd]
theorem Io2 (n m:Int):CtP B6 Ar8 [int n,int m] [] (.bool (decide (0≤n∧n≤m))):=by
 refine CtP.of Hj0 rfl fun h r=>Tr.eq (Hd8 ..) ?_;refine Je ?_
 (refine Ja ?_;unhygienic intros)
 refine Ys fun o=>?_
 refine ⟨?_,rfl⟩
 refine congrArg Value.bool ?_;rw [Bool.eq_iff_iff];simp only [Bool.and_eq_true,Bool.or_eq_true,Bool.not_eq_true',Bool.not_eq_false',decide_eq_true_eq,decide_eq_false_iff_not,bne_iff_ne,beq_iff_eq,ne_eq,B5,V6,Aa2,ge_iff_le,gt_iff_lt];first|done|omega
instance {n m:Int} {l:List HP}:PCi B6 Ar8 [.int .i64 n,.int .i64 m] l (.bool (decide (0≤n∧n≤m))):=PCi.of (Io2 n m)
theorem G44 (p:PipeS):Ct B6 Bx7 [.agg ⟨E4 p⟩] [] fun v own=>v=.bool (okP p)∧own []:=by
 refine Ct.of Hy9 rfl fun h r=>Tr.eq (H53 ..) ?_;refine Je ?_
 (refine Ja ?_;unhygienic intros)
 refine Ys fun o=>?_
 exact ⟨rfl,o.sub⟩
theorem Ig5 (a:Option Addr) (c:Nat) (p:PipeS):Ct B6 Bm4 [.agg ⟨E4 p⟩,.slice a 40 c] [slC false B1 1 a 40 c (A0 (List.replicate 40 0))] fun v own=>v=.bool (okP p)∧own [slC false B1 1 a 40 c (A0 (if okP p then I8 p else List.replicate 40 0))]:=by
 have hd:=p.len
 refine Ct.of Hu7 rfl fun h r=>Tr.eq (Hr1 ..) ?_;refine Je ?_
 refine Yn fun b1 h=>?_
 (refine Ja ?_;unhygienic intros)
 refine Yc (G44 p) ?_;rintro _ h ⟨rfl,o⟩<;>(refine Jg o ?_;unhygienic intros)
 cases hk:okP p with
 | false =>
  (refine Ja ?_;unhygienic intros)
  refine Ys fun o=>?_
  rw [if_neg (by simp)]
  exact ⟨rfl,o.sub⟩
 | true =>
  (refine Ja ?_;unhygienic intros)
  simp only [Bj7,List.drop_zero,List.take]
  refine U4 2 rfl fun hl hc _=>?_
  refine Tr.xPCells (cs':=A0 (Ah6 p++List.replicate 34 0)) (by omega) ⟨by simp,by simp [A0],by simp [Value.oneCell],rfl⟩ fun h=>?_
  (refine Ja ?_;unhygienic intros)
  refine Tr.pcall (Gi1 (slC false B1 1 a 40 c (A0 (Ah6 p++List.replicate 34 0))) a false 40 c c (Ah6 p++List.replicate 34 0) 6 (by simp [Ah6]) (by simp [Ah6,B7])) ?_
  refine Je ?_
  (refine Ja ?_;unhygienic intros;repeat(refine Gw ?_;rintro px rfl;refine Ja ?_;unhygienic intros))
  rw [show List.take 6 (Ah6 p++List.replicate 34 0:List UInt8)=Ah6 p from rfl,Do5]
  refine Tr.xVS (cs':=A0 (Ah6 p++Bv2 (Ah6 p)::List.replicate 33 0)) ⟨by simp [A0,Ah6],rfl,rfl⟩ fun h=>?_
  (refine Ja ?_;unhygienic intros)
  refine Tr.xCellsB (xs:=A0 p.data) (Hp8 p.len) ?_
  rw [Go4 (by omega),Eq4]
  refine Tr.xPAggS (cs':=A0 (I8 p)) ⟨?_,?_,Ag1 _,?_⟩ fun h=>?_
  ·intro e;have:=congrArg List.length e;simp [A0,hd] at this
  ·simp [A0,hd,Ah6]
  ·rw [V2,hd]
   simp [A0,I8,Ah6]
  refine Ys fun o=>?_
  simp only [if_true]
  exact ⟨trivial,o.sub⟩
abbrev E74 (k:Nat):HP:=pt k (.cells Br3 false [int 40,.func (.func Bm4) ⟨[]⟩ ⟨[]⟩,.func (.func Bl2) ⟨[]⟩ ⟨[]⟩])
theorem Hf5 (k:Nat) (f:PipeS):Ct B6 V7 [P0 k,.agg ⟨E4 f⟩] [E74 k] fun v own=>(okP f=true∧∃ a,v=.tuple ⟨[.slice a 40 40,.bool true]⟩∧own [E74 k,slC false B1 1 a 40 40 (A0 (I8 f))])∨(okP f=false∧v=.tuple ⟨[.slice none 0 0,.bool false]⟩∧own [E74 k]):=by
 refine Ct.of B42 rfl fun h r=>Tr.eq (B41 ..) ?_;refine Je ?_
 (refine Ja ?_;unhygienic intros)
 refine Tr.ck ⟨by omega,by omega,by simp [B7]⟩ ?_
 refine Yn fun b1 h=>?_
 rw [show H6 (Int.toNat 40) [.int .u8 0]=A0 (List.replicate 40 0) from rfl]
 refine Aa1 0 rfl 1 40 rfl (by omega) ?_
 simp only [List.set_cons_zero]
 refine Je ?_
 (refine Jb ?_;unhygienic intros)
 refine Yb (Yf rfl ?_)
 (refine Jb ?_;unhygienic intros)
 refine Yc (Ig5 (some ⟨b1,0,none⟩) 40 f) ?_;rintro _ h ⟨rfl,o⟩<;>(refine Jg o ?_;unhygienic intros)
 refine Ys fun o=>(?_:Tr _ _ _ _) o;refine Je ?_
 cases hk:okP f with
 | false =>
  (refine Ja ?_;unhygienic intros)
  refine Ys fun o=>?_
  exact .inr ⟨rfl,rfl,o.sub⟩
 | true =>
  (refine Ja ?_;unhygienic intros)
  refine Ys fun o=>?_
  simp only [if_true] at o
  exact .inl ⟨rfl,_,rfl,o.sub⟩
theorem Ii8:Ct B6 Aq6 [int 40,.func (.func Bm4) ⟨[]⟩ ⟨[]⟩,.func (.func Bl2) ⟨[]⟩ ⟨[]⟩] [] fun v own=>∃ k,v=P0 k∧own [E74 k]:=by
 refine Ct.of Ec4 rfl fun h r=>Tr.eq (Ed5 ..) ?_;refine Je ?_
 rw [show mm2 false (mm2 true 40 0) 64=40 from rfl]
 (refine Ja ?_;unhygienic intros)
 refine Ys fun o=>?_
 exact ⟨_,rfl,o.sub⟩
theorem Gp1:Ct B6 Bk5 [] [] fun v own=>∃ k,v=P0 k∧own [E74 k]:=by
 refine Ct.of G00 rfl fun h r=>Tr.eq (Hc9 ..) ?_;refine Je ?_
 refine Yc (Ii8) ?_;rintro _ h ⟨k,rfl,o⟩<;>(refine Jf o ?_;unhygienic intros)
 refine Ys fun o=>?_
 exact ⟨_,rfl,o.sub⟩
theorem Ef7 (f:PipeS):Ct B6 Aw8 [.agg ⟨E4 f⟩] [] fun v own=>(okP f=true∧∃ a,v=.tuple ⟨[.slice a 40 40,.bool true]⟩∧own [slC false B1 1 a 40 40 (A0 (I8 f))])∨(okP f=false∧v=.tuple ⟨[.slice none 0 0,.bool false]⟩∧own []):=by
 refine Ct.of Gx6 rfl fun h r=>Tr.eq (Gx9 ..) ?_;refine Je ?_
 refine Yn fun b1 h=>?_
 (refine Ja ?_;unhygienic intros)
 refine Yc (Gp1) ?_;rintro _ h ⟨k,rfl,o⟩<;>(refine Jg o ?_;unhygienic intros)
 (refine Ja ?_;unhygienic intros)
 refine Yc (Hf5 k f) ?_
 rintro v h (⟨hk,a,rfl,o⟩|⟨hk,rfl,o⟩)
 ·refine (?_:Tr _ _ _ _) o
  refine Je ?_
  (refine Ja ?_;unhygienic intros)
  refine Ys fun o=>?_
  exact .inl ⟨hk,a,rfl,o.sub⟩
 ·refine (?_:Tr _ _ _ _) o
  refine Je ?_
  (refine Ja ?_;unhygienic intros)
  refine Ys fun o=>?_
  exact .inr ⟨hk,rfl,o.sub⟩
def Dx5 (l:List UInt8):List UInt8:=(l++List.replicate 32 0).take 32
theorem Hy7 (l:List UInt8):(Dx5 l).length=32:=by simp [Dx5]
theorem Ea4 {l:List UInt8} (h:l.length=32):Dx5 l=l:=by simp [Dx5,← h]
def Be9 (l:List UInt8):PipeS:=⟨byI l 1,byI l 2,byI l 3,byI l 4,Dx5 (l.drop 8),Hy7 _⟩
def isP (l:List UInt8):Bool:=okP (Be9 l) && decide (I8 (Be9 l)=l)
theorem Ii7 (a:Option Addr) (c:Nat) (l:List UInt8) (hl:l.length=40):Ct B6 Bl2 [.slice a 40 c] [slC false B1 1 a 40 c (A0 l)] fun v own=>v=.tuple ⟨[.agg ⟨E4 (Be9 l)⟩,.bool (isP l)]⟩∧own [slC false B1 1 a 40 c (A0 l)]:=by
 have hd:=(Be9 l).len
 have hp:Dx5 (l.drop 8)=l.drop 8:=Ea4 (by simp [hl])
 have key:∀ a1:Option Addr,CtP B6 D6 [.slice a1 40 40,.slice a 40 c] [slC false B1 1 a1 40 40 (A0 (I8 (Be9 l))),slC false B1 1 a 40 c (A0 l)] (.bool (decide (I8 (Be9 l)=l))):=fun a1=>by
  have e:=A17 hd
  have J:=En0 (slC false B1 1 a1 (I8 (Be9 l)).length 40 (A0 (I8 (Be9 l)))) (slC false B1 1 a l.length c (A0 l)) a1 false 40 a false c (I8 (Be9 l)) l (by rw [e];simp [B7])
  rwa [hl,e] at J
 refine Ct.of Hw1 rfl fun h r=>Tr.eq (Hs2 ..) ?_;refine Je ?_
 refine Yn fun b1 h=>?_
 refine U4 1 rfl fun hl2 hc2 _=>?_
 (refine Ja ?_;unhygienic intros;repeat(refine Gw ?_;rintro px rfl;refine Ja ?_;unhygienic intros))
 refine Tr.xIntS (v:=byI l 1) (Ad6 (by omega)) ?_
 (refine Ja ?_;unhygienic intros)
 refine Tr.xIntS (v:=byI l 2) (Ad6 (by omega)) ?_
 (refine Ja ?_;unhygienic intros)
 refine Tr.xIntS (v:=byI l 3) (Ad6 (by omega)) ?_
 (refine Ja ?_;unhygienic intros)
 refine Tr.xIntS (v:=byI l 4) (Ad6 (by omega)) ?_
 simp only [byI,Am9]
 refine Yn fun b2 h=>?_
 (refine Jb ?_;unhygienic intros)
 rw [Go4 (show 8<c by omega),Gz9]
 refine Tr.xAggS (xs:=A0 (l.drop 8)) ⟨by omega,by simp [V2,hl],?_⟩ ?_
 ·rw [B74,List.take_of_length_le (by simp [V2,hl])]
 rw [show pCells (some (⟨b2,4,none⟩:Addr))=pAgg ⟨b2,4,none⟩ from rfl]
 refine Tr.xPAgg (cs':=E4 (Be9 l)) ⟨by simp [V2,hl],Ag1 _,by simp [E4,Be9,byI,V2,hl,hp]⟩ fun h=>?_
 (refine Ja ?_;unhygienic intros)
 refine Yc (Ef7 (Be9 l)) ?_
 rintro v h (⟨hk,a1,rfl,o⟩|⟨hk,rfl,o⟩)
 ·refine (?_:Tr _ _ _ _) o
  refine Je ?_
  (refine Jb ?_;unhygienic intros)
  refine Yb (Yt rfl ?_)
  refine Tr.pcall (key a1) ?_;refine Je ?_;(refine Jb ?_;unhygienic intros)
  refine Ys fun o=>(?_:Tr _ _ _ _) o;refine Je ?_
  (refine Ja ?_;unhygienic intros)
  refine Ys fun o=>?_
  exact ⟨by unfold isP;rw [hk,Bool.true_and],o.sub⟩
 ·refine (?_:Tr _ _ _ _) o
  refine Je ?_
  (refine Ja ?_;unhygienic intros)
  refine Ys fun o=>?_
  exact ⟨by unfold isP;rw [hk];rfl,o.sub⟩
theorem Hj3 (k:Nat) (a:Option Addr) (c:Nat) (l:List UInt8) (hl:l.length=40):Ct B6 V8 [P0 k,.slice a 40 c] [E74 k,slC false B1 1 a 40 c (A0 l)] fun v own=>v=.tuple ⟨[.agg ⟨E4 (if isP l then Be9 l else .zero)⟩,.bool (isP l)]⟩∧own [E74 k,slC false B1 1 a 40 c (A0 l)]:=by
 have hd:=(Be9 l).len
 have hp:Dx5 (l.drop 8)=l.drop 8:=Ea4 (by simp [hl])
 refine Ct.of B48 rfl fun h r=>Tr.eq (B45 ..) ?_;refine Je ?_
 (refine Ja ?_;unhygienic intros)
 refine Yf rfl ?_
 (refine Jb ?_;unhygienic intros)
 refine Yc (Eq7 40 a c l hl (by simp [B7])) ?_;rintro _ h ⟨a1,c1,rfl,o⟩<;>(refine Jg o ?_;unhygienic intros)
 refine Yc (Ii7 a1 c1 l hl) ?_;rintro _ h ⟨rfl,o⟩<;>(refine Jg o ?_;unhygienic intros)
 cases hk:isP l with
 | false =>
  (refine Ja ?_;unhygienic intros)
  refine Ys fun o=>?_
  exact ⟨rfl,o.sub⟩
 | true =>
  (refine Ja ?_;unhygienic intros)
  refine Ys fun o=>?_
  exact ⟨rfl,o.sub⟩
def Q8 (l:List UInt8):PipeS × Int:=if l.all (·==0) then (.zero,0) else if isP l then (Be9 l,1) else (.zero,2)
theorem Hs7 (a:Option Addr) (c:Nat) (l:List UInt8) (hl:l.length=40):Ct B6 Aw1 [.slice a 40 c] [slC false B1 1 a 40 c (A0 l)] fun v own=>v=.tuple ⟨[.agg ⟨E4 (Q8 l).1⟩,int (Q8 l).2]⟩∧own [slC false B1 1 a 40 c (A0 l)]:=by
 have hd:=(Be9 l).len
 have hp:Dx5 (l.drop 8)=l.drop 8:=Ea4 (by simp [hl])
 refine Ct.of Gx7 rfl fun h r=>Tr.eq (Gx4 ..) ?_;refine Je ?_
 refine Yn fun b1 h=>?_
 refine Yb (Yt rfl ?_)
 refine Tr.pcall (Em1 40 a c l hl (by simp [B7])) ?_;refine Je ?_;(refine Jb ?_;unhygienic intros)
 refine Ys fun o=>(?_:Tr _ _ _ _) o;refine Je ?_
 cases hb:l.all (·==0) with
 | true =>
  (refine Ja ?_;unhygienic intros)
  refine Ys fun o=>?_
  exact ⟨by unfold Q8;rw [hb];rfl,o.sub⟩
 | false =>
  (refine Jb ?_;unhygienic intros)
  refine Yc (Gp1) ?_;rintro _ h ⟨k,rfl,o⟩<;>(refine Jg o ?_;unhygienic intros)
  refine Yc (Hj3 k a c l hl) ?_;rintro _ h ⟨rfl,o⟩<;>(refine Jg o ?_;unhygienic intros)
  cases hk:isP l with
  | false =>
   (refine Ja ?_;unhygienic intros)
   refine Ys fun o=>?_
   exact ⟨by unfold Q8;rw [hb,hk];rfl,o.sub⟩
  | true =>
   (refine Ja ?_;unhygienic intros)
   refine Ys fun o=>?_
   exact ⟨by unfold Q8;rw [hb,hk];rfl,o.sub⟩
structure ProcS where
 state:Int
 parent:Int
 group:Int
 code:Int
 pending:Int
 mask:Int
 ignored:Int
 caught:Int
 fds:List Int
 len:fds.length=8
abbrev Gz0:List Int:=[0,0,0,0,0,0,0,0]
abbrev ProcS.zero:ProcS:=⟨0,0,0,0,0,0,0,0,Gz0,rfl⟩
abbrev E0 (p:ProcS):List Value:=int p.state::int p.parent::int p.group::int p.code::int p.pending::int p.mask::int p.ignored::int p.caught::p.fds.map int
theorem Bx0 (p:ProcS):(E0 p).length=16:=by simp [E0,p.len]
theorem Hz9 (p:ProcS):(E0 p).all Value.oneCell=true:=by simp [E0,Value.oneCell]
instance {p:ProcS}:LenC (E0 p) 16:=⟨Bx0 p⟩
instance {p:ProcS}:PartC (E0 p) 0 16 (E0 p):=⟨Bx2 (Bx0 p)⟩
instance {p:ProcS}:PartC (E0 p) 8 8 (p.fds.map int):=⟨by
 have h:Nat.ble (8+8) (E0 p).length=true:=by rw [Bx0];rfl
 have e:((E0 p).drop 8).take 8=p.fds.map int:=by rw [show (E0 p).drop 8=p.fds.map int from rfl,List.take_of_length_le (by simp [p.len])]
 rw [B94,h,e];rfl⟩
instance {p:ProcS} {cs:List Value} [k:LenC cs 16]:SetsC cs 0 (E0 p) (E0 p):=⟨Bj9 k.ok (Bx0 p) (Hz9 p)⟩
instance {p:ProcS}:SameC (.agg ⟨E0 p⟩):=⟨Dv3 (by simp [E0])⟩
def Ed6 (n w:Int):Bool:=Et8 .i64 n 65534==0 && Q9 .i64 n w==0
def okS (p:ProcS):Bool :=
 !(decide (p.state<1) || decide (p.state>3) || decide (p.parent<0) || decide (p.parent>8) || decide (p.group<0) || decide (p.group≥8) || decide (p.code<0) || decide (p.code>255)) &&
 (!(!Ed6 p.pending 0 || !Ed6 p.mask 16896 || !Ed6 p.ignored 16896 || !Ed6 p.caught 16896 || Q9 .i64 p.ignored p.caught != 0) &&
 (!(p.fds.any fun f=>decide (f<0) || decide (f>12)) &&
 (if p.state=2 then p.pending==0 && decide (p.fds=Gz0) else p.code==0)))
def hi2 (n:Int):UInt8:=if 0≤n∧n≤65535 then b8 (n / 256) else 0
def lo2 (n:Int):UInt8:=if 0≤n∧n≤65535 then b8 n else 0
abbrev put2 (n:Int):List UInt8:=[hi2 n,lo2 n]
def Ea0 (p:ProcS):List UInt8:=[b8 p.state,b8 p.parent,b8 p.group,b8 p.code]++(put2 p.pending++(put2 p.mask++(put2 p.ignored++(put2 p.caught++(p.fds.map b8++[167])))))
theorem Ib9 (n:Int):(put2 n).length=2:=rfl
theorem H17 (p:ProcS):(Ea0 p).length=21:=by simp [Ea0,Ib9,p.len]
def Av4 (p:ProcS):List UInt8:=Ea0 p++[Bv2 (Ea0 p),0,0]
theorem Eg5 (p:ProcS):(Av4 p).length=24:=by simp [Av4,H17]
theorem Ih7 (n w:Int):CtP B6 Ak0 [int n,int w] [] (.bool (Ed6 n w)):=by
 refine CtP.of Hc2 rfl fun h r=>Tr.eq (G31 ..) ?_;refine Je ?_
 exact Jz
instance {n w:Int} {l:List HP}:PCi B6 Ak0 [.int .i64 n,.int .i64 w] l (.bool (Ed6 n w)):=PCi.of (Ih7 n w)
theorem Ig6 (f:Int):CtP B6 Bh3 [int f] [] (.bool (decide (f<0) || decide (f>12))):=by
 refine CtP.of Hc4 rfl fun h r=>Tr.eq (G24 ..) ?_;refine Je ?_
 exact Jz
theorem E63 (p:HP) (a:Option Addr) (ro:Bool) (c:Nat) (l:List Int) (g:FuncId) (f:Int→Bool) {e:TypeId} [ks:IsSl p a ro e 1 l.length c (l.map int)] (hl:l.length≤B7) (hf:∀ x,CtP B6 g [int x] [] (.bool (f x))):∀ (m i:Nat),l.length-i=m→i≤l.length →
  V3 H5 E1 N3 [(0,.slice a l.length c),(1,.func (.func g) ⟨[]⟩ ⟨[]⟩),(7,int l.length),(8,int i)] [p] (int (Bs6 f i (l.drop i))):=by
 intro m
 induction m with
 | zero =>
  intro i hm hi
  refine V3.of M0 fun h r=>Tr.eq (S7 ..) ?_;refine Je ?_
  refine Yf (by simp;omega) ?_
  refine Ys fun o=>?_
  rw [List.drop_eq_nil_of_le (by omega)];exact ⟨rfl,rfl⟩
 | succ m ih =>
  intro i hm hi
  have hlt:i<l.length:=by omega
  have hp:l[i]?=some l[i]:=List.getElem?_eq_getElem hlt
  have hd:l.drop i=l[i]::l.drop (i+1):=List.drop_eq_getElem_cons hlt
  generalize l[i]=x at hp hd
  have e1:IntKind.wrap .i64 ((i:Int)+1)=((i+1:Nat):Int):=by rw [B5];simp only [B7] at hl;omega
  refine V3.of M0 fun h r=>Tr.eq (S7 ..) ?_;refine Je ?_
  refine Yt (by simp;omega) ?_
  (refine Ja ?_;unhygienic intros;repeat(refine Gw ?_;rintro px rfl;refine Ja ?_;unhygienic intros))
  refine Tr.xIntS (v:=x) (by simp [hp]) ?_
  (refine Ja ?_;unhygienic intros)
  refine Tr.pcall (hf x) ?_
  cases hx:f x with
  | true =>
   (refine Ja ?_;unhygienic intros)
   refine Ys fun o=>?_
   rw [hd,Bs6,if_pos hx];exact ⟨by first|rfl|trivial,by first|rfl|trivial⟩
  | false =>
   (refine Ja ?_;unhygienic intros)
   rw [e1]
   refine Z1 (ih (i+1) (by omega) (by omega)) (r:=r) (by simp) fun o=>?_
   rw [hd,Bs6,if_neg (by simp [hx])];exact ⟨by first|rfl|trivial,by first|rfl|trivial⟩
theorem Gb4 (p:HP) (a:Option Addr) (ro:Bool) (c:Nat) (l:List Int) (g:FuncId) (f:Int→Bool) {e:TypeId} [ks:IsSl p a ro e 1 l.length c (l.map int)] (hl:l.length≤B7) (hf:∀ x,CtP B6 g [int x] [] (.bool (f x))) :
  CtP B6 E9 [.slice a l.length c,.func (.func g) ⟨[]⟩ ⟨[]⟩] [p] (.bool (l.any f)):=by
 have j:CtP B6 E1 [.slice a l.length c,.func (.func g) ⟨[]⟩ ⟨[]⟩] [p] (int (Bs6 f 0 l)):=by
  refine CtP.of M0 rfl fun h r=>Tr.eq (A41 ..) ?_;refine Je ?_
  exact Z1 (E63 p a ro c l g f hl hf _ 0 rfl (by omega)) (r:=r) (by simp) fun o=>⟨rfl,rfl⟩
 refine CtP.of Av1 rfl fun h r=>Tr.eq (Av3 ..) ?_;refine Je ?_
 refine Bw9 j (r:=r) (by simp) ?_
 (refine Ja ?_;unhygienic intros)
 refine Ys fun o=>?_
 rw [El2];exact ⟨by first|rfl|trivial,by first|rfl|trivial⟩
theorem G69:∀ (l m:List Int),l.length=m.length→eqs (l.map int) (m.map int)=some (decide (l=m))
 | [],[],_=>rfl
 | [],_::_,h=>by simp at h
 | _::_,[],h=>by simp at h
 | a::l,b::m,h=>by
  have ih:=G69 l m (by simpa using h)
  simp only [List.map_cons,eqs,eq1,decide_true,ih]
  by_cases h1:a=b<;>by_cases h2:l=m<;>simp [h1,h2]
theorem E92:∀ (l:List Int),H0 (List.replicate l.length (TypeDesc.int .i64)) (l.map int)=true
 | []=>rfl
 | a::l=>by
  have:=E92 l
  simp only [List.length_cons,List.replicate_succ,List.map_cons,H0,decide_true,this,Bool.and_self]
theorem eq8 {α:Type} (l m:List Int) (hl:l.length=8) (hm:m.length=8) (k:Bool→Option α):B95 PR Gm4 (l.map int) (m.map int) k=k (decide (l=m)):=by
 have e:Aj7 PR 8 Gm4=some (List.replicate 8 (TypeDesc.int .i64)):=by kernel_rfl
 have f1:=E92 l;have f2:=E92 m
 rw [hl] at f1;rw [hm] at f2
 rw [B95,e]
 simp only [f1,f2,G69 l m (by omega),Bool.and_self,ckB,cond_true,eqK]
theorem Io0 (p:ProcS):Ct B6 Di6 [.agg ⟨E0 p⟩] [] fun v own=>v=.bool (okS p)∧own []:=by
 have h8:=p.len
 refine Ct.of Hs3 rfl fun h r=>Tr.eq (Hr5 ..) ?_;refine Je ?_
 (refine Ja ?_;unhygienic intros)
 refine Tr.cond (fun h1=>?_) fun h1=>?_
 ·refine Ys fun o=>?_
  refine ⟨?_,o.sub⟩
  unfold okS;rw [h1];rfl
 (refine Ja ?_;unhygienic intros)
 refine Tr.cond (fun h2=>?_) fun h2=>?_
 ·refine Ys fun o=>?_
  refine ⟨?_,o.sub⟩
  unfold okS;rw [h1,h2];rfl
 (refine Ja ?_;unhygienic intros)
 refine Gm8 0 rfl [int p.state,int p.parent,int p.group,int p.code,int p.pending,int p.mask,int p.ignored,int p.caught] (p.fds.map int) [] (by simp [E0]) 1 8 8 8 ⟨by simp [h8],by omega,by simp,by simp [E0],by omega,by omega⟩ ?_
 refine Je ?_
 have J:=Gb4 (e:=D8) (slX false D8 1 (some ⟨b,8,none⟩) p.fds.length 8 ([int p.state,int p.parent,int p.group,int p.code,int p.pending,int p.mask,int p.ignored,int p.caught],[]) (p.fds.map int)) (some ⟨b,8,none⟩) false 8 p.fds Bh3 (fun f=>decide (f<0) || decide (f>12)) (by rw [h8];simp [B7]) Ig6
 rw [h8] at J
 refine Tr.pcall (J) ?_;refine Je ?_;(refine Ja ?_;unhygienic intros)
 refine Eo2 0 rfl (E0 p) (by simp [E0]) ?_
 refine Je ?_
 cases h3:p.fds.any fun f=>decide (f<0) || decide (f>12) with
 | true =>
  (refine Ja ?_;unhygienic intros)
  refine Ys fun o=>?_
  refine ⟨?_,o.sub⟩
  unfold okS;rw [h1,h2,h3];rfl
 | false =>
  (refine Ja ?_;unhygienic intros)
  have e:okS p=if p.state=2 then p.pending==0 && decide (p.fds=Gz0) else p.code==0:=by unfold okS;rw [h1,h2,h3];rfl
  rw [e]
  by_cases h4:p.state=2
  ·refine Yt (by simpa using h4) ?_
   rw [if_pos h4]
   (repeat' first|refine Gu ?_|(with_reducible first|refine Gn fun b h=>?_|apply Gx|apply Gy|rintro px rfl|apply Gw|refine fun(h:H)=>?_|intro hb)|refine Gs ?_|refine Gt ?_|exact Gz rfl|fail)
   rw [show ([int 0,int 0,int 0,int 0,int 0,int 0,int 0,int 0]:List Value)=Gz0.map int from rfl,eq8 _ _ h8 rfl]
   (repeat' first|refine Gu ?_|(with_reducible first|refine Gn fun b h=>?_|apply Gx|apply Gy|rintro px rfl|apply Gw|refine fun(h:H)=>?_|intro hb)|refine Gs ?_|refine Gt ?_|exact Gz rfl|fail)
   refine Ys fun o=>?_
   exact ⟨rfl,o.sub⟩
  ·refine Yf (by simpa using h4) ?_
   rw [if_neg h4]
   (refine Ja ?_;unhygienic intros)
   refine Ys fun o=>?_
   exact ⟨rfl,o.sub⟩
theorem Ij2 (a:Option Addr) (c:Nat) (cs:List Value) (j:Nat) (n:Int) (hj:j+2≤cs.length) (hm:cs.length≤B7):Ct B6 Bi7 [.slice a cs.length c,int j,int n] [slC false B1 1 a cs.length c cs] fun v own =>
  (∃ ok,v=.bool ok)∧own [slC false B1 1 a cs.length c (if 0≤n∧n≤65535 then (cs.set j (.int .u8 ((b8 (n / 256)).toNat:Int))).set (j+1) (.int .u8 ((b8 n).toNat:Int)) else cs)]:=by
 simp only [B7] at hm
 have e1:IntKind.wrap .i64 ((cs.length:Int)-2)=(cs.length:Int)-2:=by rw [B5];omega
 have e2:IntKind.wrap .i64 ((j:Int)+1)=((j+1:Nat):Int):=by rw [B5];omega
 refine Ct.of G45 rfl fun h r=>Tr.eq (G72 ..) ?_;refine Je ?_
 rw [e1,e2]
 (refine Ja ?_;unhygienic intros)
 by_cases h:0≤n∧n≤65535
 ·refine Yf (by simp;omega) ?_
  rw [if_pos h]
  (refine Ja ?_;unhygienic intros;repeat(refine Gw ?_;rintro px rfl;refine Ja ?_;unhygienic intros))
  rw [Int.toNat_natCast,show Int.fdiv n (2 ^ 8)=n / 256 by rw [Int.fdiv_eq_ediv_of_nonneg _ (by omega)];rfl,Bj7,Bj7]
  refine Je ?_
  refine Tr.xVS (cs':=cs.set j (.int .u8 ((b8 (n / 256)).toNat:Int))) ⟨by omega,rfl,rfl⟩ fun h=>?_
  (refine Ja ?_;unhygienic intros)
  rw [Int.toNat_natCast]
  refine Je ?_
  refine Tr.xVS (cs':=(cs.set j (.int .u8 ((b8 (n / 256)).toNat:Int))).set (j+1) (.int .u8 ((b8 n).toNat:Int))) ⟨by simp;omega,rfl,rfl⟩ fun h=>?_
  refine Ys fun o=>?_
  exact ⟨⟨_,rfl⟩,o.sub⟩
 ·refine Yt (by simp;omega) ?_
  rw [if_neg h]
  refine Ys fun o=>?_
  exact ⟨⟨_,rfl⟩,o.sub⟩
theorem D43 (l:List UInt8) (j:Nat) (x:UInt8):(A0 l).set j (.int .u8 (x.toNat:Int))=A0 (l.set j x):=by simp [A0,List.map_set]
theorem Ed7 (a:Option Addr) (c m:Nat) (l:List UInt8) (j:Nat) (n:Int) (hm:l.length=m) (hj:j+2≤m) (h1:l[j]?=some 0) (h2:l[j+1]?=some 0) (hl:m≤B7):Ct B6 Bi7 [.slice a m c,int j,int n] [slC false B1 1 a m c (A0 l)] fun v own =>
  (∃ ok,v=.bool ok)∧own [slC false B1 1 a m c (A0 ((l.set j (hi2 n)).set (j+1) (lo2 n)))]:=by
 subst hm
 have J:=Ij2 a c (A0 l) j n (by rw [V2];omega) (by rw [V2];omega)
 rw [V2] at J
 have e:(if 0≤n∧n≤65535 then ((A0 l).set j (.int .u8 ((b8 (n / 256)).toNat:Int))).set (j+1) (.int .u8 ((b8 n).toNat:Int)) else A0 l)=A0 ((l.set j (hi2 n)).set (j+1) (lo2 n)):=by
  unfold hi2 lo2
  split
  ·rw [D43,D43]
  ·rw [Ev6 h1,Ev6 h2]
 rw [e] at J
 exact J
def two (l:List UInt8) (j:Nat):Int:=byI l j*256+byI l (j+1)
theorem Io5 (x y:UInt8):Hu9 .i64 (IntKind.wrap .i64 (IntKind.wrap .i64 (x.toNat:Int)*2 ^ 8)) (IntKind.wrap .i64 (y.toNat:Int))=(x.toNat:Int)*256+y.toNat:=by
 have hx:=x.toNat_lt;have hy:=y.toNat_lt
 have e1:IntKind.wrap .i64 (IntKind.wrap .i64 (x.toNat:Int)*2 ^ 8)=((x.toNat*256:Nat):Int):=by rw [Am9,B5];omega
 rw [e1,Am9]
 unfold Hu9
 have e0:IntKind.bits .i64=64:=rfl
 rw [e0,BitVec.ofInt_natCast,BitVec.ofInt_natCast,BitVec.toNat_or,BitVec.toNat_ofNat,BitVec.toNat_ofNat,Nat.mod_eq_of_lt (by omega),Nat.mod_eq_of_lt (by omega)]
 have e2:x.toNat*256 ||| y.toNat=x.toNat*256+y.toNat:=by
  have:=Nat.two_pow_add_eq_or_of_lt (i:=8) (b:=y.toNat) (by omega) x.toNat
  rw [show 2 ^ 8*x.toNat=x.toNat*256 by omega] at this
  exact this.symm
 rw [e2,B5];omega
theorem Ex1 (a:Option Addr) (c n:Nat) (l:List UInt8) (j:Nat) (hn:l.length=n) (hj:j+2≤n) (hm:n≤B7):CtP B6 B01 [.slice a n c,int j] [slC false B1 1 a n c (A0 l)] (.tuple ⟨[int (two l j),.bool true]⟩):=by
 simp only [B7] at hm
 have e1:IntKind.wrap .i64 ((n:Int)-2)=(n:Int)-2:=by rw [B5];omega
 have e2:IntKind.wrap .i64 ((j:Int)+1)=((j+1:Nat):Int):=by rw [B5];omega
 refine CtP.of G25 rfl fun h r=>Tr.eq (G61 ..) ?_;refine Je ?_
 rw [e1,e2]
 (refine Ja ?_;unhygienic intros)
 refine Yf (by simp;omega) ?_
 (refine Ja ?_;unhygienic intros;repeat(refine Gw ?_;rintro px rfl;refine Ja ?_;unhygienic intros))
 rw [Int.toNat_natCast]
 refine Je ?_
 refine Tr.xIntS (v:=byI l j) (Ad6 (by omega)) ?_
 (refine Ja ?_;unhygienic intros)
 rw [Int.toNat_natCast]
 refine Je ?_
 refine Tr.xIntS (v:=byI l (j+1)) (Ad6 (by omega)) ?_
 refine Ys fun o=>?_
 rw [Io5];exact ⟨rfl,rfl⟩
theorem Ij3 (a:Option Addr) (c:Nat) (p:ProcS):Ct B6 O4 [.agg ⟨E0 p⟩,.slice a 24 c] [slC false B1 1 a 24 c (A0 (List.replicate 24 0))] fun v own=>v=.bool (okS p)∧own [slC false B1 1 a 24 c (A0 (if okS p then Av4 p else List.replicate 24 0))]:=by
 refine Ct.of H9 rfl fun h r=>Tr.eq (He9 ..) ?_;refine Je ?_
 refine Yn fun b1 h=>?_
 (refine Ja ?_;unhygienic intros)
 refine Yc (Io0 p) ?_;rintro _ h ⟨rfl,o⟩<;>(refine Jf o ?_;unhygienic intros)
 cases hk:okS p with
 | false =>
  (refine Ja ?_;unhygienic intros)
  refine Ys fun o=>?_
  rw [if_neg (by simp)]
  exact ⟨rfl,o.sub⟩
 | true =>
  simp only [if_true]
  obtain ⟨st,pa,gr,co,pe,ma,ig,ca,fds,len⟩:=p
  match fds,len with
  | [f0,f1,f2,f3,f4,f5,f6,f7],len =>
  (refine Ja ?_;unhygienic intros)
  rename_i b2 h2
  refine U4 2 rfl fun hl hc _=>?_
  simp only [List.map]
  refine Tr.jmp H9 (Tr.eq (A53 ..) ?_);(try simp only[Nr,Nl,wl,Nat.reduceAdd,Nat.reduceMul,Int.reduceToNat])
  (refine Jd ?_;unhygienic intros;repeat(refine Gw ?_;rintro px rfl;refine Jd ?_;unhygienic intros))
  refine Tr.jmp H9 (Tr.eq (A53 ..) ?_);(try simp only[Nr,Nl,wl,Nat.reduceAdd,Nat.reduceMul,Int.reduceToNat])
  (refine Jd ?_;unhygienic intros)
  refine Tr.jmp H9 (Tr.eq (A53 ..) ?_);(try simp only[Nr,Nl,wl,Nat.reduceAdd,Nat.reduceMul,Int.reduceToNat])
  (refine Jd ?_;unhygienic intros)
  refine Tr.jmp H9 (Tr.eq (A53 ..) ?_);(try simp only[Nr,Nl,wl,Nat.reduceAdd,Nat.reduceMul,Int.reduceToNat])
  (refine Jd ?_;unhygienic intros)
  refine Tr.jmp H9 (Tr.eq (A53 ..) ?_);(try simp only[Nr,Nl,wl,Nat.reduceAdd,Nat.reduceMul,Int.reduceToNat])
  (refine Jd ?_;unhygienic intros)
  simp only [Bj7,D43,List.replicate,List.set_cons_zero,List.set_cons_succ,Nat.mul_one]
  refine Tr.jmp H9 (Tr.eq (A61 ..) ?_);(try simp only[Nr,Nl,wl,Nat.reduceAdd,Nat.reduceMul,Int.reduceToNat])
  (refine Jd ?_;unhygienic intros)
  refine Yc (Ed7 (some px) c 24 [b8 st,b8 pa,b8 gr,b8 co,0,0,0,0,0,0,0,0,0,0,0,0,0,0,0,0,0,0,0,0] 4 pe rfl (by omega) rfl rfl (by simp [B7])) ?_;rintro _ h ⟨⟨_,rfl⟩,o⟩<;>(refine Jf o ?_;unhygienic intros)
  refine Tr.jmp H9 (Tr.eq (A61 ..) ?_);(try simp only[Nr,Nl,wl,Nat.reduceAdd,Nat.reduceMul,Int.reduceToNat])
  (refine Jd ?_;unhygienic intros)
  refine Yc (Ed7 (some px) c 24 [b8 st,b8 pa,b8 gr,b8 co,hi2 pe,lo2 pe,0,0,0,0,0,0,0,0,0,0,0,0,0,0,0,0,0,0] 6 ma rfl (by omega) rfl rfl (by simp [B7])) ?_;rintro _ h ⟨⟨_,rfl⟩,o⟩<;>(refine Jf o ?_;unhygienic intros)
  refine Tr.jmp H9 (Tr.eq (A61 ..) ?_);(try simp only[Nr,Nl,wl,Nat.reduceAdd,Nat.reduceMul,Int.reduceToNat])
  (refine Jd ?_;unhygienic intros)
  refine Yc (Ed7 (some px) c 24 [b8 st,b8 pa,b8 gr,b8 co,hi2 pe,lo2 pe,hi2 ma,lo2 ma,0,0,0,0,0,0,0,0,0,0,0,0,0,0,0,0] 8 ig rfl (by omega) rfl rfl (by simp [B7])) ?_;rintro _ h ⟨⟨_,rfl⟩,o⟩<;>(refine Jf o ?_;unhygienic intros)
  refine Tr.jmp H9 (Tr.eq (A61 ..) ?_);(try simp only[Nr,Nl,wl,Nat.reduceAdd,Nat.reduceMul,Int.reduceToNat])
  (refine Jd ?_;unhygienic intros)
  refine Yc (Ed7 (some px) c 24 [b8 st,b8 pa,b8 gr,b8 co,hi2 pe,lo2 pe,hi2 ma,lo2 ma,hi2 ig,lo2 ig,0,0,0,0,0,0,0,0,0,0,0,0,0,0] 10 ca rfl (by omega) rfl rfl (by simp [B7])) ?_;rintro _ h ⟨⟨_,rfl⟩,o⟩<;>(refine Jf o ?_;unhygienic intros)
  refine Tr.jmp H9 (Tr.eq (A61 ..) ?_);(try simp only[Nr,Nl,wl,Nat.reduceAdd,Nat.reduceMul,Int.reduceToNat])
  (refine Jd ?_;unhygienic intros)
  refine Tr.jmp H9 (Tr.eq (Y3 ..) ?_);(try simp only[Nr,Nl,wl,Nat.reduceAdd,Nat.reduceMul,Int.reduceToNat])
  (refine Jd ?_;unhygienic intros)
  refine Tr.jmp H9 (Tr.eq (Y3 ..) ?_);(try simp only[Nr,Nl,wl,Nat.reduceAdd,Nat.reduceMul,Int.reduceToNat])
  (refine Jd ?_;unhygienic intros)
  refine Tr.jmp H9 (Tr.eq (Y3 ..) ?_);(try simp only[Nr,Nl,wl,Nat.reduceAdd,Nat.reduceMul,Int.reduceToNat])
  (refine Jd ?_;unhygienic intros)
  refine Tr.jmp H9 (Tr.eq (Y3 ..) ?_);(try simp only[Nr,Nl,wl,Nat.reduceAdd,Nat.reduceMul,Int.reduceToNat])
  (refine Jd ?_;unhygienic intros)
  refine Tr.jmp H9 (Tr.eq (Y3 ..) ?_);(try simp only[Nr,Nl,wl,Nat.reduceAdd,Nat.reduceMul,Int.reduceToNat])
  (refine Jd ?_;unhygienic intros)
  refine Tr.jmp H9 (Tr.eq (Y3 ..) ?_);(try simp only[Nr,Nl,wl,Nat.reduceAdd,Nat.reduceMul,Int.reduceToNat])
  (refine Jd ?_;unhygienic intros)
  refine Tr.jmp H9 (Tr.eq (Y3 ..) ?_);(try simp only[Nr,Nl,wl,Nat.reduceAdd,Nat.reduceMul,Int.reduceToNat])
  (refine Jd ?_;unhygienic intros)
  refine Tr.jmp H9 (Tr.eq (Y3 ..) ?_);(try simp only[Nr,Nl,wl,Nat.reduceAdd,Nat.reduceMul,Int.reduceToNat])
  (refine Jd ?_;unhygienic intros)
  refine Tr.jmp H9 (Tr.eq (Y3 ..) ?_);(try simp only[Nr,Nl,wl,Nat.reduceAdd,Nat.reduceMul,Int.reduceToNat])
  (refine Jd ?_;unhygienic intros)
  simp only [Bj7,D43,List.set_cons_zero,List.set_cons_succ,Nat.mul_one]
  rw [show (.int .u8 167:Value)=.int .u8 ((167:UInt8).toNat:Int) from rfl,D43]
  simp only [List.set_cons_zero,List.set_cons_succ]
  refine Tr.pcall (Gi1 (slC false B1 1 (some px) 24 c (A0 [b8 st,b8 pa,b8 gr,b8 co,hi2 pe,lo2 pe,hi2 ma,lo2 ma,hi2 ig,lo2 ig,hi2 ca,lo2 ca,b8 f0,b8 f1,b8 f2,b8 f3,b8 f4,b8 f5,b8 f6,b8 f7,167,0,0,0])) (some px) false 24 c c [b8 st,b8 pa,b8 gr,b8 co,hi2 pe,lo2 pe,hi2 ma,lo2 ma,hi2 ig,lo2 ig,hi2 ca,lo2 ca,b8 f0,b8 f1,b8 f2,b8 f3,b8 f4,b8 f5,b8 f6,b8 f7,167,0,0,0] 21 (by simp) (by simp [B7])) ?_
  refine Je ?_
  (refine Ja ?_;unhygienic intros)
  rw [Do5]
  (refine Jd ?_;unhygienic intros)
  refine Ys fun o=>?_
  rw [D43] at o
  simp only [List.set_cons_zero,List.set_cons_succ] at o
  simp only [Av4,Ea0,put2,List.map,List.cons_append,List.nil_append]
  exact ⟨trivial,o.sub⟩
abbrev E77 (k:Nat):HP:=pt k (.cells Bp5 false [int 24,.func (.func O4) ⟨[]⟩ ⟨[]⟩,.func (.func Y2) ⟨[]⟩ ⟨[]⟩])
theorem Hk9 (k:Nat) (f:ProcS):Ct B6 W2 [P0 k,.agg ⟨E0 f⟩] [E77 k] fun v own=>(okS f=true∧∃ a,v=.tuple ⟨[.slice a 24 24,.bool true]⟩∧own [E77 k,slC false B1 1 a 24 24 (A0 (Av4 f))])∨(okS f=false∧v=.tuple ⟨[.slice none 0 0,.bool false]⟩∧own [E77 k]):=by
 refine Ct.of B49 rfl fun h r=>Tr.eq (B52 ..) ?_;refine Je ?_
 (refine Ja ?_;unhygienic intros)
 refine Tr.ck ⟨by omega,by omega,by simp [B7]⟩ ?_
 refine Yn fun b1 h=>?_
 rw [show H6 (Int.toNat 24) [.int .u8 0]=A0 (List.replicate 24 0) from rfl]
 refine Aa1 0 rfl 1 24 rfl (by omega) ?_
 simp only [List.set_cons_zero]
 refine Je ?_
 (refine Jb ?_;unhygienic intros)
 refine Yb (Yf rfl ?_)
 (refine Jb ?_;unhygienic intros)
 refine Yc (Ij3 (some ⟨b1,0,none⟩) 24 f) ?_;rintro _ h ⟨rfl,o⟩<;>(refine Jg o ?_;unhygienic intros)
 refine Ys fun o=>(?_:Tr _ _ _ _) o;refine Je ?_
 cases hk:okS f with
 | false =>
  (refine Ja ?_;unhygienic intros)
  refine Ys fun o=>?_
  exact .inr ⟨rfl,rfl,o.sub⟩
 | true =>
  (refine Ja ?_;unhygienic intros)
  refine Ys fun o=>?_
  simp only [if_true] at o
  exact .inl ⟨rfl,_,rfl,o.sub⟩
theorem Ij9:Ct B6 Ap0 [int 24,.func (.func O4) ⟨[]⟩ ⟨[]⟩,.func (.func Y2) ⟨[]⟩ ⟨[]⟩] [] fun v own=>∃ k,v=P0 k∧own [E77 k]:=by
 refine Ct.of D91 rfl fun h r=>Tr.eq (Ec0 ..) ?_;refine Je ?_
 rw [show mm2 false (mm2 true 24 0) 64=24 from rfl]
 (refine Ja ?_;unhygienic intros)
 refine Ys fun o=>?_
 exact ⟨_,rfl,o.sub⟩
theorem Gr8:Ct B6 Bb7 [] [] fun v own=>∃ k,v=P0 k∧own [E77 k]:=by
 refine Ct.of Gw3 rfl fun h r=>Tr.eq (Gv9 ..) ?_;refine Je ?_
 refine Yc (Ij9) ?_;rintro _ h ⟨k,rfl,o⟩<;>(refine Jf o ?_;unhygienic intros)
 refine Ys fun o=>?_
 exact ⟨_,rfl,o.sub⟩
theorem Gf2 (f:ProcS):Ct B6 A56 [.agg ⟨E0 f⟩] [] fun v own=>(okS f=true∧∃ a,v=.tuple ⟨[.slice a 24 24,.bool true]⟩∧own [slC false B1 1 a 24 24 (A0 (Av4 f))])∨(okS f=false∧v=.tuple ⟨[.slice none 0 0,.bool false]⟩∧own []):=by
 refine Ct.of Gk6 rfl fun h r=>Tr.eq (Go6 ..) ?_;refine Je ?_
 (refine Ja ?_;unhygienic intros)
 refine Yc (Gr8) ?_;rintro _ h ⟨k,rfl,o⟩<;>(refine Jg o ?_;unhygienic intros)
 refine Yc (Hk9 k f) ?_
 rintro v h (⟨hk,a,rfl,o⟩|⟨hk,rfl,o⟩)
 ·refine (?_:Tr _ _ _ _) o
  refine Je ?_
  (refine Ja ?_;unhygienic intros)
  refine Ys fun o=>?_
  exact .inl ⟨hk,a,rfl,o.sub⟩
 ·refine (?_:Tr _ _ _ _) o
  refine Je ?_
  (refine Ja ?_;unhygienic intros)
  refine Ys fun o=>?_
  exact .inr ⟨hk,rfl,o.sub⟩
def Be3 (l:List UInt8):ProcS:=⟨byI l 0,byI l 1,byI l 2,byI l 3,two l 4,two l 6,two l 8,two l 10,[byI l 12,byI l 13,byI l 14,byI l 15,byI l 16,byI l 17,byI l 18,byI l 19],rfl⟩
def isS (l:List UInt8):Bool:=okS (Be3 l) && decide (Av4 (Be3 l)=l)
theorem Ih5 (a:Option Addr) (c:Nat) (l:List UInt8) (hl:l.length=24):Ct B6 Y2 [.slice a 24 c] [slC false B1 1 a 24 c (A0 l)] fun v own=>v=.tuple ⟨[.agg ⟨E0 (Be3 l)⟩,.bool (isS l)]⟩∧own [slC false B1 1 a 24 c (A0 l)]:=by
 have key:∀ a1:Option Addr,CtP B6 D6 [.slice a1 24 24,.slice a 24 c] [slC false B1 1 a1 24 24 (A0 (Av4 (Be3 l))),slC false B1 1 a 24 c (A0 l)] (.bool (decide (Av4 (Be3 l)=l))):=fun a1=>by
  have e:=Eg5 (Be3 l)
  have J:=En0 (slC false B1 1 a1 (Av4 (Be3 l)).length 24 (A0 (Av4 (Be3 l)))) (slC false B1 1 a l.length c (A0 l)) a1 false 24 a false c (Av4 (Be3 l)) l (by rw [e];simp [B7])
  rwa [hl,e] at J
 refine Ct.of O1 rfl fun h r=>Tr.eq (Hf9 ..) ?_;refine Je ?_
 refine Yn fun b1 h=>?_
 refine U4 1 rfl fun hl2 hc2 _=>?_
 (refine Ja ?_;unhygienic intros;repeat(refine Gw ?_;rintro px rfl;refine Ja ?_;unhygienic intros))
 refine Tr.xIntS (v:=byI l 0) (Ad6 (by omega)) ?_
 (refine Ja ?_;unhygienic intros)
 refine Tr.xIntS (v:=byI l 1) (Ad6 (by omega)) ?_
 (refine Ja ?_;unhygienic intros)
 refine Tr.xIntS (v:=byI l 2) (Ad6 (by omega)) ?_
 (refine Ja ?_;unhygienic intros)
 refine Tr.xIntS (v:=byI l 3) (Ad6 (by omega)) ?_
 (refine Ja ?_;unhygienic intros)
 simp only [byI,Am9]
 refine Tr.jmp O1 (Tr.eq (A72 ..) ?_);(try simp only[Nr,Nl,wl,Nat.reduceAdd,Nat.reduceMul,Int.reduceToNat])
 (refine Jd ?_;unhygienic intros)
 refine Tr.pcall (Ex1 (some px) c 24 l 4 hl (by omega) (by simp [B7])) ?_;refine Je ?_;(refine Ja ?_;unhygienic intros)
 refine Tr.jmp O1 (Tr.eq (A72 ..) ?_);(try simp only[Nr,Nl,wl,Nat.reduceAdd,Nat.reduceMul,Int.reduceToNat])
 (refine Jd ?_;unhygienic intros)
 refine Tr.pcall (Ex1 (some px) c 24 l 6 hl (by omega) (by simp [B7])) ?_;refine Je ?_;(refine Ja ?_;unhygienic intros)
 refine Tr.jmp O1 (Tr.eq (A72 ..) ?_);(try simp only[Nr,Nl,wl,Nat.reduceAdd,Nat.reduceMul,Int.reduceToNat])
 (refine Jd ?_;unhygienic intros)
 refine Tr.pcall (Ex1 (some px) c 24 l 8 hl (by omega) (by simp [B7])) ?_;refine Je ?_;(refine Ja ?_;unhygienic intros)
 refine Tr.jmp O1 (Tr.eq (A72 ..) ?_);(try simp only[Nr,Nl,wl,Nat.reduceAdd,Nat.reduceMul,Int.reduceToNat])
 (refine Jd ?_;unhygienic intros)
 refine Tr.pcall (Ex1 (some px) c 24 l 10 hl (by omega) (by simp [B7])) ?_;refine Je ?_;(refine Ja ?_;unhygienic intros)
 refine Tr.jmp O1 (Tr.eq (A72 ..) ?_);(try simp only[Nr,Nl,wl,Nat.reduceAdd,Nat.reduceMul,Int.reduceToNat])
 (refine Jd ?_;unhygienic intros)
 refine Tr.jmp O1 (Tr.eq (Y5 ..) ?_);(try simp only[Nr,Nl,wl,Nat.reduceAdd,Nat.reduceMul,Int.reduceToNat])
 (refine Jd ?_;unhygienic intros)
 refine Tr.xIntS (v:=byI l 12) (Ad6 (by omega)) ?_
 (refine Jd ?_;unhygienic intros)
 simp only [byI,Am9]
 refine Tr.jmp O1 (Tr.eq (Y5 ..) ?_);(try simp only[Nr,Nl,wl,Nat.reduceAdd,Nat.reduceMul,Int.reduceToNat])
 (refine Jd ?_;unhygienic intros)
 refine Tr.xIntS (v:=byI l 13) (Ad6 (by omega)) ?_
 (refine Jd ?_;unhygienic intros)
 simp only [byI,Am9]
 refine Tr.jmp O1 (Tr.eq (Y5 ..) ?_);(try simp only[Nr,Nl,wl,Nat.reduceAdd,Nat.reduceMul,Int.reduceToNat])
 (refine Jd ?_;unhygienic intros)
 refine Tr.xIntS (v:=byI l 14) (Ad6 (by omega)) ?_
 (refine Jd ?_;unhygienic intros)
 simp only [byI,Am9]
 refine Tr.jmp O1 (Tr.eq (Y5 ..) ?_);(try simp only[Nr,Nl,wl,Nat.reduceAdd,Nat.reduceMul,Int.reduceToNat])
 (refine Jd ?_;unhygienic intros)
 refine Tr.xIntS (v:=byI l 15) (Ad6 (by omega)) ?_
 (refine Jd ?_;unhygienic intros)
 simp only [byI,Am9]
 refine Tr.jmp O1 (Tr.eq (Y5 ..) ?_);(try simp only[Nr,Nl,wl,Nat.reduceAdd,Nat.reduceMul,Int.reduceToNat])
 (refine Jd ?_;unhygienic intros)
 refine Tr.xIntS (v:=byI l 16) (Ad6 (by omega)) ?_
 (refine Jd ?_;unhygienic intros)
 simp only [byI,Am9]
 refine Tr.jmp O1 (Tr.eq (Y5 ..) ?_);(try simp only[Nr,Nl,wl,Nat.reduceAdd,Nat.reduceMul,Int.reduceToNat])
 (refine Jd ?_;unhygienic intros)
 refine Tr.xIntS (v:=byI l 17) (Ad6 (by omega)) ?_
 (refine Jd ?_;unhygienic intros)
 simp only [byI,Am9]
 refine Tr.jmp O1 (Tr.eq (Y5 ..) ?_);(try simp only[Nr,Nl,wl,Nat.reduceAdd,Nat.reduceMul,Int.reduceToNat])
 (refine Jd ?_;unhygienic intros)
 refine Tr.xIntS (v:=byI l 18) (Ad6 (by omega)) ?_
 (refine Jd ?_;unhygienic intros)
 simp only [byI,Am9]
 refine Tr.jmp O1 (Tr.eq (Y5 ..) ?_);(try simp only[Nr,Nl,wl,Nat.reduceAdd,Nat.reduceMul,Int.reduceToNat])
 (refine Jd ?_;unhygienic intros)
 refine Tr.xIntS (v:=byI l 19) (Ad6 (by omega)) ?_
 (refine Jd ?_;unhygienic intros)
 simp only [byI,Am9]
 refine Tr.jmp O1 (Tr.eq (Y5 ..) ?_);(try simp only[Nr,Nl,wl,Nat.reduceAdd,Nat.reduceMul,Int.reduceToNat])
 refine Yf rfl ?_
 refine Tr.xAgg (xs:=E0 (Be3 l)) ⟨Nat.le_of_ble_eq_true rfl,rfl⟩ ?_
 refine Yc (Gf2 (Be3 l)) ?_
 rintro v h (⟨hk,a1,rfl,o⟩|⟨hk,rfl,o⟩)
 ·refine (?_:Tr _ _ _ _) o
  refine Je ?_
  refine Tr.dx ?_
  refine Tr.dx ?_
  refine Tr.dx ?_
  refine Tr.xAgg (xs:=E0 (Be3 l)) ⟨Nat.le_of_ble_eq_true rfl,rfl⟩ ?_
  refine Yb (Yt rfl ?_)
  refine Tr.pcall (key a1) ?_
  refine Tr.dx ?_
  refine Tr.xAgg (xs:=E0 (Be3 l)) ⟨Nat.le_of_ble_eq_true rfl,rfl⟩ ?_
  (refine Ja ?_;unhygienic intros)
  refine Ys fun o=>(?_:Tr _ _ _ _) o;refine Je ?_
  (refine Ja ?_;unhygienic intros)
  refine Ys fun o=>?_
  exact ⟨by unfold isS;rw [hk,Bool.true_and],o.sub⟩
 ·refine (?_:Tr _ _ _ _) o
  refine Je ?_
  refine Tr.dx ?_
  refine Tr.dx ?_
  refine Tr.dx ?_
  refine Tr.xAgg (xs:=E0 (Be3 l)) ⟨Nat.le_of_ble_eq_true rfl,rfl⟩ ?_
  (refine Ja ?_;unhygienic intros)
  refine Ys fun o=>?_
  exact ⟨by unfold isS;rw [hk];rfl,o.sub⟩
theorem Hh2 (k:Nat) (a:Option Addr) (c:Nat) (l:List UInt8) (hl:l.length=24):Ct B6 W1 [P0 k,.slice a 24 c] [E77 k,slC false B1 1 a 24 c (A0 l)] fun v own=>v=.tuple ⟨[.agg ⟨E0 (if isS l then Be3 l else .zero)⟩,.bool (isS l)]⟩∧own [E77 k,slC false B1 1 a 24 c (A0 l)]:=by
 refine Ct.of B44 rfl fun h r=>Tr.eq (B50 ..) ?_;refine Je ?_
 (refine Ja ?_;unhygienic intros)
 refine Yf rfl ?_
 (refine Jb ?_;unhygienic intros)
 refine Yc (Eq7 24 a c l hl (by simp [B7])) ?_;rintro _ h ⟨a1,c1,rfl,o⟩<;>(refine Jg o ?_;unhygienic intros)
 refine Yc (Ih5 a1 c1 l hl) ?_;rintro _ h ⟨rfl,o⟩<;>(refine Jg o ?_;unhygienic intros)
 cases hk:isS l with
 | false =>
  (refine Ja ?_;unhygienic intros)
  refine Ys fun o=>?_
  exact ⟨rfl,o.sub⟩
 | true =>
  (refine Ja ?_;unhygienic intros)
  refine Ys fun o=>?_
  exact ⟨rfl,o.sub⟩
def Aa6 (l:List UInt8):ProcS × Int:=if l.all (·==0) then (.zero,0) else if isS l then (Be3 l,1) else (.zero,2)
theorem Hx3 (a:Option Addr) (c:Nat) (l:List UInt8) (hl:l.length=24):Ct B6 A55 [.slice a 24 c] [slC false B1 1 a 24 c (A0 l)] fun v own=>v=.tuple ⟨[.agg ⟨E0 (Aa6 l).1⟩,int (Aa6 l).2]⟩∧own [slC false B1 1 a 24 c (A0 l)]:=by
 refine Ct.of Gm5 rfl fun h r=>Tr.eq (Gj3 ..) ?_;refine Je ?_
 refine Yn fun b1 h=>?_
 refine Yb (Yt rfl ?_)
 refine Tr.pcall (Em1 24 a c l hl (by simp [B7])) ?_;refine Je ?_;(refine Jb ?_;unhygienic intros)
 refine Ys fun o=>(?_:Tr _ _ _ _) o;refine Je ?_
 cases hb:l.all (·==0) with
 | true =>
  (refine Ja ?_;unhygienic intros)
  refine Ys fun o=>?_
  exact ⟨by unfold Aa6;rw [hb];rfl,o.sub⟩
 | false =>
  (refine Jb ?_;unhygienic intros)
  refine Yc (Gr8) ?_;rintro _ h ⟨k,rfl,o⟩<;>(refine Jg o ?_;unhygienic intros)
  refine Yc (Hh2 k a c l hl) ?_;rintro _ h ⟨rfl,o⟩<;>(refine Jg o ?_;unhygienic intros)
  cases hk:isS l with
  | false =>
   (refine Ja ?_;unhygienic intros)
   refine Ys fun o=>?_
   exact ⟨by unfold Aa6;rw [hb,hk];rfl,o.sub⟩
  | true =>
   (refine Ja ?_;unhygienic intros)
   refine Ys fun o=>?_
   exact ⟨by unfold Aa6;rw [hb,hk];rfl,o.sub⟩
def L7 (l:List UInt8) (a:Nat) (b:List UInt8):List UInt8:=l.take a++b++l.drop (a+b.length)
theorem Ae9 {l b:List UInt8} {a:Nat} (h:a+b.length≤l.length):(L7 l a b).length=l.length:=by simp [L7];omega
theorem Bk8 {l b:List UInt8} {a:Nat} (h:a+b.length≤l.length) (i:Nat):(L7 l a b)[i]?=if a≤i∧i<a+b.length then b[i-a]? else l[i]?:=by
 unfold L7
 by_cases h1:i<a
 ·rw [if_neg (by omega),List.append_assoc,List.getElem?_append_left (by simp;omega),List.getElem?_take,if_pos h1]
 ·rw [List.append_assoc,List.getElem?_append_right (by simp;omega),List.length_take,Nat.min_eq_left (by omega)]
  by_cases h2:i<a+b.length
  ·rw [if_pos ⟨by omega,h2⟩,List.getElem?_append_left (by omega)]
  ·rw [if_neg (by omega),List.getElem?_append_right (by omega),List.getElem?_drop];congr 1;omega
def slice (l:List UInt8) (a n:Nat):List UInt8:=(l.drop a).take n
theorem Bx5 (l:List UInt8) (a n i:Nat):(slice l a n)[i]?=if i<n then l[a+i]? else none:=by
 unfold slice;rw [List.getElem?_take];split
 ·rw [List.getElem?_drop]
 ·rfl
theorem Gt8 {l:List UInt8} {a n:Nat} (h:a+n≤l.length):(slice l a n).length=n:=by simp [slice];omega
abbrev Rg:=List (Nat × Nat)
def A19:List UInt8→Rg→List (List UInt8)→List UInt8
 | l,(lo,_)::rg,x::m=>A19 (L7 l lo x) rg m
 | l,_,_=>l
structure Fit (size:Nat) (rg:Rg) (m:List (List UInt8)):Prop where
 len:m.length=rg.length
 each:∀ (j lo n:Nat),rg[j]?=some (lo,n)→lo+n≤size∧∃ x,m[j]?=some x∧x.length=n
def RgOk (rg:Rg):Prop:=∀ (i j lo n lo' n':Nat),i≠j→rg[i]?=some (lo,n)→rg[j]?=some (lo',n')→lo+n≤lo'∨lo'+n'≤lo
theorem Fit.tail {size:Nat} {p:Nat × Nat} {rg:Rg} {x:List UInt8} {m:List (List UInt8)} (f:Fit size (p::rg) (x::m)):Fit size rg m:=⟨by simpa using f.len,fun j lo n h=>by simpa using f.each (j+1) lo n (by simpa using h)⟩
theorem Fit.head {size lo n:Nat} {rg:Rg} {x:List UInt8} {m:List (List UInt8)} (f:Fit size ((lo,n)::rg) (x::m)):lo+n≤size∧x.length=n:=by
 obtain ⟨h,y,hy,hl⟩:=f.each 0 lo n rfl
 simp at hy;subst hy;exact ⟨h,hl⟩
theorem RgOk.tail {p:Nat × Nat} {rg:Rg} (k:RgOk (p::rg)):RgOk rg:=fun i j lo n lo' n' hij hi hj=>k (i+1) (j+1) lo n lo' n' (by omega) (by simpa using hi) (by simpa using hj)
theorem Dn6:∀ {rg:Rg} {m:List (List UInt8)} {l:List UInt8},Fit l.length rg m→(A19 l rg m).length=l.length
 | [],m,l,f=>by simp [A19]
 | (lo,n)::rg,[],l,f=>by simp [A19]
 | (lo,n)::rg,x::m,l,f=>by
  have h:=f.head
  have e:=Ae9 (l:=l) (b:=x) (a:=lo) (by omega)
  unfold A19
  rw [Dn6 (by rw [e];exact f.tail),e]
theorem Dt8:∀ {rg:Rg} {m:List (List UInt8)} {l:List UInt8},Fit l.length rg m→∀ i,(∀ (j lo n:Nat),rg[j]?=some (lo,n)→i<lo∨lo+n≤i)→(A19 l rg m)[i]?=l[i]?
 | [],m,l,f,i,h=>by simp [A19]
 | (lo,n)::rg,[],l,f,i,h=>by simp [A19]
 | (lo,n)::rg,x::m,l,f,i,h=>by
  have h0:=f.head
  have e:=Ae9 (l:=l) (b:=x) (a:=lo) (by omega)
  unfold A19
  rw [Dt8 (by rw [e];exact f.tail) i (fun j lo' n' hj=>h (j+1) lo' n' (by simpa using hj)),Bk8 (by omega),if_neg]
  have:=h 0 lo n rfl;omega
theorem B76:∀ {rg:Rg} {m:List (List UInt8)} {l:List UInt8},Fit l.length rg m→RgOk rg→∀ (j lo n:Nat) (x:List UInt8),rg[j]?=some (lo,n)→m[j]?=some x→∀ i,i<n→(A19 l rg m)[lo+i]?=x[i]?
 | [],m,l,f,k,j,lo,n,x,h,hx,i,hi=>by simp at h
 | (lo0,n0)::rg,[],l,f,k,j,lo,n,x,h,hx,i,hi=>by simp at hx
 | (lo0,n0)::rg,x0::m,l,f,k,j,lo,n,x,h,hx,i,hi=>by
  have h0:=f.head
  have e:=Ae9 (l:=l) (b:=x0) (a:=lo0) (by omega)
  unfold A19
  cases j with
  | zero =>
   simp at h hx
   obtain ⟨rfl,rfl⟩:=h;subst hx
   rw [Dt8 (by rw [e];exact f.tail) (lo0+i) (fun j lo' n' hj=>by
    have:=k 0 (j+1) lo0 n0 lo' n' (by omega) rfl (by simpa using hj)
    omega),Bk8 (by omega),if_pos (by omega)]
   congr 1;omega
  | succ j=>exact B76 (by rw [e];exact f.tail) k.tail j lo n x (by simpa using h) (by simpa using hx) i hi
theorem Hw4 {rg:Rg} {m:List (List UInt8)} {l:List UInt8} (f:Fit l.length rg m) (k:RgOk rg) {j lo n:Nat} {x:List UInt8} (h:rg[j]?=some (lo,n)) (hx:m[j]?=some x) {a c:Nat} (hc:a+c≤n):slice (A19 l rg m) (lo+a) c=slice x a c:=by
 refine List.ext_getElem? fun i=>?_
 rw [Bx5,Bx5]
 split
 ·rw [Nat.add_assoc,B76 f k j lo n x h hx (a+i) (by omega)]
 ·rfl
theorem Fit.set {size:Nat} {rg:Rg} {m:List (List UInt8)} (f:Fit size rg m) {j lo n:Nat} (h:rg[j]?=some (lo,n)) {y:List UInt8} (hy:y.length=n):Fit size rg (m.set j y):=⟨by simpa using f.len,fun i lo' n' hi=>by
 obtain ⟨h1,z,hz,hl⟩:=f.each i lo' n' hi
 refine ⟨h1,?_⟩
 by_cases hij:j=i
 ·subst hij
  rw [h] at hi;cases hi
  exact ⟨y,by simp [(List.getElem?_eq_some_iff.1 hz).1],hy⟩
 ·exact ⟨z,by rw [List.getElem?_set_ne hij];exact hz,hl⟩⟩
theorem Hk3 {rg:Rg} {m:List (List UInt8)} {l:List UInt8} (f:Fit l.length rg m) (k:RgOk rg) {j lo n:Nat} {x:List UInt8} (h:rg[j]?=some (lo,n)) (hx:m[j]?=some x) {a:Nat} {b:List UInt8} (hc:a+b.length≤n):L7 (A19 l rg m) (lo+a) b=A19 l rg (m.set j (L7 x a b)):=by
 obtain ⟨h1,y,hy,hl⟩:=f.each j lo n h
 rw [hx] at hy;cases hy
 have e:=Ae9 (l:=x) (b:=b) (a:=a) (by omega)
 have f2:=f.set h (y:=L7 x a b) (by omega)
 have lp:=Dn6 f
 refine List.ext_getElem? fun i=>?_
 rw [Bk8 (by omega)]
 by_cases hi:lo≤i∧i<lo+n
 ·obtain ⟨i',rfl⟩:∃ i',i=lo+i':=⟨i-lo,by omega⟩
  rw [B76 f2 k j lo n (L7 x a b) h (by simp [(List.getElem?_eq_some_iff.1 hx).1]) i' (by omega),Bk8 (by omega),B76 f k j lo n x h hx i' (by omega)]
  by_cases h2:a≤i'∧i'<a+b.length
  ·rw [if_pos (by omega),if_pos h2];congr 1;omega
  ·rw [if_neg (by omega),if_neg h2]
 ·rw [if_neg (by omega)]
  by_cases ho:∃ (j' lo' n':Nat),rg[j']?=some (lo',n')∧lo'≤i∧i<lo'+n'
  ·obtain ⟨j',lo',n',hj',h3,h4⟩:=ho
   have hne:j≠j':=fun e=>by subst e;rw [h] at hj';cases hj';omega
   obtain ⟨_,z,hz,_⟩:=f.each j' lo' n' hj'
   obtain ⟨i',rfl⟩:∃ i',i=lo'+i':=⟨i-lo',by omega⟩
   rw [B76 f k j' lo' n' z hj' hz i' (by omega),B76 f2 k j' lo' n' z hj' (by rw [List.getElem?_set_ne hne];exact hz) i' (by omega)]
  ·have hall:∀ (j' lo' n':Nat),rg[j']?=some (lo',n')→i<lo'∨lo'+n'≤i:=fun j' lo' n' hj'=>by
    by_cases hh:lo'≤i∧i<lo'+n'
    ·exact absurd ⟨j',lo',n',hj',hh.1,hh.2⟩ ho
    ·omega
   rw [Dt8 f i hall,Dt8 f2 i hall]
structure RecS where
 kind:Int
 index:Int
deriving DecidableEq
abbrev Z4 (r:RecS):List Value:=[int r.kind,int r.index]
structure Fr where
 S:KS
 N:Nat
 env:Int
 caps:List Int
 rg:Rg
structure FrOk (F:Fr):Prop where
 ok:KOk F.N F.S
 hN:F.N+1<1000000000
 ne:0<F.caps.length
 small:F.caps.length≤40
 len:F.rg.length=F.caps.length
 env:¬ (F.env<0∨F.env≥(F.S.envs.length:Int))
 pl:∀ (j:Nat) (cap:Int) (lo n:Nat),F.caps[j]?=some cap→F.rg[j]?=some (lo,n)→∀ (a m:Nat) (right:Int),right=1∨right=2→a+m≤n→Q0 F.S.tabs F.S.regs F.env cap right a m=(((lo+a:Nat):Int),0)
 dj:RgOk F.rg
 own:∃ lo,F.rg[0]?=some (lo,492)
 brs:∀ (j lo n:Nat),0<j→F.rg[j]?=some (lo,n)→n=40
def Fr.at (F:Fr) (m:List (List UInt8)):KS:=Br1 F.S (A19 F.S.mem F.rg m)
structure CX where
 m:List (List UInt8)
 bad:List RecS
def Ag6:Nat→List RecS→List MapEntry
 | _,[]=>[]
 | i,r::l=>{ key:=.agg ⟨Z4 r⟩,val:=int 1,born:=i }::Ag6 (i+1) l
abbrev Im4 (c k:Nat) (env:Int) (caps:List Int) (bad:List RecS) (x:Option Addr × Nat × Nat):List HP :=
 [pt c (.cells Dg9 false [P0 k,int env,.slice x.1 caps.length x.2.1,.map (some x.2.2)]),slC false D0 1 x.1 caps.length x.2.1 (caps.map int),pt x.2.2 (.map (Ag6 0 bad) bad.length)]
def W6 (c k:Nat) (env:Int) (caps:List Int) (bad:List RecS):HP:=hex fun x=>sl (Im4 c k env caps bad x)
instance {c k:Nat} {env:Int} {caps:List Int} {bad:List RecS}:Chk (W6 c k env caps bad) (Im4 c k env caps bad):=⟨rfl⟩
abbrev cmF (c k:Nat) (F:Fr) (x:CX):List HP:=[E6 k (F.at x.m),W6 c k F.env F.caps x.bad,pu (Fit F.S.mem.length F.rg x.m)]
def cmC (c k:Nat) (F:Fr) (x:CX):HP:=hex fun _:Unit=>sl (cmF c k F x)
instance {c k:Nat} {F:Fr} {x:CX}:Chk (cmC c k F x) (fun _:Unit=>cmF c k F x):=⟨rfl⟩
def U6 (nc:Nat) (kind:Int):Int:=if kind=1 then 8 else if kind=2 then 12 else if kind=3 then 3+nc else 1
def H3 (nc:Nat) (r:RecS):Option (Nat × Nat × Nat) :=
 if r.index<0∨r.index≥U6 nc r.kind then none
 else if r.kind=1 then some (0,24*r.index.toNat,24)
 else if r.kind=2 then some (0,192+8*r.index.toNat,8)
 else if r.kind=3 then if r.index<4 then some (0,288+40*r.index.toNat,40) else some (r.index.toNat-3,0,40)
 else if r.kind=4 then some (0,448,40)
 else some (0,488,4)
def G33 (caps:List Int):Option (Nat × Nat × Nat)→List Value
 | some (j,a,n)=>[int (caps.getD j 0),int a,int n]
 | none=>[int 0,int 0,int 0]
theorem Gz4 (c k:Nat) (env:Int) (caps:List Int) (bad:List RecS) (kind:Int) (hs:caps.length≤40):CtP B6 Ab0 [P0 c,int kind] [W6 c k env caps bad] (int (U6 caps.length kind)):=by
 have e:IntKind.wrap .i64 (IntKind.wrap .i64 (4+(caps.length:Int))-1)=3+(caps.length:Int):=by rw [B5,B5];omega
 refine CtP.of D04 rfl fun h r=>Tr.eq (Dz3 ..) ?_;refine Je ?_
 refine D1 (W6 c k env caps bad) fun ⟨a,n,mb⟩=>?_;refine Je ?_
 unfold U6
 by_cases h1:kind=1
 ·refine Yt (by simpa using h1) ?_
  rw [if_pos h1];exact Jz
 refine Yf (by simpa using h1) ?_
 rw [if_neg h1]
 by_cases h2:kind=2
 ·refine Yt (by simpa using h2) ?_
  rw [if_pos h2];exact Jz
 refine Yf (by simpa using h2) ?_
 rw [if_neg h2]
 by_cases h3:kind=3
 ·refine Yt (by simpa using h3) ?_
  rw [if_pos h3];(refine Ja ?_;unhygienic intros)
  refine Ys fun o=>?_
  rw [e];exact ⟨by first|rfl|trivial,by first|rfl|trivial⟩
 refine Yf (by simpa using h3) ?_
 rw [if_neg h3];exact Jz
theorem Em4 (c k:Nat) (env:Int) (caps:List Int) (bad:List RecS) (rc:RecS) (hs:caps.length≤40) (hn:0<caps.length):Ct B6 Q7 [P0 c,.agg ⟨Z4 rc⟩] [W6 c k env caps bad] fun v own =>
  v=.tuple ⟨[.agg ⟨G33 caps (H3 caps.length rc)⟩,.bool (H3 caps.length rc).isSome]⟩∧own [W6 c k env caps bad]:=by
 have hg:∀ j,j<caps.length→(caps.map int)[j]?=some (int (caps.getD j 0)):=fun j hj=>by rw [List.getElem?_map,O2 0 hj];rfl
 refine Ct.of Du6 rfl fun h r=>Tr.eq (Du2 ..) ?_;refine Je ?_
 (refine Jb ?_;unhygienic intros)
 refine Tr.orG (c:=decide (rc.index≥U6 caps.length rc.kind)) (fun hb=>?_) ?_
 ·(refine Ja ?_;unhygienic intros)
  refine Tr.pcall (Gz4 c k env caps bad rc.kind hs) ?_;refine Je ?_;exact Jz
 by_cases hi:rc.index<0∨rc.index≥U6 caps.length rc.kind
 ·refine Yt (by simp only [Bool.or_eq_true,decide_eq_true_eq];exact hi) ?_
  have e:H3 caps.length rc=none:=by unfold H3;rw [if_pos hi]
  rw [e]
  (refine Ja ?_;unhygienic intros)
  refine Ys fun o=>?_
  exact ⟨rfl,o.sub⟩
 refine Yf (by simp only [Bool.or_eq_false_iff,decide_eq_false_iff_not];omega) ?_
 refine D1 (W6 c k env caps bad) fun ⟨a,n,mb⟩=>?_;refine Je ?_
 (refine Ja ?_;unhygienic intros;repeat(refine Gw ?_;rintro px rfl;refine Ja ?_;unhygienic intros))
 refine Tr.xIntS (v:=caps.getD 0 0) (hg 0 hn) ?_
 (refine Ja ?_;unhygienic intros)
 by_cases h1:rc.kind=1
 ·refine Yt (by simpa using h1) ?_
  have e:H3 caps.length rc=some (0,24*rc.index.toNat,24):=by unfold H3;rw [if_neg hi,if_pos h1]
  have hm:U6 caps.length rc.kind=8:=by unfold U6;rw [if_pos h1]
  have e1:IntKind.wrap .i64 (24*rc.index)=((24*rc.index.toNat:Nat):Int):=by rw [B5];omega
  rw [e,e1]
  (refine Ja ?_;unhygienic intros)
  refine B9 (W6 c k env caps bad) ⟨some px,n,mb⟩ ?_;refine Je ?_
  refine Ys fun o=>?_
  exact ⟨rfl,o.sub⟩
 refine Yf (by simpa using h1) ?_
 by_cases h2:rc.kind=2
 ·(refine Ja ?_;unhygienic intros)
  refine Yt (by simpa using h2) ?_
  have e:H3 caps.length rc=some (0,192+8*rc.index.toNat,8):=by unfold H3;rw [if_neg hi,if_neg h1,if_pos h2]
  have hm:U6 caps.length rc.kind=12:=by unfold U6;rw [if_neg h1,if_pos h2]
  have e1:IntKind.wrap .i64 (192+IntKind.wrap .i64 (8*rc.index))=((192+8*rc.index.toNat:Nat):Int):=by rw [B5,B5];omega
  rw [e,e1]
  (refine Ja ?_;unhygienic intros)
  refine B9 (W6 c k env caps bad) ⟨some px,n,mb⟩ ?_;refine Je ?_
  refine Ys fun o=>?_
  exact ⟨rfl,o.sub⟩
 (refine Ja ?_;unhygienic intros)
 refine Yf (by simpa using h2) ?_
 (refine Jb ?_;unhygienic intros)
 refine Tr.andG (c:=decide (rc.index<4)) (fun hb=>?_) ?_
 ·exact Jz
 by_cases h3:rc.kind=3
 ·have hm:U6 caps.length rc.kind=3+caps.length:=by unfold U6;rw [if_neg h1,if_neg h2,if_pos h3]
  by_cases h4:rc.index<4
  ·refine Yt (by simp [h3,h4]) ?_
   have e:H3 caps.length rc=some (0,288+40*rc.index.toNat,40):=by unfold H3;rw [if_neg hi,if_neg h1,if_neg h2,if_pos h3,if_pos h4]
   have e1:IntKind.wrap .i64 (288+IntKind.wrap .i64 (40*rc.index))=((288+40*rc.index.toNat:Nat):Int):=by rw [B5,B5];omega
   rw [e,e1]
   (refine Ja ?_;unhygienic intros)
   refine B9 (W6 c k env caps bad) ⟨some px,n,mb⟩ ?_;refine Je ?_
   refine Ys fun o=>?_
   exact ⟨rfl,o.sub⟩
  ·refine Yf (by simp [h4]) ?_
   have e:H3 caps.length rc=some (rc.index.toNat-3,0,40):=by unfold H3;rw [if_neg hi,if_neg h1,if_neg h2,if_pos h3,if_neg h4]
   have e1:IntKind.wrap .i64 (IntKind.wrap .i64 (rc.index-4)+1)=((rc.index.toNat-3:Nat):Int):=by rw [B5,B5];omega
   rw [e,e1]
   (refine Ja ?_;unhygienic intros)
   refine Yt (by simpa using h3) ?_
   (refine Ja ?_;unhygienic intros)
   rw [Int.toNat_natCast]
   refine Je ?_
   refine Tr.xIntS (v:=caps.getD (rc.index.toNat-3) 0) (hg _ (by omega)) ?_
   (refine Ja ?_;unhygienic intros)
   refine B9 (W6 c k env caps bad) ⟨some px,n,mb⟩ ?_;refine Je ?_
   refine Ys fun o=>?_
   exact ⟨rfl,o.sub⟩
 refine Yf (by simp [h3]) ?_
 (refine Ja ?_;unhygienic intros)
 refine Yf (by simpa using h3) ?_
 (refine Ja ?_;unhygienic intros)
 by_cases h4:rc.kind=4
 ·refine Yt (by simpa using h4) ?_
  have e:H3 caps.length rc=some (0,448,40):=by unfold H3;rw [if_neg hi,if_neg h1,if_neg h2,if_neg h3,if_pos h4]
  rw [e]
  (refine Ja ?_;unhygienic intros)
  refine B9 (W6 c k env caps bad) ⟨some px,n,mb⟩ ?_;refine Je ?_
  refine Ys fun o=>?_
  exact ⟨rfl,o.sub⟩
 refine Yf (by simpa using h4) ?_
 have e:H3 caps.length rc=some (0,488,4):=by unfold H3;rw [if_neg hi,if_neg h1,if_neg h2,if_neg h3,if_neg h4]
 rw [e]
 (refine Ja ?_;unhygienic intros)
 refine B9 (W6 c k env caps bad) ⟨some px,n,mb⟩ ?_;refine Je ?_
 refine Ys fun o=>?_
 exact ⟨rfl,o.sub⟩
theorem H28:Aj7 PR 8 E2=some [TypeDesc.int .i64,TypeDesc.int .i64]:=by kernel_rfl
theorem Ih3:Eb4 PR E2=some true:=by kernel_rfl
instance {a b:Int}:KeyC PR E2 (.agg ⟨[.int .i64 a,.int .i64 b]⟩):=⟨fun x=>by
 unfold NN.keyN;rw [H28,Ih3];rfl⟩
theorem Ev5 (r:RecS):∀ (l:List RecS) (i j:Nat),Ah1 (.agg ⟨Z4 r⟩) (Ag6 j l) i=some (if r ∈ l then some (i+l.idxOf r) else none)
 | [],i,j=>by simp [Ag6,Ah1]
 | q::l,i,j=>by
  have ih:=Ev5 r l (i+1) (j+1)
  obtain ⟨qk,qi⟩:=q
  obtain ⟨rk,ri⟩:=r
  simp only [Ag6,Ah1,Bf5,Z4,eqs,eq1,decide_true,List.mem_cons] at ih ⊢
  by_cases h:rk=qk∧ri=qi
  ·obtain ⟨rfl,rfl⟩:=h
   simp
  ·have e:(rk==qk && (ri==qi && true))=false:=by
    rw [Bool.and_eq_false_iff]
    by_cases h1:rk=qk
    ·right;simp;intro h2;exact h ⟨h1,h2⟩
    ·left;simpa using h1
   have hne:¬ (({ kind:=rk,index:=ri }:RecS)={ kind:=qk,index:=qi }):=fun e=>by
    rw [RecS.mk.injEq] at e;exact h e
   rw [e]
   simp only [hne,false_or]
   rw [ih,List.idxOf_cons]
   have:(({ kind:=qk,index:=qi }:RecS)=={ kind:=rk,index:=ri })=false:=by
    rw [beq_eq_false_iff_ne];exact fun e=>hne e.symm
   rw [this,cond_false]
   split<;>simp;omega
theorem Dr0:∀ (l:List RecS) (j:Nat),(Ag6 j l).length=l.length
 | [],_=>rfl
 | _::l,j=>by simp [Ag6,Dr0 l]
theorem Ha8:∀ (l:List RecS) (j i:Nat) (r:RecS),l[i]?=some r→(Ag6 j l)[i]?=some { key:=.agg ⟨Z4 r⟩,val:=int 1,born:=j+i }
 | [],_,i,r,h=>by simp at h
 | q::l,j,0,r,h=>by simp at h;subst h;rfl
 | q::l,j,i+1,r,h=>by
  have:=Ha8 l (j+1) i r (by simpa using h)
  rw [Ag6,List.getElem?_cons_succ,this];congr 2;omega
theorem Bx9 (r:RecS) (l:List RecS):Al2 (int 0) (.agg ⟨Z4 r⟩) (Ag6 0 l)=some (if r ∈ l then (int 1,true) else (int 0,false)):=by
 unfold Al2
 rw [Ev5]
 by_cases h:r ∈ l
 ·rw [if_pos h,if_pos h]
  have hi:=List.idxOf_lt_length_of_mem h
  have hg:l[l.idxOf r]?=some r:=by rw [List.getElem?_eq_getElem hi,List.getElem_idxOf]
  simp only [Nat.zero_add]
  rw [Ha8 l 0 _ r hg]
 ·rw [if_neg h,if_neg h]
theorem G21:∀ (l m:List RecS) (j:Nat),Ag6 j (l++m)=Ag6 j l++Ag6 (j+l.length) m
 | [],m,j=>by simp [Ag6]
 | q::l,m,j=>by simp only [List.cons_append,Ag6,G21 l m (j+1),List.length_cons];congr 2;congr 1;omega
theorem Ea2 {r:RecS} {l:List RecS} (h:¬ r ∈ l):D34 (int 0) (.agg ⟨Z4 r⟩) (Ag6 0 l) l.length=some (int 0,l.length,.map (Ag6 0 l++[{ key:=.agg ⟨Z4 r⟩,val:=int 0,born:=l.length }]) (l.length+1)):=by
 unfold D34;rw [Ev5,if_neg h]
theorem Gs6 (r:RecS) (e:MapEntry):∀ (l:List RecS) (i j:Nat),¬ r ∈ l→Ah1 (.agg ⟨Z4 r⟩) (Ag6 j l++[e]) i=Ah1 (.agg ⟨Z4 r⟩) [e] (i+l.length)
 | [],i,j,h=>by simp [Ag6]
 | q::l,i,j,h=>by
  have ih:=Gs6 r e l (i+1) (j+1) (fun hm=>h (List.mem_cons_of_mem _ hm))
  have hq:Bf5 (.agg ⟨Z4 r⟩) (.agg ⟨Z4 q⟩)=some false:=by
   obtain ⟨qk,qi⟩:=q
   obtain ⟨rk,ri⟩:=r
   simp only [Bf5,Z4,eqs,eq1,decide_true]
   congr 1
   rw [Bool.and_eq_false_iff]
   by_cases h1:rk=qk
   ·right;simp;intro h2;exact h (by subst h1 h2;exact List.mem_cons_self ..)
   ·left;simpa using h1
  show (match Bf5 (.agg ⟨Z4 r⟩) (.agg ⟨Z4 q⟩) with
   | some true=>some (some i)
   | some false=>Ah1 (.agg ⟨Z4 r⟩) (Ag6 (j+1) l++[e]) (i+1)
   | none=>none)=_
  rw [hq]
  simp only
  rw [ih];congr 1;simp;omega
theorem Dw4 {r:RecS} {l:List RecS} (h:¬ r ∈ l):Al2 (int 0) (.agg ⟨Z4 r⟩) (Ag6 0 l++[{ key:=.agg ⟨Z4 r⟩,val:=int 0,born:=l.length }])=some (int 0,true):=by
 unfold Al2
 rw [Gs6 r _ l 0 0 h]
 obtain ⟨rk,ri⟩:=r
 simp only [Ah1,Bf5,Z4,eqs,eq1,decide_true,BEq.rfl,Bool.and_self,Nat.zero_add]
 rw [List.getElem?_append_right (by rw [Dr0];exact Nat.le_refl _),Dr0];simp
theorem Dd4:∀ (l:List RecS) (j:Nat) (n:Nat) (e:MapEntry) (i:Nat),e.born=n→j+l.length≤n→Bm8 (n:Int) (Ag6 j l++[e]) i=some (i+l.length)
 | [],j,n,e,i,h,hl=>by simp [Ag6,Bm8,h]
 | q::l,j,n,e,i,h,hl=>by
  have ih:=Dd4 l (j+1) n e (i+1) h (by simp at hl;omega)
  simp only [Ag6,List.cons_append,Bm8]
  have:(((j:Nat):Int)==(n:Int))=false:=by simp at hl ⊢;omega
  rw [this,cond_false,ih];congr 1;simp;omega
theorem Gs7 (f:MapEntry→MapEntry) (e:MapEntry):∀ (l:List MapEntry),modN f l.length (l++[e])=l++[f e]
 | []=>rfl
 | q::l=>by simp [modN,Gs7 f e l]
theorem Eb7 (r:RecS) (l:List RecS):modN (fun e=>{ e with val:=int (IntKind.wrap .i64 (0+1)) }) l.length (Ag6 0 l++[{ key:=.agg ⟨Z4 r⟩,val:=int 0,born:=l.length }])=Ag6 0 (l++[r]):=by
 rw [show l.length=(Ag6 0 l).length from (Dr0 l 0).symm,Gs7,G21]
 simp [Ag6,Dr0];decide
theorem Fr.mem_at (F:Fr) (m:List (List UInt8)):(F.at m).mem=A19 F.S.mem F.rg m:=rfl
theorem Fr.at_ok {F:Fr} (k:FrOk F) {m:List (List UInt8)} (f:Fit F.S.mem.length F.rg m):KOk F.N (F.at m):=by
 have:=k.ok
 exact ⟨this.envs,this.tabs,this.space,this.quota,by rw [Fr.mem_at,Dn6 f];exact this.mem,this.regs,this.may,this.mayl,this.nsect,this.sects,this.now⟩
theorem H97 {F:Fr} (k:FrOk F) {r:RecS} {j a n:Nat} (h:H3 F.caps.length r=some (j,a,n)):∃ lo z,F.rg[j]?=some (lo,z)∧a+n≤z∧j<F.caps.length:=by
 obtain ⟨lo0,h0⟩:=k.own
 have hl:=k.len;have hn:=k.ne
 unfold H3 at h
 split at h;· cases h
 rename_i hi
 split at h
 ·rename_i h1
  have hm:U6 F.caps.length r.kind=8:=by unfold U6;rw [if_pos h1]
  cases h;exact ⟨lo0,492,h0,by omega,hn⟩
 rename_i h1
 split at h
 ·rename_i h2
  have hm:U6 F.caps.length r.kind=12:=by unfold U6;rw [if_neg h1,if_pos h2]
  cases h;exact ⟨lo0,492,h0,by omega,hn⟩
 rename_i h2
 split at h
 ·rename_i h3
  have hm:U6 F.caps.length r.kind=3+F.caps.length:=by unfold U6;rw [if_neg h1,if_neg h2,if_pos h3]
  split at h
  ·cases h;exact ⟨lo0,492,h0,by omega,hn⟩
  ·cases h
   have hlt:r.index.toNat-3<F.rg.length:=by omega
   have hg:=List.getElem?_eq_getElem hlt
   generalize hx:F.rg[r.index.toNat-3]=x at hg
   obtain ⟨lo,z⟩:=x
   have:=k.brs _ lo z (by omega) hg
   exact ⟨lo,z,hg,by omega,by omega⟩
 split at h<;>(cases h;exact ⟨lo0,492,h0,by omega,hn⟩)
def S5 (kind:Int):Nat:=if kind=1 then 24 else if kind=2 then 8 else if kind=3 then 40 else if kind=4 then 40 else 4
theorem Dl6 {nc:Nat} {r:RecS} {j a n:Nat} (h:H3 nc r=some (j,a,n)):n=S5 r.kind:=by
 unfold H3 at h;unfold S5
 split at h;· cases h
 split at h
 ·rename_i h1;cases h;rw [if_pos h1]
 rename_i h1
 rw [if_neg h1]
 split at h
 ·rename_i h2;cases h;rw [if_pos h2]
 rename_i h2
 rw [if_neg h2]
 split at h
 ·rename_i h3;rw [if_pos h3];split at h<;>(cases h;rfl)
 rename_i h3
 rw [if_neg h3]
 split at h
 ·rename_i h4;cases h;rw [if_pos h4]
 ·rename_i h4;cases h;rw [if_neg h4]
def rdX (X:CX) (r:RecS):Option (List UInt8) :=
 match H3 X.m.length r with
 | some (j,a,n)=>if r ∈ X.bad then none else some (slice (X.m.getD j []) a n)
 | none=>none
def wrX (X:CX) (r:RecS) (b:List UInt8) (ok:Bool):Bool × CX :=
 match H3 X.m.length r with
 | some (j,a,n)=>if ok=true∧¬ r ∈ X.bad then (true,{ X with m:=X.m.set j (L7 (X.m.getD j []) a b) }) else (false,X)
 | none=>(false,X)
theorem Fit.mlen {F:Fr} (k:FrOk F) {m:List (List UInt8)} (f:Fit F.S.mem.length F.rg m):m.length=F.caps.length:=by rw [f.len,k.len]
theorem Ef8 {F:Fr} (k:FrOk F) {m:List (List UInt8)} (f:Fit F.S.mem.length F.rg m) {r:RecS} {j a n:Nat} (h:H3 F.caps.length r=some (j,a,n)) :
  ∃ lo z cap,F.caps[j]?=some cap∧F.rg[j]?=some (lo,z)∧a+n≤z∧m[j]?=some (m.getD j [])∧(m.getD j []).length=z∧lo+z≤F.S.mem.length∧cap=F.caps.getD j 0:=by
 obtain ⟨lo,z,hr,ha,hj⟩:=H97 k h
 obtain ⟨h1,x,hx,hl⟩:=f.each j lo z hr
 have e:m.getD j []=x:=by rw [List.getD_eq_getElem?_getD,hx];rfl
 exact ⟨lo,z,F.caps.getD j 0,O2 0 hj,hr,ha,by rw [e];exact hx,by rw [e];exact hl,h1,rfl⟩
theorem Ih6 {F:Fr} (k:FrOk F) {X:CX} (f:Fit F.S.mem.length F.rg X.m) {r:RecS} {l:List UInt8} (h:rdX X r=some l):l.length=S5 r.kind:=by
 unfold rdX at h
 rw [f.mlen k] at h
 cases hp:H3 F.caps.length r with
 | none=>rw [hp] at h;cases h
 | some p =>
  obtain ⟨j,a,n⟩:=p
  rw [hp] at h
  obtain ⟨lo,z,cap,_,_,ha,hx,hl,_⟩:=Ef8 k f hp
  simp only at h
  split at h
  ·cases h
  ·cases h;rw [Gt8 (by omega),Dl6 hp]
theorem Iq8 {F:Fr} (k:FrOk F) {m:List (List UInt8)} (f:Fit F.S.mem.length F.rg m) {r:RecS} {j a n:Nat} (h:H3 F.caps.length r=some (j,a,n)) :
  Z2 (F.at m) F.env ⟨1,F.caps.getD j 0,(a:Int),(n:Int),0,0,[]⟩=((0,0,slice (m.getD j []) a n),F.at m):=by
 obtain ⟨lo,z,cap,hc,hr,ha,hx,hl,hz,rfl⟩:=Ef8 k f h
 have hp:=k.pl j _ lo z hc hr a n 1 (.inl rfl) ha
 have lp:=Dn6 f
 have hb:Dw6 (A19 F.S.mem F.rg m) ((lo+a:Nat):Int) (n:Int)=some (slice (m.getD j []) a n):=by
  unfold Dw6
  rw [if_pos (by rw [lp];omega),Int.toNat_natCast,Int.toNat_natCast]
  rw [← Hw4 f k.dj hr hx ha];rfl
 have e:An5 (F.at m).tabs (F.at m).regs (F.at m).mem F.env (F.caps.getD j 0) (a:Int) (n:Int)=(slice (m.getD j []) a n,0):=by
  unfold An5
  rw [show Q0 (F.at m).tabs (F.at m).regs F.env (F.caps.getD j 0) 1 (a:Int) (n:Int)=(((lo+a:Nat):Int),0) from hp]
  rw [if_neg (by simp),show Dw6 (F.at m).mem _ _=_ from hb]
 unfold Z2
 rw [if_neg (show ¬ (F.env<0∨F.env≥((F.at m).envs.length:Int)) from k.env)]
 unfold kDo
 rw [if_pos rfl,e]
theorem In7 {F:Fr} (k:FrOk F) {m:List (List UInt8)} (f:Fit F.S.mem.length F.rg m) {r:RecS} {j a n:Nat} (h:H3 F.caps.length r=some (j,a,n)) {b:List UInt8} (hb:b.length=n) :
  Z2 (F.at m) F.env ⟨2,F.caps.getD j 0,(a:Int),0,0,0,b⟩=((0,0,[]),F.at (m.set j (L7 (m.getD j []) a b))):=by
 obtain ⟨lo,z,cap,hc,hr,ha,hx,hl,hz,rfl⟩:=Ef8 k f h
 have hp:=k.pl j _ lo z hc hr a n 2 (.inr rfl) ha
 have lp:=Dn6 f
 have hs:Bc6 (A19 F.S.mem F.rg m) ((lo+a:Nat):Int) b=some (A19 F.S.mem F.rg (m.set j (L7 (m.getD j []) a b))):=by
  unfold Bc6
  rw [if_pos (by rw [lp];omega),Int.toNat_natCast]
  rw [← Hk3 f k.dj hr hx (by omega)];rfl
 have e:Ak4 (F.at m).tabs (F.at m).regs (F.at m).mem F.env (F.caps.getD j 0) (a:Int) b=(0,A19 F.S.mem F.rg (m.set j (L7 (m.getD j []) a b))):=by
  unfold Ak4
  rw [hb,show Q0 (F.at m).tabs (F.at m).regs F.env (F.caps.getD j 0) 2 (a:Int) (n:Int)=(((lo+a:Nat):Int),0) from hp]
  rw [if_neg (by simp),show Bc6 (F.at m).mem _ _=_ from hs]
 unfold Z2
 rw [if_neg (show ¬ (F.env<0∨F.env≥((F.at m).envs.length:Int)) from k.env)]
 unfold kDo
 rw [if_neg (show ¬ ((2:Int)=1) by decide),if_pos rfl,e];rfl
theorem Ih4 {F:Fr} (k:FrOk F) {X:CX} (f:Fit F.S.mem.length F.rg X.m) {r:RecS} {b:List UInt8} {ok:Bool} (hb:ok=true→b.length=S5 r.kind):Fit F.S.mem.length F.rg (wrX X r b ok).2.m:=by
 unfold wrX
 rw [f.mlen k]
 cases hp:H3 F.caps.length r with
 | none=>exact f
 | some p =>
  obtain ⟨j,a,n⟩:=p
  obtain ⟨lo,z,cap,hc,hr,ha,hx,hl,hz,_⟩:=Ef8 k f hp
  simp only
  split
  ·rename_i hk
   exact f.set hr (by rw [Ae9 (by rw [hb hk.1,← Dl6 hp];omega)];exact hl)
  ·exact f
instance {caps:List Int} {o:Option (Nat × Nat × Nat)}:LenC (G33 caps o) 3:=⟨by cases o<;>rfl⟩
theorem Ia3 (caps:List Int) (o:Option (Nat × Nat × Nat)):(G33 caps o).all Value.oneCell=true:=by cases o<;>rfl
instance {caps:List Int} {o:Option (Nat × Nat × Nat)} {cs:List Value} [k:LenC cs 3]:SetsC cs 0 (G33 caps o) (G33 caps o):=⟨Bj9 k.ok LenC.ok (Ia3 caps o)⟩
instance {rc:RecS}:PartC (Z4 rc) 0 2 (Z4 rc):=⟨rfl⟩
theorem Hn0 (r:RecS) (l:List RecS):(if r ∈ l then (int 1,true) else (int 0,false))=(int (if r ∈ l then 1 else 0),decide (r ∈ l)):=by split<;>simp [*]
theorem Hn9 (r:RecS) (l:List RecS):decide ((if r ∈ l then (1:Int) else 0)>0)=decide (r ∈ l):=by split<;>simp [*]
theorem D44 (k:Nat) (S:KS) (N:Nat) (ok:KOk N S) (hN:N+1<1000000000) (env:Int) (c:CallS) (ba:Option Addr) (bc:Nat) (ro:Bool) (h5:c.op≠5) :
  Ct B6 U0 [P0 k,int env,.agg ⟨Bk9 c ba bc⟩] [E6 k S,slC ro B1 1 ba c.b.length bc (A0 c.b)] fun v own=>∃ x d,v=.agg ⟨[int (Z2 S env c).1.1,int (Z2 S env c).1.2.1,.slice x (Z2 S env c).1.2.2.length d]⟩ ∧
    own [slC false B1 1 x (Z2 S env c).1.2.2.length d (A0 (Z2 S env c).1.2.2),E6 k (Z2 S env c).2,slC ro B1 1 ba c.b.length bc (A0 c.b)]:=by
 intro h r o
 obtain ⟨pq,o1⟩:=Own.ex (f:=fun pq=>slX ro B1 1 ba c.b.length bc pq (A0 c.b)) (o.perm (.swap _ _ _))
 obtain ⟨v,h',e,x,d,rfl,o2⟩:=Hy5 k S N ok hN env c ba bc ro pq h5 h r (o1.perm (.swap _ _ _))
 refine ⟨_,h',e,x,d,rfl,?_⟩
 have o3:=o2.picks [2] rfl
 exact (Own.inex (f:=fun pq=>slX ro B1 1 ba c.b.length bc pq (A0 c.b)) pq o3).picks [1,1,0] rfl
theorem Eg0 (c k:Nat) (F:Fr) (X:CX) (rc:RecS) (ok:FrOk F):Ct B6 O6 [P0 c,.agg ⟨Z4 rc⟩] [cmC c k F X] fun v own =>
  (∃ l a cp,rdX X rc=some l∧l.length=S5 rc.kind∧v=.tuple ⟨[.slice a l.length cp,.bool true]⟩∧own [slC false B1 1 a l.length cp (A0 l),cmC c k F X]) ∨
  (rdX X rc=none∧v=.tuple ⟨[.slice none 0 0,.bool false]⟩∧own [cmC c k F X]):=by
 refine Ct.of D30 rfl fun h r=>Tr.eq (D39 ..) ?_;refine Je ?_
 refine D1 (cmC c k F X) fun u=>?_;refine Je ?_
 refine P6 2 rfl fun f=>?_
 (refine Ja ?_;unhygienic intros)
 refine Yc (Em4 c k F.env F.caps X.bad rc ok.small ok.ne) ?_;rintro _ h ⟨rfl,o⟩<;>(refine Jg o ?_;unhygienic intros)
 have em:=f.mlen ok
 cases hp:H3 F.caps.length rc with
 | none =>
  (refine Jb ?_;unhygienic intros)
  refine Yb (Yt rfl ?_)
  refine Ys fun o=>(?_:Tr _ _ _ _) o;refine Je ?_
  (refine Ja ?_;unhygienic intros)
  refine B9 (cmC c k F X) () ?_;refine Je ?_
  refine Ys fun o=>?_
  exact .inr ⟨by unfold rdX;rw [em,hp],rfl,o.sub⟩
 | some p =>
  obtain ⟨j,a,n⟩:=p
  refine D1 (W6 c k F.env F.caps X.bad) fun ⟨ca,cn,mb⟩=>?_;refine Je ?_
  (refine Jb ?_;unhygienic intros)
  refine Tr.orG (c:=decide (rc ∈ X.bad)) (fun _=>?_) ?_
  ·(refine Ja ?_;unhygienic intros)
   rw [Bx9,Hn0]
   (refine Ja ?_;unhygienic intros)
   refine Ys fun o=>?_
   rw [Hn9];exact ⟨by first|rfl|trivial,by first|rfl|trivial⟩
  by_cases hb:rc ∈ X.bad
  ·rw [decide_eq_true hb]
   (refine Ja ?_;unhygienic intros)
   refine B9 (W6 c k F.env F.caps X.bad) ⟨ca,cn,mb⟩ ?_;refine Je ?_
   refine B9 (cmC c k F X) () ?_;refine Je ?_
   refine Ys fun o=>?_
   exact .inr ⟨by unfold rdX;rw [em,hp];exact if_pos hb,rfl,o.sub⟩
  ·rw [decide_eq_false hb]
   refine Yf rfl ?_
   (refine Ja ?_;unhygienic intros)
   refine B9 (W6 c k F.env F.caps X.bad) ⟨ca,cn,mb⟩ ?_;refine Je ?_
   have J:=Ih1 k (F.at X.m) F.N (F.at_ok ok f) ok.hN F.env 1 (F.caps.getD j 0) (a:Int) (n:Int) 0 0 (by decide)
   rw [Iq8 ok f hp] at J
   refine Yc (J) ?_;rintro _ h ⟨y,d,rfl,o⟩<;>(refine Jf o ?_;unhygienic intros)
   refine Yf rfl ?_
   (refine Ja ?_;unhygienic intros)
   refine B9 (cmC c k F X) () ?_;refine Je ?_
   refine Ys fun o=>?_
   have e:rdX X rc=some (slice (X.m.getD j []) a n):=by unfold rdX;rw [em,hp];exact if_neg hb
   exact .inl ⟨_,y,d,e,Ih6 ok f e,rfl,o.sub⟩
theorem Bi1 (c k:Nat) (F:Fr) (X:CX) (rc:RecS) (ok:FrOk F) (bs:List UInt8) (g:Bool) (ba:Option Addr) (bc:Nat) (hb:g=true→bs.length=S5 rc.kind) :
  Ct B6 I2 [P0 c,.agg ⟨Z4 rc⟩,.slice ba bs.length bc,.bool g] [cmC c k F X,slC false B1 1 ba bs.length bc (A0 bs)] fun v own =>
   v=.bool (wrX X rc bs g).1∧own [cmC c k F (wrX X rc bs g).2,slC false B1 1 ba bs.length bc (A0 bs)]:=by
 refine Ct.of Du4 rfl fun h r=>Tr.eq (Du7 ..) ?_;refine Je ?_
 refine D1 (cmC c k F X) fun u=>?_;refine Je ?_
 refine P6 2 rfl fun f=>?_
 (refine Ja ?_;unhygienic intros)
 refine Yc (Em4 c k F.env F.caps X.bad rc ok.small ok.ne) ?_;rintro _ h ⟨rfl,o⟩<;>(refine Jg o ?_;unhygienic intros)
 have em:=f.mlen ok
 cases hp:H3 F.caps.length rc with
 | none =>
  (refine Jb ?_;unhygienic intros)
  refine Yb (Yt rfl ?_)
  refine Ys fun o=>(?_:Tr _ _ _ _) o;refine Je ?_
  refine Yb (Yt rfl ?_)
  refine Ys fun o=>(?_:Tr _ _ _ _) o;refine Je ?_
  (refine Ja ?_;unhygienic intros)
  refine B9 (cmC c k F X) () ?_;refine Je ?_
  refine Ys fun o=>?_
  have e:wrX X rc bs g=(false,X):=by unfold wrX;rw [em,hp]
  rw [e]
  exact ⟨by first|rfl|trivial,o.sub⟩
 | some p =>
  obtain ⟨j,a,n⟩:=p
  refine D1 (W6 c k F.env F.caps X.bad) fun ⟨ca,cn,mb⟩=>?_;refine Je ?_
  (refine Jb ?_;unhygienic intros)
  refine Yb (Yf rfl ?_)
  refine Ys fun o=>(?_:Tr _ _ _ _) o;refine Je ?_
  (refine Jb ?_;unhygienic intros)
  refine Tr.orG (c:=decide (rc ∈ X.bad)) (fun _=>?_) ?_
  ·(refine Ja ?_;unhygienic intros)
   rw [Bx9,Hn0]
   (refine Ja ?_;unhygienic intros)
   refine Ys fun o=>?_
   rw [Hn9];exact ⟨by first|rfl|trivial,by first|rfl|trivial⟩
  by_cases hg:g=true∧¬ rc ∈ X.bad
  ·have e:wrX X rc bs g=(true,{ X with m:=X.m.set j (L7 (X.m.getD j []) a bs) }):=by unfold wrX;rw [em,hp];exact if_pos hg
   have f2:=Ih4 (r:=rc) (b:=bs) (ok:=g) ok f hb
   rw [e] at f2
   obtain ⟨rfl,hg2⟩:=hg
   rw [e,decide_eq_false hg2]
   refine Yf rfl ?_
   (refine Ja ?_;unhygienic intros)
   refine B9 (W6 c k F.env F.caps X.bad) ⟨ca,cn,mb⟩ ?_;refine Je ?_
   have hl:bs.length=n:=by rw [hb rfl,Dl6 hp]
   have J:=D44 k (F.at X.m) F.N (F.at_ok ok f) ok.hN F.env ⟨2,F.caps.getD j 0,(a:Int),0,0,0,bs⟩ ba bc false (show ((2:Int)≠5) by decide)
   rw [In7 ok f hp hl] at J
   refine Yc (J) ?_;rintro _ h ⟨y,d,rfl,o⟩<;>(refine Jf o ?_;unhygienic intros)
   refine Ap5 (show Fit F.S.mem.length F.rg (X.m.set j (L7 (X.m.getD j []) a bs)) from f2) ?_
   refine B9 (cmC c k F { X with m:=X.m.set j (L7 (X.m.getD j []) a bs) }) () ?_;refine Je ?_
   refine Ys fun o=>?_
   exact ⟨rfl,o.sub⟩
  ·have e:wrX X rc bs g=(false,X):=by unfold wrX;rw [em,hp];exact if_neg hg
   rw [e]
   refine Yt ?_ ?_
   ·cases g with
    | false=>rfl
    | true=>simpa using hg
   refine B9 (W6 c k F.env F.caps X.bad) ⟨ca,cn,mb⟩ ?_;refine Je ?_
   refine B9 (cmC c k F X) () ?_;refine Je ?_
   refine Ys fun o=>?_
   exact ⟨by first|rfl|trivial,o.sub⟩
def V4 {α:Type} (dec:List UInt8→α × Int) (z:α) (X:CX) (rc:RecS):(α × Int) × CX :=
 match rdX X rc with
 | some l=>(dec l,if (dec l).2=2 then { X with bad:=X.bad++[rc] } else X)
 | none=>((z,2),X)
theorem Eb6 {X:CX} {rc:RecS} {l:List UInt8} (h:rdX X rc=some l):¬ rc ∈ X.bad:=by
 unfold rdX at h
 split at h
 ·split at h
  ·cases h
  ·assumption
 ·cases h
theorem H38 (l:List UInt8) (h:(Aa6 l).2≠1):(Aa6 l).1=.zero:=by
 unfold Aa6 at *;split<;>first|rfl|(split<;>first|rfl|(simp_all;done))
theorem H67 (l:List UInt8) (h:(Ab1 l).2≠1):(Ab1 l).1=.zero:=by
 unfold Ab1 at *;split<;>first|rfl|(split<;>first|rfl|(simp_all;done))
theorem H19 (l:List UInt8) (h:(Q8 l).2≠1):(Q8 l).1=.zero:=by
 unfold Q8 at *;split<;>first|rfl|(split<;>first|rfl|(simp_all;done))
theorem Ig8 (c k:Nat) (F:Fr) (X:CX) (rc:RecS) (ok:FrOk F) (hk:S5 rc.kind=24):Ct B6 L0 [P0 c,.agg ⟨Z4 rc⟩,.func (.func A55) ⟨[]⟩ ⟨[]⟩] [cmC c k F X] fun v own =>
  v=.tuple ⟨[.agg ⟨E0 (V4 Aa6 .zero X rc).1.1⟩,int (V4 Aa6 .zero X rc).1.2]⟩∧own [cmC c k F (V4 Aa6 .zero X rc).2]:=by
 refine Ct.of Ao5 rfl fun h r=>Tr.eq (Dk4 ..) ?_;refine Je ?_
 (refine Ja ?_;unhygienic intros)
 refine Yc (Eg0 c k F X rc ok) ?_
 rintro v h (⟨l,a,cp,hr,hl,rfl,o⟩|⟨hr,rfl,o⟩)
 ·refine (?_:Tr _ _ _ _) o
  refine Je ?_
  have e:V4 Aa6 .zero X rc=(Aa6 l,if (Aa6 l).2=2 then { X with bad:=X.bad++[rc] } else X):=by unfold V4;rw [hr]
  have hb:=Eb6 hr
  rw [e]
  rw [hk] at hl
  rw [hl]
  (refine Ja ?_;unhygienic intros)
  refine Yc (Hx3 a cp l hl) ?_;rintro _ h ⟨rfl,o⟩<;>(refine Jf o ?_;unhygienic intros)
  by_cases h2:(Aa6 l).2=2
  ·refine Yt (by simpa using h2) ?_
   have hz:=H38 l (by omega)
   simp only [if_pos h2]
   refine D1 (cmC c k F X) fun u=>?_;refine Je ?_
   refine D1 (W6 c k F.env F.caps X.bad) fun ⟨ca,cn,mb⟩=>?_;refine Je ?_
   (refine Ja ?_;unhygienic intros)
   rw [Bx9,if_neg hb]
   (refine Ja ?_;unhygienic intros)
   rw [Ea2 hb]
   (refine Ja ?_;unhygienic intros)
   rw [Dw4 hb]
   (refine Ja ?_;unhygienic intros)
   rw [Dd4 X.bad 0 X.bad.length _ 0 rfl (by omega),Nat.zero_add]
   (refine Ja ?_;unhygienic intros)
   rw [Eb7]
   refine Tr.jmp Ao5 (Tr.eq (A54 ..) ?_);(try simp only[Nr,Nl,wl,Nat.reduceAdd,Nat.reduceMul,Int.reduceToNat])
   refine Yt (by rw [bne_iff_ne];omega) ?_
   (refine Ja ?_;unhygienic intros)
   rw [show X.bad.length+1=(X.bad++[rc]).length by simp]
   refine B9 (W6 c k F.env F.caps (X.bad++[rc])) ⟨ca,cn,mb⟩ ?_;refine Je ?_
   refine B9 (cmC c k F { X with bad:=X.bad++[rc] }) () ?_;refine Je ?_
   refine Ys fun o=>?_
   exact ⟨by rw [hz]<;>rfl,o.sub⟩
  ·refine Yf (by simpa using h2) ?_
   simp only [if_neg h2]
   refine Tr.jmp Ao5 (Tr.eq (A54 ..) ?_);(try simp only[Nr,Nl,wl,Nat.reduceAdd,Nat.reduceMul,Int.reduceToNat])
   by_cases h1:(Aa6 l).2=1
   ·refine Yf (by simpa using h1) ?_
    (refine Ja ?_;unhygienic intros)
    refine Ys fun o=>?_
    exact ⟨rfl,o.sub⟩
   ·refine Yt (by simpa using h1) ?_
    (refine Ja ?_;unhygienic intros)
    refine Ys fun o=>?_
    exact ⟨by rw [H38 l h1]<;>rfl,o.sub⟩
 ·refine (?_:Tr _ _ _ _) o
  refine Je ?_
  have e:V4 Aa6 .zero X rc=((.zero,2),X):=by unfold V4;rw [hr]
  rw [e]
  (refine Ja ?_;unhygienic intros)
  refine Ys fun o=>?_
  exact ⟨rfl,o.sub⟩
theorem Ij4 (c k:Nat) (F:Fr) (X:CX) (rc:RecS) (ok:FrOk F) (hk:S5 rc.kind=8):Ct B6 L6 [P0 c,.agg ⟨Z4 rc⟩,.func (.func A40) ⟨[]⟩ ⟨[]⟩] [cmC c k F X] fun v own =>
  v=.tuple ⟨[.agg ⟨Ah5 (V4 Ab1 .zero X rc).1.1⟩,int (V4 Ab1 .zero X rc).1.2]⟩∧own [cmC c k F (V4 Ab1 .zero X rc).2]:=by
 refine Ct.of An8 rfl fun h r=>Tr.eq (Dm0 ..) ?_;refine Je ?_
 (refine Ja ?_;unhygienic intros)
 refine Yc (Eg0 c k F X rc ok) ?_
 rintro v h (⟨l,a,cp,hr,hl,rfl,o⟩|⟨hr,rfl,o⟩)
 ·refine (?_:Tr _ _ _ _) o
  refine Je ?_
  have e:V4 Ab1 .zero X rc=(Ab1 l,if (Ab1 l).2=2 then { X with bad:=X.bad++[rc] } else X):=by unfold V4;rw [hr]
  have hb:=Eb6 hr
  rw [e]
  rw [hk] at hl
  rw [hl]
  (refine Ja ?_;unhygienic intros)
  refine Yc (Hq6 a cp l hl) ?_;rintro _ h ⟨rfl,o⟩<;>(refine Jf o ?_;unhygienic intros)
  by_cases h2:(Ab1 l).2=2
  ·refine Yt (by simpa using h2) ?_
   have hz:=H67 l (by omega)
   simp only [if_pos h2]
   refine D1 (cmC c k F X) fun u=>?_;refine Je ?_
   refine D1 (W6 c k F.env F.caps X.bad) fun ⟨ca,cn,mb⟩=>?_;refine Je ?_
   (refine Ja ?_;unhygienic intros)
   rw [Bx9,if_neg hb]
   (refine Ja ?_;unhygienic intros)
   rw [Ea2 hb]
   (refine Ja ?_;unhygienic intros)
   rw [Dw4 hb]
   (refine Ja ?_;unhygienic intros)
   rw [Dd4 X.bad 0 X.bad.length _ 0 rfl (by omega),Nat.zero_add]
   (refine Ja ?_;unhygienic intros)
   rw [Eb7]
   refine Tr.jmp An8 (Tr.eq (A50 ..) ?_);(try simp only[Nr,Nl,wl,Nat.reduceAdd,Nat.reduceMul,Int.reduceToNat])
   refine Yt (by rw [bne_iff_ne];omega) ?_
   (refine Ja ?_;unhygienic intros)
   rw [show X.bad.length+1=(X.bad++[rc]).length by simp]
   refine B9 (W6 c k F.env F.caps (X.bad++[rc])) ⟨ca,cn,mb⟩ ?_;refine Je ?_
   refine B9 (cmC c k F { X with bad:=X.bad++[rc] }) () ?_;refine Je ?_
   refine Ys fun o=>?_
   exact ⟨by rw [hz]<;>rfl,o.sub⟩
  ·refine Yf (by simpa using h2) ?_
   simp only [if_neg h2]
   refine Tr.jmp An8 (Tr.eq (A50 ..) ?_);(try simp only[Nr,Nl,wl,Nat.reduceAdd,Nat.reduceMul,Int.reduceToNat])
   by_cases h1:(Ab1 l).2=1
   ·refine Yf (by simpa using h1) ?_
    (refine Ja ?_;unhygienic intros)
    refine Ys fun o=>?_
    exact ⟨rfl,o.sub⟩
   ·refine Yt (by simpa using h1) ?_
    (refine Ja ?_;unhygienic intros)
    refine Ys fun o=>?_
    exact ⟨by rw [H67 l h1]<;>rfl,o.sub⟩
 ·refine (?_:Tr _ _ _ _) o
  refine Je ?_
  have e:V4 Ab1 .zero X rc=((.zero,2),X):=by unfold V4;rw [hr]
  rw [e]
  (refine Ja ?_;unhygienic intros)
  refine Ys fun o=>?_
  exact ⟨rfl,o.sub⟩
theorem Hm3 (c k:Nat) (F:Fr) (X:CX) (rc:RecS) (ok:FrOk F) (hk:S5 rc.kind=40):Ct B6 I4 [P0 c,.agg ⟨Z4 rc⟩,.func (.func Aw1) ⟨[]⟩ ⟨[]⟩] [cmC c k F X] fun v own =>
  v=.tuple ⟨[.agg ⟨E4 (V4 Q8 .zero X rc).1.1⟩,int (V4 Q8 .zero X rc).1.2]⟩∧own [cmC c k F (V4 Q8 .zero X rc).2]:=by
 refine Ct.of Ao2 rfl fun h r=>Tr.eq (Dj6 ..) ?_;refine Je ?_
 (refine Ja ?_;unhygienic intros)
 refine Yc (Eg0 c k F X rc ok) ?_
 rintro v h (⟨l,a,cp,hr,hl,rfl,o⟩|⟨hr,rfl,o⟩)
 ·refine (?_:Tr _ _ _ _) o
  refine Je ?_
  have e:V4 Q8 .zero X rc=(Q8 l,if (Q8 l).2=2 then { X with bad:=X.bad++[rc] } else X):=by unfold V4;rw [hr]
  have hb:=Eb6 hr
  rw [e]
  rw [hk] at hl
  rw [hl]
  (refine Ja ?_;unhygienic intros)
  refine Yc (Hs7 a cp l hl) ?_;rintro _ h ⟨rfl,o⟩<;>(refine Jf o ?_;unhygienic intros)
  by_cases h2:(Q8 l).2=2
  ·refine Yt (by simpa using h2) ?_
   have hz:=H19 l (by omega)
   simp only [if_pos h2]
   refine D1 (cmC c k F X) fun u=>?_;refine Je ?_
   refine D1 (W6 c k F.env F.caps X.bad) fun ⟨ca,cn,mb⟩=>?_;refine Je ?_
   (refine Ja ?_;unhygienic intros)
   rw [Bx9,if_neg hb]
   (refine Ja ?_;unhygienic intros)
   rw [Ea2 hb]
   (refine Ja ?_;unhygienic intros)
   rw [Dw4 hb]
   (refine Ja ?_;unhygienic intros)
   rw [Dd4 X.bad 0 X.bad.length _ 0 rfl (by omega),Nat.zero_add]
   (refine Ja ?_;unhygienic intros)
   rw [Eb7]
   refine Tr.jmp Ao2 (Tr.eq (A68 ..) ?_);(try simp only[Nr,Nl,wl,Nat.reduceAdd,Nat.reduceMul,Int.reduceToNat])
   refine Yt (by rw [bne_iff_ne];omega) ?_
   (refine Ja ?_;unhygienic intros)
   rw [show X.bad.length+1=(X.bad++[rc]).length by simp]
   refine B9 (W6 c k F.env F.caps (X.bad++[rc])) ⟨ca,cn,mb⟩ ?_;refine Je ?_
   refine B9 (cmC c k F { X with bad:=X.bad++[rc] }) () ?_;refine Je ?_
   refine Ys fun o=>?_
   exact ⟨by rw [hz]<;>rfl,o.sub⟩
  ·refine Yf (by simpa using h2) ?_
   simp only [if_neg h2]
   refine Tr.jmp Ao2 (Tr.eq (A68 ..) ?_);(try simp only[Nr,Nl,wl,Nat.reduceAdd,Nat.reduceMul,Int.reduceToNat])
   by_cases h1:(Q8 l).2=1
   ·refine Yf (by simpa using h1) ?_
    (refine Ja ?_;unhygienic intros)
    refine Ys fun o=>?_
    exact ⟨rfl,o.sub⟩
   ·refine Yt (by simpa using h1) ?_
    (refine Ja ?_;unhygienic intros)
    refine Ys fun o=>?_
    exact ⟨by rw [H19 l h1]<;>rfl,o.sub⟩
 ·refine (?_:Tr _ _ _ _) o
  refine Je ?_
  have e:V4 Q8 .zero X rc=((.zero,2),X):=by unfold V4;rw [hr]
  rw [e]
  (refine Ja ?_;unhygienic intros)
  refine Ys fun o=>?_
  exact ⟨rfl,o.sub⟩
def Ge2 (g:Int):List UInt8:=[b8 g,211,Bv2 [b8 g,211],0]
def At4 (l:List UInt8):Int × Int:=if byI l 0<8∧Ge2 (byI l 0)=l then (byI l 0,1) else (0,2)
theorem Gv2 (g:Int):Ct B6 Aq2 [int g] [] fun v own =>
  (0≤g∧g<8∧∃ a c,v=.tuple ⟨[.slice a 4 c,.bool true]⟩∧own [slC false B1 1 a 4 c (A0 (Ge2 g))])∨(¬ (0≤g∧g<8)∧v=.tuple ⟨[.slice none 0 0,.bool false]⟩∧own []):=by
 refine Ct.of Ee2 rfl fun h r=>Tr.eq (Eg2 ..) ?_;refine Je ?_
 (refine Ja ?_;unhygienic intros)
 by_cases hg:0≤g∧g<8
 ·refine Yf (by simp;omega) ?_
  rw [Bj7]
  refine Yn fun b h=>?_
  rw [show ([.int .u8 ((b8 g).toNat:Int),.int .u8 211]:List Value)=A0 [b8 g,211] from rfl]
  refine Aa1 0 rfl 1 2 rfl (by omega) ?_
  refine Je ?_
  refine Tr.pcall (Gi1 (slC false B1 1 (some ⟨b,0,none⟩) 2 2 (A0 [b8 g,211])) (some ⟨b,0,none⟩) false 2 2 2 [b8 g,211] 2 (by simp) (by simp [B7])) ?_
  (refine Ja ?_;unhygienic intros)
  rw [show List.take 2 [b8 g,211]=[b8 g,211] from rfl,Do5]
  refine Tr.xApd ⟨rfl,rfl,by simp [B7]⟩ fun a' c' h'=>?_
  refine Je ?_
  refine Ys fun o=>?_
  exact .inl ⟨hg.1,hg.2,a',c',rfl,(show Own h' (_::slC false B1 1 a' 4 c' (A0 (Ge2 g))::_) from o).sub⟩
 ·refine Yt (by simp;omega) ?_
  refine Ys fun o=>?_
  exact .inr ⟨hg,rfl,o.sub⟩
theorem Ig7 (l:List UInt8):∀ (m i:Nat) (r:List UInt8),l.length-i=m→ByteArray.toList.loop ⟨⟨l⟩⟩ i r=r.reverse++l.drop i:=by
 intro m
 induction m with
 | zero =>
  intro i r hm
  unfold ByteArray.toList.loop
  rw [if_neg (show ¬ i<(ByteArray.mk ⟨l⟩).size by show ¬ i<l.length;omega),List.drop_eq_nil_of_le (by omega)];simp
 | succ m ih =>
  intro i r hm
  have hlt:i<l.length:=by omega
  unfold ByteArray.toList.loop
  rw [if_pos (show i<(ByteArray.mk ⟨l⟩).size from hlt),ih (i+1) _ (by omega),List.drop_eq_getElem_cons hlt]
  have:(ByteArray.mk ⟨l⟩).get! i=l[i]:=by
   show (Array.mk l)[i]! = l[i]
   simp [hlt]
  rw [this];simp
theorem Gp4 (l:List UInt8):(ByteArray.mk ⟨l⟩).toList=l:=by
 unfold ByteArray.toList
 rw [Ig7 l _ 0 [] rfl];simp
theorem Hv8 (a:Option Addr) (c:Nat) (l:List UInt8) (hl:l.length=4):Ct B6 An1 [.slice a 4 c] [slC false B1 1 a 4 c (A0 l)] fun v own=>v=.tuple ⟨[int (At4 l).1,int (At4 l).2]⟩∧own [slC false B1 1 a 4 c (A0 l)]:=by
 refine Ct.of E17 rfl fun h r=>Tr.eq (Ez9 ..) ?_;refine Je ?_
 refine Yf rfl ?_
 (refine Ja ?_;unhygienic intros;repeat(refine Gw ?_;rintro px rfl;refine Ja ?_;unhygienic intros))
 refine Tr.xIntS (v:=byI l 0) (Ad6 (by omega)) ?_
 simp only [byI,Am9]
 refine Yc (Gv2 (byI l 0)) ?_
 rintro v h (⟨h1,h2,a1,c1,rfl,o⟩|⟨hn,rfl,o⟩)
 ·refine (?_:Tr _ _ _ _) o
  refine Je ?_
  (refine Ja ?_;unhygienic intros)
  rw [Gp4,Gp4]
  by_cases he:Ge2 (byI l 0)=l
  ·have e:At4 l=(byI l 0,1):=by unfold At4;rw [if_pos ⟨h2,he⟩]
   refine Yf (by simp [he]) ?_
   (refine Ja ?_;unhygienic intros)
   refine Tr.xIntS (v:=byI l 0) (Ad6 (by omega)) ?_
   refine Ys fun o=>?_
   rw [e];exact ⟨by simp only [byI,Am9],o.sub⟩
  ·have e:At4 l=(0,2):=by unfold At4;rw [if_neg (fun hh=>he hh.2)]
   refine Yt (by simp [he]) ?_
   refine Ys fun o=>?_
   rw [e];exact ⟨rfl,o.sub⟩
 ·refine (?_:Tr _ _ _ _) o
  refine Je ?_
  (refine Jb ?_;unhygienic intros)
  refine Yb (Yt rfl ?_)
  refine Ys fun o=>(?_:Tr _ _ _ _) o;refine Je ?_
  (refine Ja ?_;unhygienic intros)
  refine Ys fun o=>?_
  exact ⟨by unfold At4;rw [if_neg (by simp only [byI] at *;omega)],o.sub⟩
theorem H12 (l:List UInt8) (h:(At4 l).2≠1):(At4 l).1=0:=by
 unfold At4 at *;split<;>simp_all
theorem Ik1 (c k:Nat) (F:Fr) (X:CX) (rc:RecS) (ok:FrOk F) (hk:S5 rc.kind=4):Ct B6 R0 [P0 c,.agg ⟨Z4 rc⟩,.func (.func An1) ⟨[]⟩ ⟨[]⟩] [cmC c k F X] fun v own =>
  v=.tuple ⟨[int (V4 At4 0 X rc).1.1,int (V4 At4 0 X rc).1.2]⟩∧own [cmC c k F (V4 At4 0 X rc).2]:=by
 refine Ct.of A94 rfl fun h r=>Tr.eq (Ee7 ..) ?_;refine Je ?_
 (refine Ja ?_;unhygienic intros)
 refine Yc (Eg0 c k F X rc ok) ?_
 rintro v h (⟨l,a,cp,hr,hl,rfl,o⟩|⟨hr,rfl,o⟩)
 ·refine (?_:Tr _ _ _ _) o
  refine Je ?_
  have e:V4 At4 0 X rc=(At4 l,if (At4 l).2=2 then { X with bad:=X.bad++[rc] } else X):=by unfold V4;rw [hr]
  have hb:=Eb6 hr
  rw [e]
  rw [hk] at hl
  rw [hl]
  (refine Ja ?_;unhygienic intros)
  refine Yc (Hv8 a cp l hl) ?_;rintro _ h ⟨rfl,o⟩<;>(refine Jf o ?_;unhygienic intros)
  by_cases h2:(At4 l).2=2
  ·refine Yt (by simpa using h2) ?_
   have hz:=H12 l (by omega)
   simp only [if_pos h2]
   refine D1 (cmC c k F X) fun u=>?_;refine Je ?_
   refine D1 (W6 c k F.env F.caps X.bad) fun ⟨ca,cn,mb⟩=>?_;refine Je ?_
   (refine Ja ?_;unhygienic intros)
   rw [Bx9,if_neg hb]
   (refine Ja ?_;unhygienic intros)
   rw [Ea2 hb]
   (refine Ja ?_;unhygienic intros)
   rw [Dw4 hb]
   (refine Ja ?_;unhygienic intros)
   rw [Dd4 X.bad 0 X.bad.length _ 0 rfl (by omega),Nat.zero_add]
   (refine Ja ?_;unhygienic intros)
   rw [Eb7]
   refine Tr.jmp A94 (Tr.eq (Bn1 ..) ?_);(try simp only[Nr,Nl,wl,Nat.reduceAdd,Nat.reduceMul,Int.reduceToNat])
   refine Yt (by rw [bne_iff_ne];omega) ?_
   rw [show X.bad.length+1=(X.bad++[rc]).length by simp]
   refine B9 (W6 c k F.env F.caps (X.bad++[rc])) ⟨ca,cn,mb⟩ ?_;refine Je ?_
   refine B9 (cmC c k F { X with bad:=X.bad++[rc] }) () ?_;refine Je ?_
   refine Ys fun o=>?_
   exact ⟨by rw [hz],o.sub⟩
  ·refine Yf (by simpa using h2) ?_
   simp only [if_neg h2]
   refine Tr.jmp A94 (Tr.eq (Bn1 ..) ?_);(try simp only[Nr,Nl,wl,Nat.reduceAdd,Nat.reduceMul,Int.reduceToNat])
   by_cases h1:(At4 l).2=1
   ·refine Yf (by simpa using h1) ?_
    refine Ys fun o=>?_
    exact ⟨rfl,o.sub⟩
   ·refine Yt (by simpa using h1) ?_
    refine Ys fun o=>?_
    exact ⟨by rw [H12 l h1],o.sub⟩
 ·refine (?_:Tr _ _ _ _) o
  refine Je ?_
  have e:V4 At4 0 X rc=((0,2),X):=by unfold V4;rw [hr]
  rw [e]
  (refine Ja ?_;unhygienic intros)
  refine Ys fun o=>?_
  exact ⟨rfl,o.sub⟩
abbrev D86 (X:CX) (i:Int):(ProcS × Int) × CX:=V4 Aa6 .zero X ⟨1,i⟩
abbrev Eb1 (X:CX) (i:Int):(FileS × Int) × CX:=V4 Ab1 .zero X ⟨2,i⟩
abbrev Di2 (X:CX) (i:Int):(PipeS × Int) × CX:=V4 Q8 .zero X ⟨3,i⟩
abbrev Ea3 (X:CX):(PipeS × Int) × CX:=V4 Q8 .zero X ⟨4,0⟩
abbrev Er6 (X:CX):(Int × Int) × CX:=V4 At4 0 X ⟨5,0⟩
abbrev Bk1 (X:CX) (i:Int) (p:ProcS):Bool × CX:=wrX X ⟨1,i⟩ (Av4 p) (okS p)
abbrev Bi2 (X:CX) (i:Int) (p:FileS):Bool × CX:=wrX X ⟨2,i⟩ (Ai4 p) (okF p)
abbrev A81 (X:CX) (i:Int) (p:PipeS):Bool × CX:=wrX X ⟨3,i⟩ (I8 p) (okP p)
abbrev B57 (X:CX) (p:PipeS):Bool × CX:=wrX X ⟨4,0⟩ (I8 p) (okP p)
abbrev B91 (X:CX) (rc:RecS):Bool × CX:=wrX X rc (List.replicate (S5 rc.kind) 0) true
theorem Dt7 (X:CX) (rc:RecS) (b:List UInt8):wrX X rc b false=(false,X):=by
 unfold wrX;split<;>simp
theorem Gu0 (c k:Nat) (F:Fr) (X:CX) (rc:RecS) (ok:FrOk F):Ct B6 Y9 [P0 c,.agg ⟨Z4 rc⟩] [cmC c k F X] fun v own =>
  v=.bool (B91 X rc).1∧own [cmC c k F (B91 X rc).2]:=by
 refine Ct.of Du5 rfl fun h r=>Tr.eq (Du9 ..) ?_;refine Je ?_
 refine D1 (cmC c k F X) fun u=>?_;refine Je ?_
 refine P6 2 rfl fun f=>?_
 (repeat' first|refine Gu ?_|(with_reducible first|refine Gn fun b h=>?_|apply Gx|apply Gy|rintro px rfl|apply Gw|refine fun(h:H)=>?_|intro hb)|refine Gs ?_|refine Gt ?_|exact Gz rfl|fail)
 refine Yc (Em4 c k F.env F.caps X.bad rc ok.small ok.ne) ?_;rintro _ h ⟨rfl,o⟩<;>(refine (?_:Tr _ _ _ _) o;refine Je ?_;(repeat' first|refine Gu ?_|(with_reducible first|refine Gn fun b h=>?_|apply Gx|apply Gy|rintro px rfl|apply Gw|refine fun(h:H)=>?_|intro hb)|refine Gs ?_|refine Gt ?_|exact Gz rfl|fail))
 have em:=f.mlen ok
 cases hp:H3 F.caps.length rc with
 | none =>
  (repeat' first|refine Gu ?_|(with_reducible first|refine Gn fun b h=>?_|apply Gx|apply Gy|rintro px rfl|apply Gw|refine fun(h:H)=>?_|intro hb)|refine Gs ?_|refine Gt ?_|exact Gz rfl|fail)
  rw [show H6 (Int.toNat 0) [.int .u8 0]=A0 [] from rfl]
  refine Aa1 0 rfl 1 0 rfl (by omega) ?_
  refine Je ?_
  refine B9 (cmC c k F X) () ?_;refine Je ?_
  refine Yc (Bi1 c k F X rc ok [] false (some ⟨b,0,none⟩) 0 (by simp)) ?_;rintro _ h ⟨rfl,o⟩<;>(refine (?_:Tr _ _ _ _) o;refine Je ?_;(repeat' first|refine Gu ?_|(with_reducible first|refine Gn fun b h=>?_|apply Gx|apply Gy|rintro px rfl|apply Gw|refine fun(h:H)=>?_|intro hb)|refine Gs ?_|refine Gt ?_|exact Gz rfl|fail))
  refine Ys fun o=>?_
  have e:B91 X rc=(false,X):=by unfold B91 wrX;rw [em,hp]
  rw [Dt7] at o
  rw [e,Dt7]
  exact ⟨by first|rfl|trivial,o.sub⟩
 | some p =>
  obtain ⟨j,a,n⟩:=p
  have hn:=Dl6 hp
  subst hn
  have h40:S5 rc.kind≤40:=by unfold S5;(repeat' split)<;>omega
  (repeat' first|refine Gu ?_|(with_reducible first|refine Gn fun b h=>?_|apply Gx|apply Gy|rintro px rfl|apply Gw|refine fun(h:H)=>?_|intro hb)|refine Gs ?_|refine Gt ?_|exact Gz rfl|fail)
  refine Tr.ck ⟨by omega,by omega,by simp only [B7];omega⟩ ?_
  refine Yn fun b1 h=>?_
  rw [Int.toNat_natCast,show H6 (S5 rc.kind) [.int .u8 0]=A0 (List.replicate (S5 rc.kind) 0) by simp [H6,A0]]
  refine Aa1 0 rfl 1 (S5 rc.kind) (by simp [A0]) (by omega) ?_
  refine Je ?_
  refine B9 (cmC c k F X) () ?_;refine Je ?_
  have J:=Bi1 c k F X rc ok (List.replicate (S5 rc.kind) 0) true (some ⟨b1,0,none⟩) (S5 rc.kind) (by simp)
  rw [List.length_replicate] at J
  refine Yc (J) ?_;rintro _ h ⟨rfl,o⟩<;>(refine (?_:Tr _ _ _ _) o;refine Je ?_;(repeat' first|refine Gu ?_|(with_reducible first|refine Gn fun b h=>?_|apply Gx|apply Gy|rintro px rfl|apply Gw|refine fun(h:H)=>?_|intro hb)|refine Gs ?_|refine Gt ?_|exact Gz rfl|fail))
  refine Ys fun o=>?_
  exact ⟨rfl,o.sub⟩
theorem Dh8 (c k:Nat) (F:Fr) (X:CX) (rc:RecS) (ok:FrOk F):Ct B6 I2 [P0 c,.agg ⟨Z4 rc⟩,.slice none 0 0,.bool false] [cmC c k F X] fun v own=>v=.bool false∧own [cmC c k F X]:=by
 intro h r o
 have o1:Own h (slC false B1 1 none 0 0 (A0 [])::cmC c k F X::r):=o.slNil false B1 (by omega)
 obtain ⟨v,h',e,rfl,o2⟩:=Bi1 c k F X rc ok [] false none 0 (by simp) h r (o1.perm (.swap _ _ _))
 rw [Dt7] at e o2
 exact ⟨_,h',e,rfl,o2.sub⟩
theorem Ga2 (i:Int):Ct B6 A45 [int i] [] fun v own=>v=.agg ⟨Z4 ⟨1,i⟩⟩∧own []:=by
 refine Ct.of Gn5 rfl fun h r=>Tr.eq (Gj8 ..) ?_;refine Je ?_
 (refine Ja ?_;unhygienic intros)
 refine Ys fun o=>?_
 exact ⟨rfl,o.sub⟩
theorem D88 (i:Int):Ct B6 As1 [int i] [] fun v own=>v=.agg ⟨Z4 ⟨2,i⟩⟩∧own []:=by
 refine Ct.of Gl6 rfl fun h r=>Tr.eq (Gk0 ..) ?_;refine Je ?_
 (refine Ja ?_;unhygienic intros)
 refine Ys fun o=>?_
 exact ⟨rfl,o.sub⟩
theorem Ee9 (i:Int):Ct B6 As2 [int i] [] fun v own=>v=.agg ⟨Z4 ⟨3,i⟩⟩∧own []:=by
 refine Ct.of Gl0 rfl fun h r=>Tr.eq (Gn6 ..) ?_;refine Je ?_
 (refine Ja ?_;unhygienic intros)
 refine Ys fun o=>?_
 exact ⟨rfl,o.sub⟩
theorem E73 (c k:Nat) (F:Fr) (X:CX) (ok:FrOk F) (i:Int):Ct B6 U1 [P0 c,int i] [cmC c k F X] fun v own=>v=.tuple ⟨[.agg ⟨E0 (D86 X i).1.1⟩,int (D86 X i).1.2]⟩∧own [cmC c k F (D86 X i).2]:=by
 refine Ct.of D32 rfl fun h r=>Tr.eq (D40 ..) ?_;refine Je ?_
 (refine Ja ?_;unhygienic intros)
 refine Yc (Ga2 i) ?_;rintro _ h ⟨rfl,o⟩<;>(refine Jf o ?_;unhygienic intros)
 refine Yc (Ig8 c k F X ⟨1,i⟩ ok rfl) ?_;rintro _ h ⟨rfl,o⟩<;>(refine Jf o ?_;unhygienic intros)
 refine Ys fun o=>?_
 exact ⟨rfl,o.sub⟩
theorem B78 (c k:Nat) (F:Fr) (X:CX) (ok:FrOk F) (i:Int):Ct B6 I7 [P0 c,int i] [cmC c k F X] fun v own=>v=.tuple ⟨[.agg ⟨Ah5 (Eb1 X i).1.1⟩,int (Eb1 X i).1.2]⟩∧own [cmC c k F (Eb1 X i).2]:=by
 refine Ct.of Dz0 rfl fun h r=>Tr.eq (D12 ..) ?_;refine Je ?_
 (refine Ja ?_;unhygienic intros)
 refine Yc (D88 i) ?_;rintro _ h ⟨rfl,o⟩<;>(refine Jf o ?_;unhygienic intros)
 refine Yc (Ij4 c k F X ⟨2,i⟩ ok rfl) ?_;rintro _ h ⟨rfl,o⟩<;>(refine Jf o ?_;unhygienic intros)
 refine Ys fun o=>?_
 exact ⟨rfl,o.sub⟩
theorem Ef3 (c k:Nat) (F:Fr) (X:CX) (ok:FrOk F) (i:Int):Ct B6 O5 [P0 c,int i] [cmC c k F X] fun v own=>v=.tuple ⟨[.agg ⟨E4 (Di2 X i).1.1⟩,int (Di2 X i).1.2]⟩∧own [cmC c k F (Di2 X i).2]:=by
 refine Ct.of D01 rfl fun h r=>Tr.eq (Dz4 ..) ?_;refine Je ?_
 (refine Ja ?_;unhygienic intros)
 refine Yc (Ee9 i) ?_;rintro _ h ⟨rfl,o⟩<;>(refine Jf o ?_;unhygienic intros)
 refine Yc (Hm3 c k F X ⟨3,i⟩ ok rfl) ?_;rintro _ h ⟨rfl,o⟩<;>(refine Jf o ?_;unhygienic intros)
 refine Ys fun o=>?_
 exact ⟨rfl,o.sub⟩
theorem G23 (c k:Nat) (F:Fr) (X:CX) (ok:FrOk F):Ct B6 S8 [P0 c] [cmC c k F X] fun v own=>v=.tuple ⟨[.agg ⟨E4 (Ea3 X).1.1⟩,int (Ea3 X).1.2]⟩∧own [cmC c k F (Ea3 X).2]:=by
 refine Ct.of D27 rfl fun h r=>Tr.eq (D18 ..) ?_;refine Je ?_
 (refine Ja ?_;unhygienic intros)
 refine Yc (Hm3 c k F X ⟨4,0⟩ ok rfl) ?_;rintro _ h ⟨rfl,o⟩<;>(refine Jf o ?_;unhygienic intros)
 refine Ys fun o=>?_
 exact ⟨rfl,o.sub⟩
theorem Hy3 (c k:Nat) (F:Fr) (X:CX) (ok:FrOk F):Ct B6 Ah4 [P0 c] [cmC c k F X] fun v own=>v=.tuple ⟨[int (Er6 X).1.1,.bool ((Er6 X).1.2==1)]⟩∧own [cmC c k F (Er6 X).2]:=by
 refine Ct.of Du3 rfl fun h r=>Tr.eq (Du8 ..) ?_;refine Je ?_
 (refine Ja ?_;unhygienic intros)
 refine Yc (Ik1 c k F X ⟨5,0⟩ ok rfl) ?_;rintro _ h ⟨rfl,o⟩<;>(refine Jf o ?_;unhygienic intros)
 refine Ys fun o=>?_
 exact ⟨rfl,o.sub⟩
theorem Dq8 (f:FileS):(Ai4 f).length=8:=rfl
theorem D14 (c k:Nat) (F:Fr) (X:CX) (ok:FrOk F) (i:Int) (p:ProcS):Ct B6 O8 [P0 c,int i,.agg ⟨E0 p⟩] [cmC c k F X] fun v own=>v=.bool (Bk1 X i p).1∧own [cmC c k F (Bk1 X i p).2]:=by
 refine Ct.of Dl3 rfl fun h r=>Tr.eq (Dj1 ..) ?_;refine Je ?_
 (refine Ja ?_;unhygienic intros)
 refine Yc (Gf2 p) ?_
 rintro v h (⟨hk,a,rfl,o⟩|⟨hk,rfl,o⟩)
 ·refine (?_:Tr _ _ _ _) o
  refine Je ?_
  (refine Ja ?_;unhygienic intros)
  refine Yc (Ga2 i) ?_;rintro _ h ⟨rfl,o⟩<;>(refine Jf o ?_;unhygienic intros)
  have J:=Bi1 c k F X ⟨1,i⟩ ok (Av4 p) true a 24 (fun _=>Eg5 p)
  rw [Eg5] at J
  refine Yc (J) ?_;rintro _ h ⟨rfl,o⟩<;>(refine Jf o ?_;unhygienic intros)
  refine Ys fun o=>?_
  unfold Bk1;rw [hk]
  exact ⟨rfl,o.sub⟩
 ·refine (?_:Tr _ _ _ _) o
  refine Je ?_
  (refine Ja ?_;unhygienic intros)
  refine Yc (Ga2 i) ?_;rintro _ h ⟨rfl,o⟩<;>(refine Jf o ?_;unhygienic intros)
  refine Yc (Dh8 c k F X ⟨1,i⟩ ok) ?_;rintro _ h ⟨rfl,o⟩<;>(refine Jf o ?_;unhygienic intros)
  refine Ys fun o=>?_
  unfold Bk1;rw [hk,Dt7]
  exact ⟨rfl,o.sub⟩
theorem Da3 (c k:Nat) (F:Fr) (X:CX) (ok:FrOk F) (i:Int) (p:FileS):Ct B6 L5 [P0 c,int i,.agg ⟨Ah5 p⟩] [cmC c k F X] fun v own=>v=.bool (Bi2 X i p).1∧own [cmC c k F (Bi2 X i p).2]:=by
 refine Ct.of Dk9 rfl fun h r=>Tr.eq (Dl8 ..) ?_;refine Je ?_
 (refine Ja ?_;unhygienic intros)
 refine Yc (Gc0 p) ?_
 rintro v h (⟨hk,a,rfl,o⟩|⟨hk,rfl,o⟩)
 ·refine (?_:Tr _ _ _ _) o
  refine Je ?_
  (refine Ja ?_;unhygienic intros)
  refine Yc (D88 i) ?_;rintro _ h ⟨rfl,o⟩<;>(refine Jf o ?_;unhygienic intros)
  have J:=Bi1 c k F X ⟨2,i⟩ ok (Ai4 p) true a 8 (fun _=>Dq8 p)
  rw [Dq8] at J
  refine Yc (J) ?_;rintro _ h ⟨rfl,o⟩<;>(refine Jf o ?_;unhygienic intros)
  refine Ys fun o=>?_
  unfold Bi2;rw [hk]
  exact ⟨rfl,o.sub⟩
 ·refine (?_:Tr _ _ _ _) o
  refine Je ?_
  (refine Ja ?_;unhygienic intros)
  refine Yc (D88 i) ?_;rintro _ h ⟨rfl,o⟩<;>(refine Jf o ?_;unhygienic intros)
  refine Yc (Dh8 c k F X ⟨2,i⟩ ok) ?_;rintro _ h ⟨rfl,o⟩<;>(refine Jf o ?_;unhygienic intros)
  refine Ys fun o=>?_
  unfold Bi2;rw [hk,Dt7]
  exact ⟨rfl,o.sub⟩
theorem D24 (c k:Nat) (F:Fr) (X:CX) (ok:FrOk F) (i:Int) (p:PipeS):Ct B6 O9 [P0 c,int i,.agg ⟨E4 p⟩] [cmC c k F X] fun v own=>v=.bool (A81 X i p).1∧own [cmC c k F (A81 X i p).2]:=by
 refine Ct.of Dl5 rfl fun h r=>Tr.eq (Dk0 ..) ?_;refine Je ?_
 (refine Ja ?_;unhygienic intros)
 refine Yc (Ef7 p) ?_
 rintro v h (⟨hk,a,rfl,o⟩|⟨hk,rfl,o⟩)
 ·refine (?_:Tr _ _ _ _) o
  refine Je ?_
  (refine Ja ?_;unhygienic intros)
  refine Yc (Ee9 i) ?_;rintro _ h ⟨rfl,o⟩<;>(refine Jf o ?_;unhygienic intros)
  have J:=Bi1 c k F X ⟨3,i⟩ ok (I8 p) true a 40 (fun _=>A17 p.len)
  rw [A17 p.len] at J
  refine Yc (J) ?_;rintro _ h ⟨rfl,o⟩<;>(refine Jf o ?_;unhygienic intros)
  refine Ys fun o=>?_
  unfold A81;rw [hk]
  exact ⟨rfl,o.sub⟩
 ·refine (?_:Tr _ _ _ _) o
  refine Je ?_
  (refine Ja ?_;unhygienic intros)
  refine Yc (Ee9 i) ?_;rintro _ h ⟨rfl,o⟩<;>(refine Jf o ?_;unhygienic intros)
  refine Yc (Dh8 c k F X ⟨3,i⟩ ok) ?_;rintro _ h ⟨rfl,o⟩<;>(refine Jf o ?_;unhygienic intros)
  refine Ys fun o=>?_
  unfold A81;rw [hk,Dt7]
  exact ⟨rfl,o.sub⟩
theorem G30 (c k:Nat) (F:Fr) (X:CX) (ok:FrOk F) (i:Int):Ct B6 Ab8 [P0 c,int i] [cmC c k F X] fun v own=>v=.bool (B91 X ⟨2,i⟩).1∧own [cmC c k F (B91 X ⟨2,i⟩).2]:=by
 refine Ct.of Dg0 rfl fun h r=>Tr.eq (De4 ..) ?_;refine Je ?_
 refine Yc (D88 i) ?_;rintro _ h ⟨rfl,o⟩<;>(refine Jf o ?_;unhygienic intros)
 refine Yc (Gu0 c k F X ⟨2,i⟩ ok) ?_;rintro _ h ⟨rfl,o⟩<;>(refine Jf o ?_;unhygienic intros)
 refine Ys fun o=>?_
 exact ⟨rfl,o.sub⟩
theorem Ha4 (c k:Nat) (F:Fr) (X:CX) (ok:FrOk F) (i:Int):Ct B6 Ab5 [P0 c,int i] [cmC c k F X] fun v own=>v=.bool (B91 X ⟨3,i⟩).1∧own [cmC c k F (B91 X ⟨3,i⟩).2]:=by
 refine Ct.of Dd9 rfl fun h r=>Tr.eq (Dg4 ..) ?_;refine Je ?_
 refine Yc (Ee9 i) ?_;rintro _ h ⟨rfl,o⟩<;>(refine Jf o ?_;unhygienic intros)
 refine Yc (Gu0 c k F X ⟨3,i⟩ ok) ?_;rintro _ h ⟨rfl,o⟩<;>(refine Jf o ?_;unhygienic intros)
 refine Ys fun o=>?_
 exact ⟨rfl,o.sub⟩
def Dj3 (f:CX→Int→CX):Nat→Int→CX→CX
 | 0,_,X=>X
 | m+1,i,X=>Dj3 f m (i+1) (f X i)
def Gg2 (X:CX):CX:=(Er6 (Ea3 X).2).2
def G70 (nc:Nat) (X:CX):CX:=Gg2 (Dj3 (fun X i=>(Di2 X i).2) (3+nc) 0 X)
def G92 (nc:Nat) (X:CX):CX:=G70 nc (Dj3 (fun X i=>(Eb1 X i).2) 12 0 X)
def lookN (nc:Nat) (X:CX):CX:=G92 nc (Dj3 (fun X i=>(D86 X i).2) 8 0 X)
def Ge5 (X:CX):CX:=lookN X.m.length X
theorem Hx2 (c k:Nat) (F:Fr) (ok:FrOk F):∀ (m:Nat) (i:Int) (X:CX),0≤i→i+m=3+F.caps.length →
  CtJ H5 D5 Ad5 [(0,P0 c),(20,int (3+F.caps.length)),(21,int i)] [cmC c k F X] fun v own=>v=.tuple ⟨[]⟩∧own [cmC c k F (Gg2 (Dj3 (fun X i=>(Di2 X i).2) m i X))]:=by
 have hs:=ok.small
 intro m
 induction m with
 | zero =>
  intro i X h0 hi
  refine CtJ.of O7 fun h r=>Tr.eq (Bf9 ..) ?_;refine Je ?_
  refine Yf (by simp;omega) ?_
  refine Yc (G23 c k F X ok) ?_;rintro _ h ⟨rfl,o⟩<;>(refine Jf o ?_;unhygienic intros)
  refine Yc (Hy3 c k F (Ea3 X).2 ok) ?_;rintro _ h ⟨rfl,o⟩<;>(refine Jf o ?_;unhygienic intros)
  refine Ys fun o=>?_
  exact ⟨rfl,o⟩
 | succ m ih =>
  intro i X h0 hi
  have e1:IntKind.wrap .i64 (i+1)=i+1:=by rw [B5];omega
  refine CtJ.of O7 fun h r=>Tr.eq (Bf9 ..) ?_;refine Je ?_
  refine Yt (by simp;omega) ?_
  refine Yc (Ef3 c k F X ok i) ?_;rintro _ h ⟨rfl,o⟩<;>(refine Jf o ?_;unhygienic intros)
  rw [e1]
  refine Yr (ih (i+1) (Di2 X i).2 (by omega) (by omega)) ?_
  rintro _ h ⟨rfl,o⟩
  exact ⟨rfl,o⟩
theorem Hu5 (c k:Nat) (F:Fr) (ok:FrOk F):∀ (m:Nat) (i:Int) (X:CX),0≤i→i+m=12 →
  CtJ H5 D5 Ad4 [(0,P0 c),(12,int i)] [cmC c k F X] fun v own=>v=.tuple ⟨[]⟩∧own [cmC c k F (G70 F.caps.length (Dj3 (fun X i=>(Eb1 X i).2) m i X))]:=by
 have hs:=ok.small
 intro m
 induction m with
 | zero =>
  intro i X h0 hi
  refine CtJ.of O7 fun h r=>Tr.eq (Bg8 ..) ?_;refine Je ?_
  refine Yf (by simp;omega) ?_
  refine D1 (cmC c k F X) fun u=>?_;refine Je ?_
  refine Tr.pcall (Gz4 c k F.env F.caps X.bad 3 ok.small) ?_;refine Je ?_;(refine Ja ?_;unhygienic intros)
  refine B9 (cmC c k F X) () ?_;refine Je ?_
  refine Yr (Hx2 c k F ok (3+F.caps.length) 0 X (by omega) (by omega)) ?_
  rintro _ h ⟨rfl,o⟩
  exact ⟨rfl,o⟩
 | succ m ih =>
  intro i X h0 hi
  have e1:IntKind.wrap .i64 (i+1)=i+1:=by rw [B5];omega
  refine CtJ.of O7 fun h r=>Tr.eq (Bg8 ..) ?_;refine Je ?_
  refine Yt (by simp;omega) ?_
  refine Yc (B78 c k F X ok i) ?_;rintro _ h ⟨rfl,o⟩<;>(refine Jf o ?_;unhygienic intros)
  rw [e1]
  refine Yr (ih (i+1) (Eb1 X i).2 (by omega) (by omega)) ?_
  rintro _ h ⟨rfl,o⟩
  exact ⟨rfl,o⟩
theorem Hs1 (c k:Nat) (F:Fr) (ok:FrOk F):∀ (m:Nat) (i:Int) (X:CX),0≤i→i+m=8 →
  CtJ H5 D5 Ad2 [(0,P0 c),(5,int i)] [cmC c k F X] fun v own=>v=.tuple ⟨[]⟩∧own [cmC c k F (G92 F.caps.length (Dj3 (fun X i=>(D86 X i).2) m i X))]:=by
 intro m
 induction m with
 | zero =>
  intro i X h0 hi
  refine CtJ.of O7 fun h r=>Tr.eq (Bg6 ..) ?_;refine Je ?_
  refine Yf (by simp;omega) ?_
  refine Yr (Hu5 c k F ok 12 0 X (by omega) (by omega)) ?_
  rintro _ h ⟨rfl,o⟩
  exact ⟨rfl,o⟩
 | succ m ih =>
  intro i X h0 hi
  have e1:IntKind.wrap .i64 (i+1)=i+1:=by rw [B5];omega
  refine CtJ.of O7 fun h r=>Tr.eq (Bg6 ..) ?_;refine Je ?_
  refine Yt (by simp;omega) ?_
  refine Yc (E73 c k F X ok i) ?_;rintro _ h ⟨rfl,o⟩<;>(refine Jf o ?_;unhygienic intros)
  rw [e1]
  refine Yr (ih (i+1) (D86 X i).2 (by omega) (by omega)) ?_
  rintro _ h ⟨rfl,o⟩
  exact ⟨rfl,o⟩
theorem Gn0 (c k:Nat) (F:Fr) (X:CX) (ok:FrOk F):Ct B6 D5 [P0 c] [cmC c k F X] fun v own=>v=.tuple ⟨[]⟩∧own [cmC c k F (Ge5 X)]:=by
 refine Ct.of O7 rfl fun h r=>Tr.eq (D00 ..) ?_;refine Je ?_
 intro o
 obtain ⟨u,o1⟩:=Own.unfold (cmC c k F X) o
 have f:=(Own.front o1 (i:=2) rfl).pure
 have e:Ge5 X=lookN F.caps.length X:=by unfold Ge5;rw [f.mlen ok]
 rw [e]
 refine (?_:Tr _ _ _ _) o
 refine Yr (Hs1 c k F ok 8 0 X (by omega) (by omega)) ?_
 rintro _ h ⟨rfl,o⟩
 exact ⟨rfl,o⟩
end Go.EQ
