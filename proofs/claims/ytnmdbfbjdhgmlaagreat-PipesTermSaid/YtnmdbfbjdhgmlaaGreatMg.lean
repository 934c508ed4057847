/- What is typed is read, in order, by the front group alone; the front goes to a group that is there, given by the front group alone; no conditions. -/
import Derived.Test.YtnmdbfbjdhgmlaaGreatMf
set_option linter.all false
set_option maxRecDepth 10000
namespace Go.EQ
open Go Go.NN
theorem U5 (l:List UInt8):(A0 l).length=l.length:=by simp [A0]
theorem D94 {l:List UInt8} {i:Nat} {x:UInt8} (h:l[i]?=some x):(A0 l)[i]?=some (.int .u8 x.toNat):=by
 unfold A0;rw [List.getElem?_map,h];rfl
theorem Gn8 (l:List UInt8) (x:Nat):(A0 l).take x=A0 (l.take x):=by unfold A0;rw [List.map_take]
theorem Is4 (l m:List UInt8):A0 (l++m)=A0 l++A0 m:=by simp [A0]
def Eh9 (n:Int) (l:List UInt8):Int:=l.foldl (fun n c=>IntKind.wrap .u8 (n+c.toNat)) n
def Gr0 (l:List UInt8):Int:=Eh9 (IntKind.wrap .u8 l.length) l
theorem Ia0 (p:HP) (a:Option Addr) (ro:Bool) (n c d:Nat) (l:List UInt8) [ks:IsSl p a ro A5 1 n c (A0 l)] (x:Nat) (hx:x≤l.length) (hl:l.length≤B1):∀ (m i:Nat) (acc:Int),x-i=m→i≤x →
  V2 H3 Aa7 Bl0 [(3,.int .u8 acc),(9,.slice a x d),(10,int x),(11,int i)] [p] (.int .u8 (Eh9 acc ((l.take x).drop i))):=by
 intro m
 induction m with
 | zero =>
  intro i acc hm hi
  refine V2.of D29 fun h r=>Tr.eq (D79 ..) ?_;refine Je ?_
  refine Yf (by simp;omega) ?_
  refine Ys fun o=>?_
  rw [List.drop_eq_nil_of_le (by simp;omega)];exact ⟨rfl,rfl⟩
 | succ m ih =>
  intro i acc hm hi
  have hlt:i<(l.take x).length:=by rw [List.length_take];omega
  have hp:l[i]?=some (l.take x)[i]:=by
   rw [List.getElem_take];exact List.getElem?_eq_getElem (by omega)
  have hd:(l.take x).drop i=(l.take x)[i]::(l.take x).drop (i+1):=List.drop_eq_getElem_cons hlt
  generalize (l.take x)[i]=y at hp hd
  have e1:IntKind.wrap .i64 ((i:Int)+1)=((i+1:Nat):Int):=by rw [B0];simp only [B1] at hl;omega
  refine V2.of D29 fun h r=>Tr.eq (D79 ..) ?_;refine Je ?_
  refine Yt (by simp;omega) ?_
  refine P6 0 rfl fun h1 h2 h3=>?_
  rw [U5] at h1
  (refine Ja ?_;unhygienic intros;repeat(refine Gw ?_;rintro px rfl;refine Ja ?_;unhygienic intros))
  refine Tr.xIntS (v:=y.toNat) (by simpa using D94 hp) ?_
  rw [e1,hd]
  exact Z8 (ih (i+1) _ (by omega) (by omega)) (r:=r) (by simp) fun o=>⟨rfl,rfl⟩
theorem Gd4 (p:HP) (a:Option Addr) (ro:Bool) (n c d:Nat) (l:List UInt8) [ks:IsSl p a ro A5 1 n c (A0 l)] (x:Nat) (hx:x≤l.length) (hl:l.length≤B1) :
  CtP A9 Aa7 [.slice a x d] [p] (.int .u8 (Gr0 (l.take x))):=by
 refine CtP.of D29 rfl fun h r=>Tr.eq (Hn6 ..) ?_;refine Je ?_
 have e:(l.take x).length=x:=by rw [List.length_take];omega
 have J:=Ia0 p a ro n c d l x hx hl _ 0 (IntKind.wrap .u8 x) rfl (by omega)
 rw [List.drop_zero] at J
 refine Z8 J (r:=r) (by simp) fun o=>⟨?_,rfl⟩
 unfold Gr0;rw [e]
def Dy1:Nat→List UInt8→Int
 | _,[]=>-1
 | i,x::l=>if x≠0 then i else Dy1 (i+1) l
theorem Gw6:∀ (l:List UInt8) (i:Nat),decide (Dy1 i l≥0)=!l.all (·==0)
 | [],i=>by simp [Dy1]
 | x::l,i=>by
  unfold Dy1
  by_cases h:x=0
  ·rw [if_neg (by simp [h]),Gw6 l (i+1)];simp [h]
  ·rw [if_pos h];simp [h]
theorem Iu9 (x:UInt8):CtP A9 Ag2 [.int .u8 x.toNat] [] (.bool (x != 0)):=by
 refine CtP.of Gf5 rfl fun h r=>Tr.eq (Gi2 ..) ?_;refine Je ?_
 refine Ys fun o=>?_
 refine ⟨?_,rfl⟩
 congr 1
 have:((x.toNat:Int)=0)↔x=0:=by
  constructor
  ·intro h;exact UInt8.toNat.inj (by simpa using (show x.toNat=0 by omega))
  ·rintro rfl;rfl
 by_cases h:x=0
 ·subst h;rfl
 ·rw [bne_iff_ne.2 h,bne_iff_ne];intro h2;exact h (this.1 h2)
theorem E87 (p:HP) (a:Option Addr) (ro:Bool) (c:Nat) (l:List UInt8) [ks:IsSl p a ro A5 1 l.length c (A0 l)] (hl:l.length≤B1):∀ (m i:Nat),l.length-i=m→i≤l.length →
  V2 H3 G2 Q2 [(0,.slice a l.length c),(1,.func (.func Ag2) ⟨[]⟩ ⟨[]⟩),(7,int l.length),(8,int i)] [p] (int (Dy1 i (l.drop i))):=by
 intro m
 induction m with
 | zero =>
  intro i hm hi
  refine V2.of Ag3 fun h r=>Tr.eq (Ar3 ..) ?_;refine Je ?_
  refine Yf (by simp;omega) ?_
  refine Ys fun o=>?_
  rw [List.drop_eq_nil_of_le (by omega)];exact ⟨rfl,rfl⟩
 | succ m ih =>
  intro i hm hi
  have hlt:i<l.length:=by omega
  have hp:l[i]?=some l[i]:=List.getElem?_eq_getElem hlt
  have hd:l.drop i=l[i]::l.drop (i+1):=List.drop_eq_getElem_cons hlt
  generalize l[i]=x at hp hd
  have e1:IntKind.wrap .i64 ((i:Int)+1)=((i+1:Nat):Int):=by rw [B0];simp only [B1] at hl;omega
  refine V2.of Ag3 fun h r=>Tr.eq (Ar3 ..) ?_;refine Je ?_
  refine Yt (by simp;omega) ?_
  (refine Ja ?_;unhygienic intros;repeat(refine Gw ?_;rintro px rfl;refine Ja ?_;unhygienic intros))
  refine Tr.xIntS (v:=x.toNat) (by simpa using D94 hp) ?_
  (refine Ja ?_;unhygienic intros)
  refine Bx9 (Iu9 x) (r:=p::r) (by simp) ?_
  by_cases hx:x=0
  ·have:(x != 0)=false:=by simp [hx]
   rw [this]
   (refine Ja ?_;unhygienic intros)
   rw [e1]
   refine Z8 (ih (i+1) (by omega) (by omega)) (r:=r) (by simp) fun o=>?_
   rw [hd,Dy1,if_neg (by simp [hx])];exact ⟨by first|rfl|trivial,by first|rfl|trivial⟩
  ·have:(x != 0)=true:=by simp [hx]
   rw [this]
   (refine Ja ?_;unhygienic intros)
   refine Ys fun o=>?_
   rw [hd,Dy1,if_pos hx];exact ⟨by first|rfl|trivial,by first|rfl|trivial⟩
theorem If9 (p:HP) (a:Option Addr) (ro:Bool) (c:Nat) (l:List UInt8) [ks:IsSl p a ro A5 1 l.length c (A0 l)] (hl:l.length≤B1) :
  CtP A9 Am3 [.slice a l.length c] [p] (.bool (l.all (·==0))):=by
 have j:CtP A9 G2 [.slice a l.length c,.func (.func Ag2) ⟨[]⟩ ⟨[]⟩] [p] (int (Dy1 0 l)):=by
  refine CtP.of Ag3 rfl fun h r=>Tr.eq (B02 ..) ?_;refine Je ?_
  exact Z8 (E87 p a ro c l hl _ 0 rfl (by omega)) (r:=r) (by simp) fun o=>⟨rfl,rfl⟩
 have j2:CtP A9 Q1 [.slice a l.length c,.func (.func Ag2) ⟨[]⟩ ⟨[]⟩] [p] (.bool (!l.all (·==0))):=by
  refine CtP.of Br0 rfl fun h r=>Tr.eq (Bp2 ..) ?_;refine Je ?_
  refine Bx9 j (r:=r) (by simp) ?_
  (refine Ja ?_;unhygienic intros)
  refine Ys fun o=>?_
  rw [Gw6];exact ⟨by first|rfl|trivial,by first|rfl|trivial⟩
 refine CtP.of Gy3 rfl fun h r=>Tr.eq (G05 ..) ?_;refine Je ?_
 refine Bx9 j2 (r:=r) (by simp) ?_
 (refine Ja ?_;unhygienic intros)
 refine Ys fun o=>?_
 exact ⟨by simp,rfl⟩
theorem Ha1 (p q:HP) (a:Option Addr) (ro:Bool) (c:Nat) (a2:Option Addr) (ro2:Bool) (c2:Nat) (l m:List UInt8) [ks:IsSl p a ro A5 1 l.length c (A0 l)] [ks2:IsSl q a2 ro2 A5 1 m.length c2 (A0 m)] (hl:l.length≤B1) (hlm:m.length=l.length):∀ (k i:Nat),l.length-i=k→i≤l.length →
  V2 H3 D6 V5 [(0,.slice a l.length c),(1,.slice a2 m.length c2),(12,int l.length),(13,int i)] [p,q] (.bool (decide (l.drop i=m.drop i))):=by
 intro k
 induction k with
 | zero =>
  intro i hm hi
  refine V2.of Am6 fun h r=>Tr.eq (A16 ..) ?_;refine Je ?_
  refine Yf (by simp;omega) ?_
  refine Ys fun o=>?_
  rw [List.drop_eq_nil_of_le (by omega),List.drop_eq_nil_of_le (by omega)];exact ⟨rfl,rfl⟩
 | succ k ih =>
  intro i hm hi
  have hlt:i<l.length:=by omega
  have hp:l[i]?=some l[i]:=List.getElem?_eq_getElem hlt
  have hd:l.drop i=l[i]::l.drop (i+1):=List.drop_eq_getElem_cons hlt
  have hlt2:i<m.length:=by omega
  have hp2:m[i]?=some m[i]:=List.getElem?_eq_getElem hlt2
  have hd2:m.drop i=m[i]::m.drop (i+1):=List.drop_eq_getElem_cons hlt2
  generalize l[i]=x at hp hd
  generalize m[i]=y at hp2 hd2
  have e1:IntKind.wrap .i64 ((i:Int)+1)=((i+1:Nat):Int):=by rw [B0];simp only [B1] at hl;omega
  refine V2.of Am6 fun h r=>Tr.eq (A16 ..) ?_;refine Je ?_
  refine Yt (by simp;omega) ?_
  (refine Ja ?_;unhygienic intros;repeat(refine Gw ?_;rintro px rfl;refine Ja ?_;unhygienic intros))
  refine Tr.xIntS (v:=x.toNat) (by simpa using D94 hp) ?_
  (refine Ja ?_;unhygienic intros;repeat(refine Gw ?_;rintro px rfl;refine Ja ?_;unhygienic intros))
  refine Tr.xIntS (v:=y.toNat) (by simpa using D94 hp2) ?_
  by_cases hx:x=y
  ·subst hx
   refine Yf (by simp) ?_
   rw [e1]
   refine Z8 (ih (i+1) (by omega) (by omega)) (r:=r) (by simp) fun o=>?_
   rw [hd,hd2];exact ⟨by simp,rfl⟩
  ·refine Yt (by rw [bne_iff_ne];intro h2;exact hx (UInt8.toNat.inj (by omega))) ?_
   refine Ys fun o=>?_
   rw [hd,hd2];exact ⟨by simp [hx],rfl⟩
theorem Ew2 (p q:HP) (a:Option Addr) (ro:Bool) (c:Nat) (a2:Option Addr) (ro2:Bool) (c2:Nat) (l m:List UInt8) [ks:IsSl p a ro A5 1 l.length c (A0 l)] [ks2:IsSl q a2 ro2 A5 1 m.length c2 (A0 m)] (hl:l.length≤B1) :
  CtP A9 D6 [.slice a l.length c,.slice a2 m.length c2] [p,q] (.bool (decide (l=m))):=by
 refine CtP.of Am6 rfl fun h r=>Tr.eq (Df6 ..) ?_;refine Je ?_
 by_cases h:m.length=l.length
 ·refine Yf (by simp [h]) ?_
  have J:=Ha1 p q a ro c a2 ro2 c2 l m hl h _ 0 rfl (by omega)
  simp only [List.drop_zero] at J
  exact Z8 J (r:=r) (by simp) fun o=>⟨rfl,rfl⟩
 ·refine Yt (by rw [bne_iff_ne];omega) ?_
  refine Ys fun o=>?_
  exact ⟨by rw [decide_eq_false (fun e=>h (by rw [e]))],rfl⟩
theorem H43 (p:HP) (ro:Bool) (a:Option Addr) (c:Nat) (l:List UInt8) [ks:IsSl p a ro A5 1 l.length c (A0 l)] (hn:l.length≤B1) :
  Ct A9 G6 [.slice a l.length c] [p] fun v own=>∃ a' c',v=.slice a' l.length c'∧own [slC false A5 1 a' l.length c' (A0 l),p]:=by
 refine Ct.of Bc0 rfl fun h r=>Tr.eq (Bb5 ..) ?_;refine Je ?_
 refine P6 0 rfl fun hl hc _=>?_
 refine Tr.cond (fun hb=>?_) fun hb=>?_
 ·obtain rfl:a=none:=by simpa using hb
  refine G7 false A5 1 (by omega) ?_
  intro o
  have o1:=(o.tail.head ks.en).slNone
  obtain rfl:l=[]:=by
   have:=o1.2.2.1
   cases l with
   | nil=>rfl
   | cons x l=>simp [A0] at this
  obtain rfl:c=0:=o1.2.1
  exact ⟨_,_,rfl,none,0,rfl,o⟩
 ·(refine Ja ?_;unhygienic intros)
  refine Aj7 0 rfl 1 0 rfl (by omega) ?_;refine Je ?_
  (refine Ja ?_;unhygienic intros)
  refine Tr.xApd ⟨by simp [A0],by simp [A0,Value.oneCell],by omega⟩ fun a' c' h'=>?_
  refine Je ?_
  refine Ys fun o=>⟨a',c',by simp,by simpa using o⟩
end Go.EQ
namespace Go.NN
section
variable {l:List HP} {h:H} {α:Type} {Q:α→H→Prop} {ro:Bool} {e:TypeId} {cs:List Value}
instance {f:Fn} {a c:Array Value} {k:Option α}:Dx (one (.func f a c) k) k:=⟨rfl⟩
theorem Tr.xPCells {a:Option Addr} {n c sz:Nat} {vs cs':List Value} {l':List HP} {k:H→Option (α × H)} [k1:LkO l a false e sz n c cs] (hn:0<n) (hj:vs≠[]∧vs.length≤cs.length∧vs.all Value.oneCell=true∧vs++cs.drop vs.length=cs') [k2:UpO l a (slC false e sz a n c cs') e sz n c cs l'] (t:∀ h',Tr l' h' (k h') Q):Tr l h (NN.pCells a vs h k) Q:=fun ow=>by
 obtain ⟨i,p,hi,hp⟩:=k1.ix
 obtain ⟨y,rfl⟩:=((ow.front hi).head hp).slSome hn
 have:NN.pCells (Option.some y) vs h k=NN.pAgg ((B6 y).add 0) vs h k:=by
  show NN.pAgg (B6 y) vs h k=_
  congr 1
 rw [this]
 exact Tr.xPAggS (k1:=k1) ⟨hj.1,by omega,hj.2.2.1,by simpa using hj.2.2.2⟩ (k2:=k2) t ow
end
end Go.NN

set_option maxRecDepth 10000
namespace Go.EQ
open Go Go.NN
def b8 (x:Int):UInt8:=UInt8.ofNat (x%256).toNat
theorem Dk2 (x:Int):IntKind.wrap .u8 x=x%256:=Ih7 x
theorem Bg8 (x:Int):IntKind.wrap .u8 x=((b8 x).toNat:Int):=by
 rw [Dk2,b8,UInt8.toNat_ofNat']
 omega
def Bv4 (l:List UInt8):UInt8:=b8 (Gr0 l)
theorem Hb1:∀ (l:List UInt8) (n:Int),0≤n∧n<256→0≤Eh9 n l∧Eh9 n l<256
 | [],n,h=>h
 | x::l,n,h=>Hb1 l _ (by show 0≤IntKind.wrap .u8 (n+x.toNat)∧IntKind.wrap .u8 (n+x.toNat)<256;rw [Dk2];omega)
theorem Du1 (l:List UInt8):Gr0 l=((Bv4 l).toNat:Int):=by
 have:=Hb1 l (IntKind.wrap .u8 l.length) (by rw [Dk2];omega)
 unfold Bv4
 rw [← Bg8,Dk2]
 unfold Gr0 at *;omega
structure FileS where
 kind:Int
 pipe:Int
 refs:Int
 flags:Int
abbrev FileS.zero:FileS:=⟨0,0,0,0⟩
abbrev Ae0 (f:FileS):List Value:=[int f.kind,int f.pipe,int f.refs,int f.flags]
def okF (f:FileS):Bool:=decide (f.kind≥1) && decide (f.kind≤3) && decide (f.pipe≥0) && decide (f.pipe≤7) && (f.kind != 3 || f.pipe==0) && decide (f.refs≥1) && decide (f.refs≤64) && (f.flags==0 || f.flags==1)
def A83 (f:FileS):List UInt8:=[b8 f.kind,b8 f.pipe,b8 f.refs,b8 f.flags,179]
def Ai9 (f:FileS):List UInt8:=A83 f++[Bv4 (A83 f),0,0]
theorem It2 (f:FileS):Ct A9 Dn1 [.agg ⟨Ae0 f⟩] [] fun v own=>v=.bool (okF f)∧own []:=by
 refine Ct.of Ht2 rfl fun h r=>Tr.eq (Hx0 ..) ?_;refine Je ?_
 (refine Ja ?_;unhygienic intros)
 refine Ys fun o=>?_
 refine ⟨?_,o.sub⟩
 rfl
theorem Ik7 (a:Option Addr) (c:Nat) (f:FileS):Ct A9 Ar1 [.agg ⟨Ae0 f⟩,.slice a 8 c] [slC false A5 1 a 8 c (A0 (List.replicate 8 0))] fun v own=>v=.bool (okF f)∧own [slC false A5 1 a 8 c (A0 (if okF f then Ai9 f else List.replicate 8 0))]:=by
 refine Ct.of Hl2 rfl fun h r=>Tr.eq (Hj7 ..) ?_;refine Je ?_
 (refine Ja ?_;unhygienic intros)
 refine Yc (It2 f) ?_;rintro _ h ⟨rfl,o⟩<;>(refine Jf o ?_;unhygienic intros)
 cases hk:okF f with
 | false =>
  (refine Ja ?_;unhygienic intros)
  refine Ys fun o=>?_
  rw [if_neg (by simp)]
  exact ⟨rfl,o.sub⟩
 | true =>
  (refine Ja ?_;unhygienic intros)
  simp only [Bg8,List.drop_zero,List.take]
  refine P6 2 rfl fun hl hc _=>?_
  refine Tr.xPCells (cs':=A0 (A83 f++[0,0,0])) (by omega) ⟨by simp,by simp [A0],by simp [Value.oneCell],rfl⟩ fun h=>?_
  (refine Ja ?_;unhygienic intros)
  refine Tr.pcall (Gd4 (slC false A5 1 a 8 c (A0 (A83 f++[0,0,0]))) a false 8 c c (A83 f++[0,0,0]) 5 (by simp [A83]) (by simp [A83,B1])) ?_
  refine Je ?_
  (refine Ja ?_;unhygienic intros;repeat(refine Gw ?_;rintro px rfl;refine Ja ?_;unhygienic intros))
  rw [show List.take 5 (A83 f++[0,0,0]:List UInt8)=A83 f from rfl,Du1]
  refine Tr.xVS (cs':=A0 (Ai9 f)) ⟨by simp [A0,A83],rfl,rfl⟩ fun h=>?_
  refine Ys fun o=>?_
  simp only [if_true]
  exact ⟨trivial,o.sub⟩
theorem Dx3 {l:List Value} (h:l.all (fun v=>match v with|.int _ _=>true|_=>false)=true):Ap8 (.agg ⟨l⟩) (.agg ⟨l⟩)=true:=by
 show Bs7 l l=true
 induction l with
 | nil=>rfl
 | cons v l ih =>
  simp only [List.all_cons,Bool.and_eq_true] at h
  show (A26 v v && Bs7 l l)=true
  rw [ih h.2,Bool.and_true]
  cases v<;>first|(simp [A26];done)|exact absurd h.1 (by simp)
abbrev Hc7 (k:Nat):HP:=pt k (.cells Ak2 false [int 8,.func (.func Ar1) ⟨[]⟩ ⟨[]⟩,.func (.func Ar6) ⟨[]⟩ ⟨[]⟩])
theorem Hn1 (k:Nat) (f:FileS):Ct A9 V7 [P0 k,.agg ⟨Ae0 f⟩] [Hc7 k] fun v own=>(okF f=true∧∃ a,v=.tuple ⟨[.slice a 8 8,.bool true]⟩∧own [Hc7 k,slC false A5 1 a 8 8 (A0 (Ai9 f))])∨(okF f=false∧v=.tuple ⟨[.slice none 0 0,.bool false]⟩∧own [Hc7 k]):=by
 refine Ct.of B56 rfl fun h r=>Tr.eq (B59 ..) ?_;refine Je ?_
 (refine Ja ?_;unhygienic intros)
 refine Tr.ck ⟨by omega,by omega,by simp [B1]⟩ ?_
 refine Yn fun b1 h=>?_
 rw [show I7 (Int.toNat 8) [.int .u8 0]=A0 (List.replicate 8 0) from rfl]
 refine Aj7 0 rfl 1 8 rfl (by omega) ?_
 simp only [List.set_cons_zero]
 refine Je ?_
 (refine Jb ?_;unhygienic intros)
 refine Yb (Yf rfl ?_)
 (refine Jb ?_;unhygienic intros)
 refine Yc (Ik7 (some ⟨b1,0,none⟩) 8 f) ?_;rintro _ h ⟨rfl,o⟩<;>(refine Jg o ?_;unhygienic intros)
 refine Ys fun o=>(?_:Tr _ _ _ _) o;refine Je ?_
 cases hk:okF f with
 | false =>
  (refine Ja ?_;unhygienic intros)
  refine Ys fun o=>?_
  exact .inr ⟨rfl,rfl,o.sub⟩
 | true =>
  (refine Ja ?_;unhygienic intros)
  refine Ys fun o=>?_
  simp only [if_true] at o
  exact .inl ⟨rfl,_,rfl,o.sub⟩
theorem Im2:Ct A9 An5 [int 8,.func (.func Ar1) ⟨[]⟩ ⟨[]⟩,.func (.func Ar6) ⟨[]⟩ ⟨[]⟩] [] fun v own=>∃ k,v=P0 k∧own [pt k (.cells Ak2 false [int 8,.func (.func Ar1) ⟨[]⟩ ⟨[]⟩,.func (.func Ar6) ⟨[]⟩ ⟨[]⟩])]:=by
 refine Ct.of Eg9 rfl fun h r=>Tr.eq (Ed6 ..) ?_;refine Je ?_
 rw [show mm2 false (mm2 true 8 0) 64=8 from rfl]
 (refine Ja ?_;unhygienic intros)
 refine Ys fun o=>?_
 exact ⟨_,rfl,o.sub⟩
theorem Gu5:Ct A9 Bb8 [] [] fun v own=>∃ k,v=P0 k∧own [pt k (.cells Ak2 false [int 8,.func (.func Ar1) ⟨[]⟩ ⟨[]⟩,.func (.func Ar6) ⟨[]⟩ ⟨[]⟩])]:=by
 refine Ct.of Gy4 rfl fun h r=>Tr.eq (Gx4 ..) ?_;refine Je ?_
 refine Yc (Im2) ?_;rintro _ h ⟨k,rfl,o⟩<;>(refine Jf o ?_;unhygienic intros)
 refine Ys fun o=>?_
 exact ⟨_,rfl,o.sub⟩
theorem Ge1 (f:FileS):Ct A9 A43 [.agg ⟨Ae0 f⟩] [] fun v own=>(okF f=true∧∃ a,v=.tuple ⟨[.slice a 8 8,.bool true]⟩∧own [slC false A5 1 a 8 8 (A0 (Ai9 f))])∨(okF f=false∧v=.tuple ⟨[.slice none 0 0,.bool false]⟩∧own []):=by
 refine Ct.of Gn7 rfl fun h r=>Tr.eq (Gm6 ..) ?_;refine Je ?_
 (refine Ja ?_;unhygienic intros)
 refine Yc (Gu5) ?_;rintro _ h ⟨k,rfl,o⟩<;>(refine Jf o ?_;unhygienic intros)
 refine Tr.same (Dx3 rfl) ?_
 refine Yc (Hn1 k f) ?_
 rintro v h (⟨hk,a,rfl,o⟩|⟨hk,rfl,o⟩)
 ·refine (?_:Tr _ _ _ _) o
  refine Je ?_
  (refine Ja ?_;unhygienic intros)
  refine Ys fun o=>?_
  exact .inl ⟨hk,a,rfl,o.sub⟩
 ·refine (?_:Tr _ _ _ _) o
  refine Je ?_
  (refine Ja ?_;unhygienic intros)
  refine Ys fun o=>?_
  exact .inr ⟨hk,rfl,o.sub⟩
theorem Ad7 {l:List UInt8} {i:Nat} (h:i<l.length):(A0 l)[i]?=some (.int .u8 ((l.getD i 0).toNat:Int)):=by
 rw [List.getD_eq_getElem?_getD,List.getElem?_eq_getElem h];exact D94 (List.getElem?_eq_getElem h)
theorem Am9 (x:UInt8):IntKind.wrap .i64 (x.toNat:Int)=(x.toNat:Int):=by
 have:=x.toNat_lt;rw [B0];omega
abbrev byI (l:List UInt8) (i:Nat):Int:=((l.getD i 0).toNat:Int)
def B77 (l:List UInt8):FileS:=⟨byI l 0,byI l 1,byI l 2,byI l 3⟩
def isF (l:List UInt8):Bool:=okF (B77 l) && decide (Ai9 (B77 l)=l)
theorem Il8 (a:Option Addr) (c:Nat) (l:List UInt8) (hl:l.length=8):Ct A9 Ar6 [.slice a 8 c] [slC false A5 1 a 8 c (A0 l)] fun v own=>v=.tuple ⟨[.agg ⟨Ae0 (B77 l)⟩,.bool (isF l)]⟩∧own [slC false A5 1 a 8 c (A0 l)]:=by
 have key:∀ a1:Option Addr,CtP A9 D6 [.slice a1 8 8,.slice a 8 c] [slC false A5 1 a1 8 8 (A0 (Ai9 (B77 l))),slC false A5 1 a 8 c (A0 l)] (.bool (decide (Ai9 (B77 l)=l))):=fun a1=>by
  have J:=Ew2 (slC false A5 1 a1 8 8 (A0 (Ai9 (B77 l)))) (slC false A5 1 a l.length c (A0 l)) a1 false 8 a false c (Ai9 (B77 l)) l (by simp [Ai9,A83,B1])
  rwa [hl,show (Ai9 (B77 l)).length=8 from rfl] at J
 refine Ct.of Hh6 rfl fun h r=>Tr.eq (Hn5 ..) ?_;refine Je ?_
 refine Yn fun b1 h=>?_
 (refine Ja ?_;unhygienic intros;repeat(refine Gw ?_;rintro px rfl;refine Ja ?_;unhygienic intros))
 refine Tr.xIntS (v:=byI l 0) (Ad7 (by omega)) ?_
 (refine Ja ?_;unhygienic intros)
 refine Tr.xIntS (v:=byI l 1) (Ad7 (by omega)) ?_
 (refine Ja ?_;unhygienic intros)
 refine Tr.xIntS (v:=byI l 2) (Ad7 (by omega)) ?_
 (refine Ja ?_;unhygienic intros)
 refine Tr.xIntS (v:=byI l 3) (Ad7 (by omega)) ?_
 simp only [byI,Am9]
 refine Yn fun b2 h=>?_
 (refine Jb ?_;unhygienic intros)
 refine Yc (Ge1 (B77 l)) ?_
 rintro v h (⟨hk,a1,rfl,o⟩|⟨hk,rfl,o⟩)
 ·refine (?_:Tr _ _ _ _) o
  refine Je ?_
  (refine Jb ?_;unhygienic intros)
  refine Yb (Yt rfl ?_)
  refine Tr.pcall (key a1) ?_;refine Je ?_;(refine Jb ?_;unhygienic intros)
  refine Tr.same (Dx3 rfl) ?_
  refine Ys fun o=>(?_:Tr _ _ _ _) o;refine Je ?_
  (refine Ja ?_;unhygienic intros)
  refine Ys fun o=>?_
  exact ⟨by unfold isF;rw [hk,Bool.true_and];rfl,o.sub⟩
 ·refine (?_:Tr _ _ _ _) o
  refine Je ?_
  (refine Ja ?_;unhygienic intros)
  refine Ys fun o=>?_
  exact ⟨by unfold isF;rw [hk];rfl,o.sub⟩
theorem Ep2 (n:Nat) (a:Option Addr) (c:Nat) (l:List UInt8) (hl:l.length=n) (hn:n≤B1):Ct A9 G6 [.slice a n c] [slC false A5 1 a n c (A0 l)] fun v own=>∃ a' c',v=.slice a' n c'∧own [slC false A5 1 a' n c' (A0 l),slC false A5 1 a n c (A0 l)]:=by
 subst hl;exact H43 (slC false A5 1 a l.length c (A0 l)) false a c l hn
theorem Ev4 (n:Nat) (a:Option Addr) (c:Nat) (l:List UInt8) (hl:l.length=n) (hn:n≤B1):CtP A9 Am3 [.slice a n c] [slC false A5 1 a n c (A0 l)] (.bool (l.all (·==0))):=by
 subst hl;exact If9 (slC false A5 1 a l.length c (A0 l)) a false c l hn
theorem Ho0 (k:Nat) (a:Option Addr) (c:Nat) (l:List UInt8) (hl:l.length=8):Ct A9 V6 [P0 k,.slice a 8 c] [Hc7 k,slC false A5 1 a 8 c (A0 l)] fun v own=>v=.tuple ⟨[.agg ⟨Ae0 (if isF l then B77 l else .zero)⟩,.bool (isF l)]⟩∧own [Hc7 k,slC false A5 1 a 8 c (A0 l)]:=by
 refine Ct.of B48 rfl fun h r=>Tr.eq (B53 ..) ?_;refine Je ?_
 (refine Ja ?_;unhygienic intros)
 refine Yf rfl ?_
 (refine Jb ?_;unhygienic intros)
 refine Yc (Ep2 8 a c l hl (by simp [B1])) ?_;rintro _ h ⟨a1,c1,rfl,o⟩<;>(refine Jg o ?_;unhygienic intros)
 refine Yc (Il8 a1 c1 l hl) ?_;rintro _ h ⟨rfl,o⟩<;>(refine Jg o ?_;unhygienic intros)
 cases hk:isF l with
 | false =>
  (refine Ja ?_;unhygienic intros)
  refine Ys fun o=>?_
  exact ⟨rfl,o.sub⟩
 | true =>
  (refine Ja ?_;unhygienic intros)
  refine Ys fun o=>?_
  exact ⟨rfl,o.sub⟩
def Z0 (l:List UInt8):FileS × Int:=if l.all (·==0) then (.zero,0) else if isF l then (B77 l,1) else (.zero,2)
theorem Hy5 (a:Option Addr) (c:Nat) (l:List UInt8) (hl:l.length=8):Ct A9 A47 [.slice a 8 c] [slC false A5 1 a 8 c (A0 l)] fun v own=>v=.tuple ⟨[.agg ⟨Ae0 (Z0 l).1⟩,int (Z0 l).2]⟩∧own [slC false A5 1 a 8 c (A0 l)]:=by
 refine Ct.of Gm0 rfl fun h r=>Tr.eq (Go5 ..) ?_;refine Je ?_
 refine Yn fun b1 h=>?_
 refine Yb (Yt rfl ?_)
 refine Tr.pcall (Ev4 8 a c l hl (by simp [B1])) ?_;refine Je ?_;(refine Jb ?_;unhygienic intros)
 refine Ys fun o=>(?_:Tr _ _ _ _) o;refine Je ?_
 cases hb:l.all (·==0) with
 | true =>
  (refine Ja ?_;unhygienic intros)
  refine Ys fun o=>?_
  exact ⟨by unfold Z0;rw [hb];rfl,o.sub⟩
 | false =>
  (refine Jb ?_;unhygienic intros)
  refine Yc (Gu5) ?_;rintro _ h ⟨k,rfl,o⟩<;>(refine Jg o ?_;unhygienic intros)
  refine Yc (Ho0 k a c l hl) ?_;rintro _ h ⟨rfl,o⟩<;>(refine Jg o ?_;unhygienic intros)
  cases hk:isF l with
  | false =>
   (refine Ja ?_;unhygienic intros)
   refine Ys fun o=>?_
   exact ⟨by unfold Z0;rw [hb,hk];rfl,o.sub⟩
  | true =>
   (refine Ja ?_;unhygienic intros)
   refine Ys fun o=>?_
   exact ⟨by unfold Z0;rw [hb,hk];rfl,o.sub⟩
structure PipeS where
 head:Int
 count:Int
 readers:Int
 writers:Int
 data:List UInt8
 len:data.length=32
abbrev PipeS.zero:PipeS:=⟨0,0,0,0,List.replicate 32 0,rfl⟩
abbrev E6 (p:PipeS):List Value:=int p.head::int p.count::int p.readers::int p.writers::A0 p.data
theorem W2 {p:PipeS} (hd:p.data.length=32):(E6 p).length=36:=by simp [E6,U5,hd]
theorem Hw2 {p:PipeS} (hd:p.data.length=32):4+32≤(E6 p).length∧((E6 p).drop 4).take 32=A0 p.data:=⟨by rw [W2 hd];exact Nat.le_refl _,by
 rw [show (E6 p).drop 4=A0 p.data from rfl,List.take_of_length_le (by rw [U5,hd];exact Nat.le_refl _)]⟩
theorem Gv2 (p:PipeS):(E6 p).all Value.oneCell=true:=by simp [E6,Ag4,Value.oneCell]
theorem Hx5 (p:PipeS):Ap8 (.agg ⟨E6 p⟩) (.agg ⟨E6 p⟩)=true:=Dx3 (by simp [E6,A0])
instance {p:PipeS}:LenC (E6 p) 36:=⟨W2 p.len⟩
instance {p:PipeS}:PartC (E6 p) 0 36 (E6 p):=⟨Bi5 (W2 p.len)⟩
instance {p:PipeS} {cs:List Value} [k:LenC cs 36]:SetsC cs 0 (E6 p) (E6 p):=⟨Bk0 k.ok (W2 p.len) (Gv2 p)⟩
instance {p:PipeS}:SameC (.agg ⟨E6 p⟩):=⟨Hx5 p⟩
def okP (p:PipeS):Bool:=decide (0≤p.head∧p.head≤31) && decide (0≤p.count∧p.count≤32) && decide (0≤p.readers∧p.readers≤8) && decide (0≤p.writers∧p.writers≤8)
def Ah7 (p:PipeS):List UInt8:=[1,b8 p.head,b8 p.count,b8 p.readers,b8 p.writers,197]
def I1 (p:PipeS):List UInt8:=Ah7 p++Bv4 (Ah7 p)::0::p.data
theorem As9 {p:PipeS} (hd:p.data.length=32):(I1 p).length=40:=by simp [I1,Ah7,hd]
theorem It7 (n m:Int):CtP A9 Ar5 [int n,int m] [] (.bool (decide (0≤n∧n≤m))):=by
 refine CtP.of Hl4 rfl fun h r=>Tr.eq (Hn4 ..) ?_;refine Je ?_
 (refine Ja ?_;unhygienic intros)
 refine Ys fun o=>?_
 refine ⟨?_,rfl⟩
 refine congrArg Value.bool ?_;rw [Bool.eq_iff_iff];simp only [Bool.and_eq_true,Bool.or_eq_true,Bool.not_eq_true',Bool.not_eq_false',decide_eq_true_eq,decide_eq_false_iff_not,bne_iff_ne,beq_iff_eq,ne_eq,B0,Aa6,S7,ge_iff_le,gt_iff_lt];first|done|omega
instance {n m:Int} {l:List HP}:PCi A9 Ar5 [.int .i64 n,.int .i64 m] l (.bool (decide (0≤n∧n≤m))):=PCi.of (It7 n m)
theorem Ha0 (p:PipeS):Ct A9 Bw7 [.agg ⟨E6 p⟩] [] fun v own=>v=.bool (okP p)∧own []:=by
 refine Ct.of H61 rfl fun h r=>Tr.eq (H97 ..) ?_;refine Je ?_
 (refine Ja ?_;unhygienic intros)
 refine Ys fun o=>?_
 exact ⟨rfl,o.sub⟩
theorem Im8 (a:Option Addr) (c:Nat) (p:PipeS):Ct A9 Bm3 [.agg ⟨E6 p⟩,.slice a 40 c] [slC false A5 1 a 40 c (A0 (List.replicate 40 0))] fun v own=>v=.bool (okP p)∧own [slC false A5 1 a 40 c (A0 (if okP p then I1 p else List.replicate 40 0))]:=by
 have hd:=p.len
 refine Ct.of Hy7 rfl fun h r=>Tr.eq (H08 ..) ?_;refine Je ?_
 refine Yn fun b1 h=>?_
 (refine Ja ?_;unhygienic intros)
 refine Yc (Ha0 p) ?_;rintro _ h ⟨rfl,o⟩<;>(refine Jg o ?_;unhygienic intros)
 cases hk:okP p with
 | false =>
  (refine Ja ?_;unhygienic intros)
  refine Ys fun o=>?_
  rw [if_neg (by simp)]
  exact ⟨rfl,o.sub⟩
 | true =>
  (refine Ja ?_;unhygienic intros)
  simp only [Bg8,List.drop_zero,List.take]
  refine P6 2 rfl fun hl hc _=>?_
  refine Tr.xPCells (cs':=A0 (Ah7 p++List.replicate 34 0)) (by omega) ⟨by simp,by simp [A0],by simp [Value.oneCell],rfl⟩ fun h=>?_
  (refine Ja ?_;unhygienic intros)
  refine Tr.pcall (Gd4 (slC false A5 1 a 40 c (A0 (Ah7 p++List.replicate 34 0))) a false 40 c c (Ah7 p++List.replicate 34 0) 6 (by simp [Ah7]) (by simp [Ah7,B1])) ?_
  refine Je ?_
  (refine Ja ?_;unhygienic intros;repeat(refine Gw ?_;rintro px rfl;refine Ja ?_;unhygienic intros))
  rw [show List.take 6 (Ah7 p++List.replicate 34 0:List UInt8)=Ah7 p from rfl,Du1]
  refine Tr.xVS (cs':=A0 (Ah7 p++Bv4 (Ah7 p)::List.replicate 33 0)) ⟨by simp [A0,Ah7],rfl,rfl⟩ fun h=>?_
  (refine Ja ?_;unhygienic intros)
  refine Tr.xCellsB (xs:=A0 p.data) (Hw2 p.len) ?_
  rw [Gn5 (by omega),Em8]
  refine Tr.xPAggS (cs':=A0 (I1 p)) ⟨?_,?_,Ag4 _,?_⟩ fun h=>?_
  ·intro e;have:=congrArg List.length e;simp [A0,hd] at this
  ·simp [A0,hd,Ah7]
  ·rw [U5,hd]
   simp [A0,I1,Ah7]
  refine Ys fun o=>?_
  simp only [if_true]
  exact ⟨trivial,o.sub⟩
abbrev E83 (k:Nat):HP:=pt k (.cells Bq2 false [int 40,.func (.func Bm3) ⟨[]⟩ ⟨[]⟩,.func (.func Bm6) ⟨[]⟩ ⟨[]⟩])
theorem Hj9 (k:Nat) (f:PipeS):Ct A9 V4 [P0 k,.agg ⟨E6 f⟩] [E83 k] fun v own=>(okP f=true∧∃ a,v=.tuple ⟨[.slice a 40 40,.bool true]⟩∧own [E83 k,slC false A5 1 a 40 40 (A0 (I1 f))])∨(okP f=false∧v=.tuple ⟨[.slice none 0 0,.bool false]⟩∧own [E83 k]):=by
 refine Ct.of B57 rfl fun h r=>Tr.eq (B52 ..) ?_;refine Je ?_
 (refine Ja ?_;unhygienic intros)
 refine Tr.ck ⟨by omega,by omega,by simp [B1]⟩ ?_
 refine Yn fun b1 h=>?_
 rw [show I7 (Int.toNat 40) [.int .u8 0]=A0 (List.replicate 40 0) from rfl]
 refine Aj7 0 rfl 1 40 rfl (by omega) ?_
 simp only [List.set_cons_zero]
 refine Je ?_
 (refine Jb ?_;unhygienic intros)
 refine Yb (Yf rfl ?_)
 (refine Jb ?_;unhygienic intros)
 refine Yc (Im8 (some ⟨b1,0,none⟩) 40 f) ?_;rintro _ h ⟨rfl,o⟩<;>(refine Jg o ?_;unhygienic intros)
 refine Ys fun o=>(?_:Tr _ _ _ _) o;refine Je ?_
 cases hk:okP f with
 | false =>
  (refine Ja ?_;unhygienic intros)
  refine Ys fun o=>?_
  exact .inr ⟨rfl,rfl,o.sub⟩
 | true =>
  (refine Ja ?_;unhygienic intros)
  refine Ys fun o=>?_
  simp only [if_true] at o
  exact .inl ⟨rfl,_,rfl,o.sub⟩
theorem Ip6:Ct A9 Aq1 [int 40,.func (.func Bm3) ⟨[]⟩ ⟨[]⟩,.func (.func Bm6) ⟨[]⟩ ⟨[]⟩] [] fun v own=>∃ k,v=P0 k∧own [E83 k]:=by
 refine Ct.of Eh0 rfl fun h r=>Tr.eq (Ef5 ..) ?_;refine Je ?_
 rw [show mm2 false (mm2 true 40 0) 64=40 from rfl]
 (refine Ja ?_;unhygienic intros)
 refine Ys fun o=>?_
 exact ⟨_,rfl,o.sub⟩
theorem Gt5:Ct A9 Bh1 [] [] fun v own=>∃ k,v=P0 k∧own [E83 k]:=by
 refine Ct.of Hb8 rfl fun h r=>Tr.eq (Hf7 ..) ?_;refine Je ?_
 refine Yc (Ip6) ?_;rintro _ h ⟨k,rfl,o⟩<;>(refine Jf o ?_;unhygienic intros)
 refine Ys fun o=>?_
 exact ⟨_,rfl,o.sub⟩
theorem Eb1 (f:PipeS):Ct A9 Aw2 [.agg ⟨E6 f⟩] [] fun v own=>(okP f=true∧∃ a,v=.tuple ⟨[.slice a 40 40,.bool true]⟩∧own [slC false A5 1 a 40 40 (A0 (I1 f))])∨(okP f=false∧v=.tuple ⟨[.slice none 0 0,.bool false]⟩∧own []):=by
 refine Ct.of G02 rfl fun h r=>Tr.eq (G07 ..) ?_;refine Je ?_
 refine Yn fun b1 h=>?_
 (refine Ja ?_;unhygienic intros)
 refine Yc (Gt5) ?_;rintro _ h ⟨k,rfl,o⟩<;>(refine Jg o ?_;unhygienic intros)
 (refine Ja ?_;unhygienic intros)
 refine Yc (Hj9 k f) ?_
 rintro v h (⟨hk,a,rfl,o⟩|⟨hk,rfl,o⟩)
 ·refine (?_:Tr _ _ _ _) o
  refine Je ?_
  (refine Ja ?_;unhygienic intros)
  refine Ys fun o=>?_
  exact .inl ⟨hk,a,rfl,o.sub⟩
 ·refine (?_:Tr _ _ _ _) o
  refine Je ?_
  (refine Ja ?_;unhygienic intros)
  refine Ys fun o=>?_
  exact .inr ⟨hk,rfl,o.sub⟩
def Dw3 (l:List UInt8):List UInt8:=(l++List.replicate 32 0).take 32
theorem H71 (l:List UInt8):(Dw3 l).length=32:=by simp [Dw3]
theorem Eg1 {l:List UInt8} (h:l.length=32):Dw3 l=l:=by simp [Dw3,← h]
def Be2 (l:List UInt8):PipeS:=⟨byI l 1,byI l 2,byI l 3,byI l 4,Dw3 (l.drop 8),H71 _⟩
def isP (l:List UInt8):Bool:=okP (Be2 l) && decide (I1 (Be2 l)=l)
theorem Im6 (a:Option Addr) (c:Nat) (l:List UInt8) (hl:l.length=40):Ct A9 Bm6 [.slice a 40 c] [slC false A5 1 a 40 c (A0 l)] fun v own=>v=.tuple ⟨[.agg ⟨E6 (Be2 l)⟩,.bool (isP l)]⟩∧own [slC false A5 1 a 40 c (A0 l)]:=by
 have hd:=(Be2 l).len
 have hp:Dw3 (l.drop 8)=l.drop 8:=Eg1 (by simp [hl])
 have key:∀ a1:Option Addr,CtP A9 D6 [.slice a1 40 40,.slice a 40 c] [slC false A5 1 a1 40 40 (A0 (I1 (Be2 l))),slC false A5 1 a 40 c (A0 l)] (.bool (decide (I1 (Be2 l)=l))):=fun a1=>by
  have e:=As9 hd
  have J:=Ew2 (slC false A5 1 a1 (I1 (Be2 l)).length 40 (A0 (I1 (Be2 l)))) (slC false A5 1 a l.length c (A0 l)) a1 false 40 a false c (I1 (Be2 l)) l (by rw [e];simp [B1])
  rwa [hl,e] at J
 refine Ct.of Ht5 rfl fun h r=>Tr.eq (Hw0 ..) ?_;refine Je ?_
 refine Yn fun b1 h=>?_
 refine P6 1 rfl fun hl2 hc2 _=>?_
 (refine Ja ?_;unhygienic intros;repeat(refine Gw ?_;rintro px rfl;refine Ja ?_;unhygienic intros))
 refine Tr.xIntS (v:=byI l 1) (Ad7 (by omega)) ?_
 (refine Ja ?_;unhygienic intros)
 refine Tr.xIntS (v:=byI l 2) (Ad7 (by omega)) ?_
 (refine Ja ?_;unhygienic intros)
 refine Tr.xIntS (v:=byI l 3) (Ad7 (by omega)) ?_
 (refine Ja ?_;unhygienic intros)
 refine Tr.xIntS (v:=byI l 4) (Ad7 (by omega)) ?_
 simp only [byI,Am9]
 refine Yn fun b2 h=>?_
 (refine Jb ?_;unhygienic intros)
 rw [Gn5 (show 8<c by omega),G32]
 refine Tr.xAggS (xs:=A0 (l.drop 8)) ⟨by omega,by simp [U5,hl],?_⟩ ?_
 ·rw [B75,List.take_of_length_le (by simp [U5,hl])]
 rw [show pCells (some (⟨b2,4,none⟩:Addr))=pAgg ⟨b2,4,none⟩ from rfl]
 refine Tr.xPAgg (cs':=E6 (Be2 l)) ⟨by simp [U5,hl],Ag4 _,by simp [E6,Be2,byI,U5,hl,hp]⟩ fun h=>?_
 (refine Ja ?_;unhygienic intros)
 refine Yc (Eb1 (Be2 l)) ?_
 rintro v h (⟨hk,a1,rfl,o⟩|⟨hk,rfl,o⟩)
 ·refine (?_:Tr _ _ _ _) o
  refine Je ?_
  (refine Jb ?_;unhygienic intros)
  refine Yb (Yt rfl ?_)
  refine Tr.pcall (key a1) ?_;refine Je ?_;(refine Jb ?_;unhygienic intros)
  refine Ys fun o=>(?_:Tr _ _ _ _) o;refine Je ?_
  (refine Ja ?_;unhygienic intros)
  refine Ys fun o=>?_
  exact ⟨by unfold isP;rw [hk,Bool.true_and],o.sub⟩
 ·refine (?_:Tr _ _ _ _) o
  refine Je ?_
  (refine Ja ?_;unhygienic intros)
  refine Ys fun o=>?_
  exact ⟨by unfold isP;rw [hk];rfl,o.sub⟩
theorem Hg8 (k:Nat) (a:Option Addr) (c:Nat) (l:List UInt8) (hl:l.length=40):Ct A9 V3 [P0 k,.slice a 40 c] [E83 k,slC false A5 1 a 40 c (A0 l)] fun v own=>v=.tuple ⟨[.agg ⟨E6 (if isP l then Be2 l else .zero)⟩,.bool (isP l)]⟩∧own [E83 k,slC false A5 1 a 40 c (A0 l)]:=by
 have hd:=(Be2 l).len
 have hp:Dw3 (l.drop 8)=l.drop 8:=Eg1 (by simp [hl])
 refine Ct.of B55 rfl fun h r=>Tr.eq (B49 ..) ?_;refine Je ?_
 (refine Ja ?_;unhygienic intros)
 refine Yf rfl ?_
 (refine Jb ?_;unhygienic intros)
 refine Yc (Ep2 40 a c l hl (by simp [B1])) ?_;rintro _ h ⟨a1,c1,rfl,o⟩<;>(refine Jg o ?_;unhygienic intros)
 refine Yc (Im6 a1 c1 l hl) ?_;rintro _ h ⟨rfl,o⟩<;>(refine Jg o ?_;unhygienic intros)
 cases hk:isP l with
 | false =>
  (refine Ja ?_;unhygienic intros)
  refine Ys fun o=>?_
  exact ⟨rfl,o.sub⟩
 | true =>
  (refine Ja ?_;unhygienic intros)
  refine Ys fun o=>?_
  exact ⟨rfl,o.sub⟩
def N9 (l:List UInt8):PipeS × Int:=if l.all (·==0) then (.zero,0) else if isP l then (Be2 l,1) else (.zero,2)
theorem Hu9 (a:Option Addr) (c:Nat) (l:List UInt8) (hl:l.length=40):Ct A9 Aw5 [.slice a 40 c] [slC false A5 1 a 40 c (A0 l)] fun v own=>v=.tuple ⟨[.agg ⟨E6 (N9 l).1⟩,int (N9 l).2]⟩∧own [slC false A5 1 a 40 c (A0 l)]:=by
 have hd:=(Be2 l).len
 have hp:Dw3 (l.drop 8)=l.drop 8:=Eg1 (by simp [hl])
 refine Ct.of Gx8 rfl fun h r=>Tr.eq (Gz2 ..) ?_;refine Je ?_
 refine Yn fun b1 h=>?_
 refine Yb (Yt rfl ?_)
 refine Tr.pcall (Ev4 40 a c l hl (by simp [B1])) ?_;refine Je ?_;(refine Jb ?_;unhygienic intros)
 refine Ys fun o=>(?_:Tr _ _ _ _) o;refine Je ?_
 cases hb:l.all (·==0) with
 | true =>
  (refine Ja ?_;unhygienic intros)
  refine Ys fun o=>?_
  exact ⟨by unfold N9;rw [hb];rfl,o.sub⟩
 | false =>
  (refine Jb ?_;unhygienic intros)
  refine Yc (Gt5) ?_;rintro _ h ⟨k,rfl,o⟩<;>(refine Jg o ?_;unhygienic intros)
  refine Yc (Hg8 k a c l hl) ?_;rintro _ h ⟨rfl,o⟩<;>(refine Jg o ?_;unhygienic intros)
  cases hk:isP l with
  | false =>
   (refine Ja ?_;unhygienic intros)
   refine Ys fun o=>?_
   exact ⟨by unfold N9;rw [hb,hk];rfl,o.sub⟩
  | true =>
   (refine Ja ?_;unhygienic intros)
   refine Ys fun o=>?_
   exact ⟨by unfold N9;rw [hb,hk];rfl,o.sub⟩
structure ProcS where
 state:Int
 parent:Int
 group:Int
 code:Int
 pending:Int
 mask:Int
 ignored:Int
 caught:Int
 fds:List Int
 len:fds.length=8
abbrev G14:List Int:=[0,0,0,0,0,0,0,0]
abbrev ProcS.zero:ProcS:=⟨0,0,0,0,0,0,0,0,G14,rfl⟩
abbrev D5 (p:ProcS):List Value:=int p.state::int p.parent::int p.group::int p.code::int p.pending::int p.mask::int p.ignored::int p.caught::p.fds.map int
theorem Bx7 (p:ProcS):(D5 p).length=16:=by simp [D5,p.len]
theorem H33 (p:ProcS):(D5 p).all Value.oneCell=true:=by simp [D5,Value.oneCell]
instance {p:ProcS}:LenC (D5 p) 16:=⟨Bx7 p⟩
instance {p:ProcS}:PartC (D5 p) 0 16 (D5 p):=⟨Bi5 (Bx7 p)⟩
instance {p:ProcS}:PartC (D5 p) 8 8 (p.fds.map int):=⟨by
 have h:Nat.ble (8+8) (D5 p).length=true:=by rw [Bx7];rfl
 have e:((D5 p).drop 8).take 8=p.fds.map int:=by rw [show (D5 p).drop 8=p.fds.map int from rfl,List.take_of_length_le (by simp [p.len])]
 rw [Da4,h,e];rfl⟩
instance {p:ProcS} {cs:List Value} [k:LenC cs 16]:SetsC cs 0 (D5 p) (D5 p):=⟨Bk0 k.ok (Bx7 p) (H33 p)⟩
instance {p:ProcS}:SameC (.agg ⟨D5 p⟩):=⟨Dx3 (by simp [D5])⟩
def Ei2 (n w:Int):Bool:=En0 .i64 n 65534==0 && M7 .i64 n w==0
def okS (p:ProcS):Bool :=
 !(decide (p.state<1) || decide (p.state>3) || decide (p.parent<0) || decide (p.parent>8) || decide (p.group<0) || decide (p.group≥8) || decide (p.code<0) || decide (p.code>255)) &&
 (!(!Ei2 p.pending 0 || !Ei2 p.mask 16896 || !Ei2 p.ignored 16896 || !Ei2 p.caught 16896 || M7 .i64 p.ignored p.caught != 0) &&
 (!(p.fds.any fun f=>decide (f<0) || decide (f>12)) &&
 (if p.state=2 then p.pending==0 && decide (p.fds=G14) else p.code==0)))
def hi2 (n:Int):UInt8:=if 0≤n∧n≤65535 then b8 (n / 256) else 0
def lo2 (n:Int):UInt8:=if 0≤n∧n≤65535 then b8 n else 0
abbrev put2 (n:Int):List UInt8:=[hi2 n,lo2 n]
def Ec6 (p:ProcS):List UInt8:=[b8 p.state,b8 p.parent,b8 p.group,b8 p.code]++(put2 p.pending++(put2 p.mask++(put2 p.ignored++(put2 p.caught++(p.fds.map b8++[167])))))
theorem Ic0 (n:Int):(put2 n).length=2:=rfl
theorem Ia3 (p:ProcS):(Ec6 p).length=21:=by simp [Ec6,Ic0,p.len]
def Av8 (p:ProcS):List UInt8:=Ec6 p++[Bv4 (Ec6 p),0,0]
theorem Ei0 (p:ProcS):(Av8 p).length=24:=by simp [Av8,Ia3]
theorem Io5 (n w:Int):CtP A9 Ak9 [int n,int w] [] (.bool (Ei2 n w)):=by
 refine CtP.of G47 rfl fun h r=>Tr.eq (He7 ..) ?_;refine Je ?_
 exact Jz
instance {n w:Int} {l:List HP}:PCi A9 Ak9 [.int .i64 n,.int .i64 w] l (.bool (Ei2 n w)):=PCi.of (Io5 n w)
theorem Il9 (f:Int):CtP A9 Bh0 [int f] [] (.bool (decide (f<0) || decide (f>12))):=by
 refine CtP.of G66 rfl fun h r=>Tr.eq (G71 ..) ?_;refine Je ?_
 exact Jz
theorem Gc9 (p:HP) (a:Option Addr) (ro:Bool) (c:Nat) (l:List Int) (g:FuncId) (f:Int→Bool) {e:TypeId} [ks:IsSl p a ro e 1 l.length c (l.map int)] (hl:l.length≤B1) (hf:∀ x,CtP A9 g [int x] [] (.bool (f x))):∀ (m i:Nat),l.length-i=m→i≤l.length →
  V2 H3 D9 N3 [(0,.slice a l.length c),(1,.func (.func g) ⟨[]⟩ ⟨[]⟩),(7,int l.length),(8,int i)] [p] (int (Bt1 f i (l.drop i))):=by
 intro m
 induction m with
 | zero =>
  intro i hm hi
  refine V2.of L9 fun h r=>Tr.eq (S4 ..) ?_;refine Je ?_
  refine Yf (by simp;omega) ?_
  refine Ys fun o=>?_
  rw [List.drop_eq_nil_of_le (by omega)];exact ⟨rfl,rfl⟩
 | succ m ih =>
  intro i hm hi
  have hlt:i<l.length:=by omega
  have hp:l[i]?=some l[i]:=List.getElem?_eq_getElem hlt
  have hd:l.drop i=l[i]::l.drop (i+1):=List.drop_eq_getElem_cons hlt
  generalize l[i]=x at hp hd
  have e1:IntKind.wrap .i64 ((i:Int)+1)=((i+1:Nat):Int):=by rw [B0];simp only [B1] at hl;omega
  refine V2.of L9 fun h r=>Tr.eq (S4 ..) ?_;refine Je ?_
  refine Yt (by simp;omega) ?_
  (refine Ja ?_;unhygienic intros;repeat(refine Gw ?_;rintro px rfl;refine Ja ?_;unhygienic intros))
  refine Tr.xIntS (v:=x) (by simp [hp]) ?_
  (refine Ja ?_;unhygienic intros)
  refine Tr.pcall (hf x) ?_
  cases hx:f x with
  | true =>
   (refine Ja ?_;unhygienic intros)
   refine Ys fun o=>?_
   rw [hd,Bt1,if_pos hx];exact ⟨by first|rfl|trivial,by first|rfl|trivial⟩
  | false =>
   (refine Ja ?_;unhygienic intros)
   rw [e1]
   refine Z8 (ih (i+1) (by omega) (by omega)) (r:=r) (by simp) fun o=>?_
   rw [hd,Bt1,if_neg (by simp [hx])];exact ⟨by first|rfl|trivial,by first|rfl|trivial⟩
theorem Gc1 (p:HP) (a:Option Addr) (ro:Bool) (c:Nat) (l:List Int) (g:FuncId) (f:Int→Bool) {e:TypeId} [ks:IsSl p a ro e 1 l.length c (l.map int)] (hl:l.length≤B1) (hf:∀ x,CtP A9 g [int x] [] (.bool (f x))) :
  CtP A9 E8 [.slice a l.length c,.func (.func g) ⟨[]⟩ ⟨[]⟩] [p] (.bool (l.any f)):=by
 have j:CtP A9 D9 [.slice a l.length c,.func (.func g) ⟨[]⟩ ⟨[]⟩] [p] (int (Bt1 f 0 l)):=by
  refine CtP.of L9 rfl fun h r=>Tr.eq (A37 ..) ?_;refine Je ?_
  exact Z8 (Gc9 p a ro c l g f hl hf _ 0 rfl (by omega)) (r:=r) (by simp) fun o=>⟨rfl,rfl⟩
 refine CtP.of Av1 rfl fun h r=>Tr.eq (Av2 ..) ?_;refine Je ?_
 refine Bx9 j (r:=r) (by simp) ?_
 (refine Ja ?_;unhygienic intros)
 refine Ys fun o=>?_
 rw [Eo6];exact ⟨by first|rfl|trivial,by first|rfl|trivial⟩
theorem G84:∀ (l m:List Int),l.length=m.length→eqs (l.map int) (m.map int)=some (decide (l=m))
 | [],[],_=>rfl
 | [],_::_,h=>by simp at h
 | _::_,[],h=>by simp at h
 | a::l,b::m,h=>by
  have ih:=G84 l m (by simpa using h)
  simp only [List.map_cons,eqs,eq1,decide_true,ih]
  by_cases h1:a=b<;>by_cases h2:l=m<;>simp [h1,h2]
theorem E90:∀ (l:List Int),H1 (List.replicate l.length (TypeDesc.int .i64)) (l.map int)=true
 | []=>rfl
 | a::l=>by
  have:=E90 l
  simp only [List.length_cons,List.replicate_succ,List.map_cons,H1,decide_true,this,Bool.and_self]
theorem eq8 {α:Type} (l m:List Int) (hl:l.length=8) (hm:m.length=8) (k:Bool→Option α):Da9 PR Gp7 (l.map int) (m.map int) k=k (decide (l=m)):=by
 have e:Ak4 PR 8 Gp7=some (List.replicate 8 (TypeDesc.int .i64)):=by kernel_rfl
 have f1:=E90 l;have f2:=E90 m
 rw [hl] at f1;rw [hm] at f2
 rw [Da9,e]
 simp only [f1,f2,G84 l m (by omega),Bool.and_self,ckB,cond_true,eqK]
theorem Ir8 (p:ProcS):Ct A9 Dj8 [.agg ⟨D5 p⟩] [] fun v own=>v=.bool (okS p)∧own []:=by
 have h8:=p.len
 refine Ct.of H01 rfl fun h r=>Tr.eq (Hr9 ..) ?_;refine Je ?_
 (refine Ja ?_;unhygienic intros)
 refine Tr.cond (fun h1=>?_) fun h1=>?_
 ·refine Ys fun o=>?_
  refine ⟨?_,o.sub⟩
  unfold okS;rw [h1];rfl
 (refine Ja ?_;unhygienic intros)
 refine Tr.cond (fun h2=>?_) fun h2=>?_
 ·refine Ys fun o=>?_
  refine ⟨?_,o.sub⟩
  unfold okS;rw [h1,h2];rfl
 (refine Ja ?_;unhygienic intros)
 refine Gn3 0 rfl [int p.state,int p.parent,int p.group,int p.code,int p.pending,int p.mask,int p.ignored,int p.caught] (p.fds.map int) [] (by simp [D5]) 1 8 8 8 ⟨by simp [h8],by omega,by simp,by simp [D5],by omega,by omega⟩ ?_
 refine Je ?_
 have J:=Gc1 (e:=D0) (slX false D0 1 (some ⟨b,8,none⟩) p.fds.length 8 ([int p.state,int p.parent,int p.group,int p.code,int p.pending,int p.mask,int p.ignored,int p.caught],[]) (p.fds.map int)) (some ⟨b,8,none⟩) false 8 p.fds Bh0 (fun f=>decide (f<0) || decide (f>12)) (by rw [h8];simp [B1]) Il9
 rw [h8] at J
 refine Tr.pcall (J) ?_;refine Je ?_;(refine Ja ?_;unhygienic intros)
 refine Et0 0 rfl (D5 p) (by simp [D5]) ?_
 refine Je ?_
 cases h3:p.fds.any fun f=>decide (f<0) || decide (f>12) with
 | true =>
  (refine Ja ?_;unhygienic intros)
  refine Ys fun o=>?_
  refine ⟨?_,o.sub⟩
  unfold okS;rw [h1,h2,h3];rfl
 | false =>
  (refine Ja ?_;unhygienic intros)
  have e:okS p=if p.state=2 then p.pending==0 && decide (p.fds=G14) else p.code==0:=by unfold okS;rw [h1,h2,h3];rfl
  rw [e]
  by_cases h4:p.state=2
  ·refine Yt (by simpa using h4) ?_
   rw [if_pos h4]
   (repeat' first|refine Gu ?_|(with_reducible first|refine Gn fun b h=>?_|apply Gx|apply Gy|rintro px rfl|apply Gw|refine fun(h:H)=>?_|intro hb)|refine Gs ?_|refine Gt ?_|exact Gz rfl|fail)
   rw [show ([int 0,int 0,int 0,int 0,int 0,int 0,int 0,int 0]:List Value)=G14.map int from rfl,eq8 _ _ h8 rfl]
   (repeat' first|refine Gu ?_|(with_reducible first|refine Gn fun b h=>?_|apply Gx|apply Gy|rintro px rfl|apply Gw|refine fun(h:H)=>?_|intro hb)|refine Gs ?_|refine Gt ?_|exact Gz rfl|fail)
   refine Ys fun o=>?_
   exact ⟨rfl,o.sub⟩
  ·refine Yf (by simpa using h4) ?_
   rw [if_neg h4]
   (refine Ja ?_;unhygienic intros)
   refine Ys fun o=>?_
   exact ⟨rfl,o.sub⟩
theorem Ik6 (a:Option Addr) (c:Nat) (cs:List Value) (j:Nat) (n:Int) (hj:j+2≤cs.length) (hm:cs.length≤B1):Ct A9 Bh8 [.slice a cs.length c,int j,int n] [slC false A5 1 a cs.length c cs] fun v own =>
  (∃ ok,v=.bool ok)∧own [slC false A5 1 a cs.length c (if 0≤n∧n≤65535 then (cs.set j (.int .u8 ((b8 (n / 256)).toNat:Int))).set (j+1) (.int .u8 ((b8 n).toNat:Int)) else cs)]:=by
 simp only [B1] at hm
 have e1:IntKind.wrap .i64 ((cs.length:Int)-2)=(cs.length:Int)-2:=by rw [B0];omega
 have e2:IntKind.wrap .i64 ((j:Int)+1)=((j+1:Nat):Int):=by rw [B0];omega
 refine Ct.of G90 rfl fun h r=>Tr.eq (G45 ..) ?_;refine Je ?_
 rw [e1,e2]
 (refine Ja ?_;unhygienic intros)
 by_cases h:0≤n∧n≤65535
 ·refine Yf (by simp;omega) ?_
  rw [if_pos h]
  (refine Ja ?_;unhygienic intros;repeat(refine Gw ?_;rintro px rfl;refine Ja ?_;unhygienic intros))
  rw [Int.toNat_natCast,show Int.fdiv n (2 ^ 8)=n / 256 by rw [Int.fdiv_eq_ediv_of_nonneg _ (by omega)];rfl,Bg8,Bg8]
  refine Je ?_
  refine Tr.xVS (cs':=cs.set j (.int .u8 ((b8 (n / 256)).toNat:Int))) ⟨by omega,rfl,rfl⟩ fun h=>?_
  (refine Ja ?_;unhygienic intros)
  rw [Int.toNat_natCast]
  refine Je ?_
  refine Tr.xVS (cs':=(cs.set j (.int .u8 ((b8 (n / 256)).toNat:Int))).set (j+1) (.int .u8 ((b8 n).toNat:Int))) ⟨by simp;omega,rfl,rfl⟩ fun h=>?_
  refine Ys fun o=>?_
  exact ⟨⟨_,rfl⟩,o.sub⟩
 ·refine Yt (by simp;omega) ?_
  rw [if_neg h]
  refine Ys fun o=>?_
  exact ⟨⟨_,rfl⟩,o.sub⟩
theorem D78 (l:List UInt8) (j:Nat) (x:UInt8):(A0 l).set j (.int .u8 (x.toNat:Int))=A0 (l.set j x):=by simp [A0,List.map_set]
theorem Ee2 (a:Option Addr) (c m:Nat) (l:List UInt8) (j:Nat) (n:Int) (hm:l.length=m) (hj:j+2≤m) (h1:l[j]?=some 0) (h2:l[j+1]?=some 0) (hl:m≤B1):Ct A9 Bh8 [.slice a m c,int j,int n] [slC false A5 1 a m c (A0 l)] fun v own =>
  (∃ ok,v=.bool ok)∧own [slC false A5 1 a m c (A0 ((l.set j (hi2 n)).set (j+1) (lo2 n)))]:=by
 subst hm
 have J:=Ik6 a c (A0 l) j n (by rw [U5];omega) (by rw [U5];omega)
 rw [U5] at J
 have e:(if 0≤n∧n≤65535 then ((A0 l).set j (.int .u8 ((b8 (n / 256)).toNat:Int))).set (j+1) (.int .u8 ((b8 n).toNat:Int)) else A0 l)=A0 ((l.set j (hi2 n)).set (j+1) (lo2 n)):=by
  unfold hi2 lo2
  split
  ·rw [D78,D78]
  ·rw [Eq9 h1,Eq9 h2]
 rw [e] at J
 exact J
def two (l:List UInt8) (j:Nat):Int:=byI l j*256+byI l (j+1)
theorem Is8 (x y:UInt8):Ht3 .i64 (IntKind.wrap .i64 (IntKind.wrap .i64 (x.toNat:Int)*2 ^ 8)) (IntKind.wrap .i64 (y.toNat:Int))=(x.toNat:Int)*256+y.toNat:=by
 have hx:=x.toNat_lt;have hy:=y.toNat_lt
 have e1:IntKind.wrap .i64 (IntKind.wrap .i64 (x.toNat:Int)*2 ^ 8)=((x.toNat*256:Nat):Int):=by rw [Am9,B0];omega
 rw [e1,Am9]
 unfold Ht3
 have e0:IntKind.bits .i64=64:=rfl
 rw [e0,BitVec.ofInt_natCast,BitVec.ofInt_natCast,BitVec.toNat_or,BitVec.toNat_ofNat,BitVec.toNat_ofNat,Nat.mod_eq_of_lt (by omega),Nat.mod_eq_of_lt (by omega)]
 have e2:x.toNat*256 ||| y.toNat=x.toNat*256+y.toNat:=by
  have:=Nat.two_pow_add_eq_or_of_lt (i:=8) (b:=y.toNat) (by omega) x.toNat
  rw [show 2 ^ 8*x.toNat=x.toNat*256 by omega] at this
  exact this.symm
 rw [e2,B0];omega
theorem E04 (a:Option Addr) (c n:Nat) (l:List UInt8) (j:Nat) (hn:l.length=n) (hj:j+2≤n) (hm:n≤B1):CtP A9 Bz7 [.slice a n c,int j] [slC false A5 1 a n c (A0 l)] (.tuple ⟨[int (two l j),.bool true]⟩):=by
 simp only [B1] at hm
 have e1:IntKind.wrap .i64 ((n:Int)-2)=(n:Int)-2:=by rw [B0];omega
 have e2:IntKind.wrap .i64 ((j:Int)+1)=((j+1:Nat):Int):=by rw [B0];omega
 refine CtP.of G63 rfl fun h r=>Tr.eq (G54 ..) ?_;refine Je ?_
 rw [e1,e2]
 (refine Ja ?_;unhygienic intros)
 refine Yf (by simp;omega) ?_
 (refine Ja ?_;unhygienic intros;repeat(refine Gw ?_;rintro px rfl;refine Ja ?_;unhygienic intros))
 rw [Int.toNat_natCast]
 refine Je ?_
 refine Tr.xIntS (v:=byI l j) (Ad7 (by omega)) ?_
 (refine Ja ?_;unhygienic intros)
 rw [Int.toNat_natCast]
 refine Je ?_
 refine Tr.xIntS (v:=byI l (j+1)) (Ad7 (by omega)) ?_
 refine Ys fun o=>?_
 rw [Is8];exact ⟨rfl,rfl⟩
theorem Ip2 (a:Option Addr) (c:Nat) (p:ProcS):Ct A9 O1 [.agg ⟨D5 p⟩,.slice a 24 c] [slC false A5 1 a 24 c (A0 (List.replicate 24 0))] fun v own=>v=.bool (okS p)∧own [slC false A5 1 a 24 c (A0 (if okS p then Av8 p else List.replicate 24 0))]:=by
 refine Ct.of H5 rfl fun h r=>Tr.eq (Hl3 ..) ?_;refine Je ?_
 refine Yn fun b1 h=>?_
 (refine Ja ?_;unhygienic intros)
 refine Yc (Ir8 p) ?_;rintro _ h ⟨rfl,o⟩<;>(refine Jf o ?_;unhygienic intros)
 cases hk:okS p with
 | false =>
  (refine Ja ?_;unhygienic intros)
  refine Ys fun o=>?_
  rw [if_neg (by simp)]
  exact ⟨rfl,o.sub⟩
 | true =>
  simp only [if_true]
  obtain ⟨st,pa,gr,co,pe,ma,ig,ca,fds,len⟩:=p
  match fds,len with
  | [f0,f1,f2,f3,f4,f5,f6,f7],len =>
  (refine Ja ?_;unhygienic intros)
  rename_i b2 h2
  refine P6 2 rfl fun hl hc _=>?_
  simp only [List.map]
  refine Tr.jmp H5 (Tr.eq (A62 ..) ?_);(try simp only[Nr,Nl,wl,Nat.reduceAdd,Nat.reduceMul,Int.reduceToNat])
  (refine Jd ?_;unhygienic intros;repeat(refine Gw ?_;rintro px rfl;refine Jd ?_;unhygienic intros))
  refine Tr.jmp H5 (Tr.eq (A62 ..) ?_);(try simp only[Nr,Nl,wl,Nat.reduceAdd,Nat.reduceMul,Int.reduceToNat])
  (refine Jd ?_;unhygienic intros)
  refine Tr.jmp H5 (Tr.eq (A62 ..) ?_);(try simp only[Nr,Nl,wl,Nat.reduceAdd,Nat.reduceMul,Int.reduceToNat])
  (refine Jd ?_;unhygienic intros)
  refine Tr.jmp H5 (Tr.eq (A62 ..) ?_);(try simp only[Nr,Nl,wl,Nat.reduceAdd,Nat.reduceMul,Int.reduceToNat])
  (refine Jd ?_;unhygienic intros)
  refine Tr.jmp H5 (Tr.eq (A62 ..) ?_);(try simp only[Nr,Nl,wl,Nat.reduceAdd,Nat.reduceMul,Int.reduceToNat])
  (refine Jd ?_;unhygienic intros)
  simp only [Bg8,D78,List.replicate,List.set_cons_zero,List.set_cons_succ,Nat.mul_one]
  refine Tr.jmp H5 (Tr.eq (A69 ..) ?_);(try simp only[Nr,Nl,wl,Nat.reduceAdd,Nat.reduceMul,Int.reduceToNat])
  (refine Jd ?_;unhygienic intros)
  refine Yc (Ee2 (some px) c 24 [b8 st,b8 pa,b8 gr,b8 co,0,0,0,0,0,0,0,0,0,0,0,0,0,0,0,0,0,0,0,0] 4 pe rfl (by omega) rfl rfl (by simp [B1])) ?_;rintro _ h ⟨⟨_,rfl⟩,o⟩<;>(refine Jf o ?_;unhygienic intros)
  refine Tr.jmp H5 (Tr.eq (A69 ..) ?_);(try simp only[Nr,Nl,wl,Nat.reduceAdd,Nat.reduceMul,Int.reduceToNat])
  (refine Jd ?_;unhygienic intros)
  refine Yc (Ee2 (some px) c 24 [b8 st,b8 pa,b8 gr,b8 co,hi2 pe,lo2 pe,0,0,0,0,0,0,0,0,0,0,0,0,0,0,0,0,0,0] 6 ma rfl (by omega) rfl rfl (by simp [B1])) ?_;rintro _ h ⟨⟨_,rfl⟩,o⟩<;>(refine Jf o ?_;unhygienic intros)
  refine Tr.jmp H5 (Tr.eq (A69 ..) ?_);(try simp only[Nr,Nl,wl,Nat.reduceAdd,Nat.reduceMul,Int.reduceToNat])
  (refine Jd ?_;unhygienic intros)
  refine Yc (Ee2 (some px) c 24 [b8 st,b8 pa,b8 gr,b8 co,hi2 pe,lo2 pe,hi2 ma,lo2 ma,0,0,0,0,0,0,0,0,0,0,0,0,0,0,0,0] 8 ig rfl (by omega) rfl rfl (by simp [B1])) ?_;rintro _ h ⟨⟨_,rfl⟩,o⟩<;>(refine Jf o ?_;unhygienic intros)
  refine Tr.jmp H5 (Tr.eq (A69 ..) ?_);(try simp only[Nr,Nl,wl,Nat.reduceAdd,Nat.reduceMul,Int.reduceToNat])
  (refine Jd ?_;unhygienic intros)
  refine Yc (Ee2 (some px) c 24 [b8 st,b8 pa,b8 gr,b8 co,hi2 pe,lo2 pe,hi2 ma,lo2 ma,hi2 ig,lo2 ig,0,0,0,0,0,0,0,0,0,0,0,0,0,0] 10 ca rfl (by omega) rfl rfl (by simp [B1])) ?_;rintro _ h ⟨⟨_,rfl⟩,o⟩<;>(refine Jf o ?_;unhygienic intros)
  refine Tr.jmp H5 (Tr.eq (A69 ..) ?_);(try simp only[Nr,Nl,wl,Nat.reduceAdd,Nat.reduceMul,Int.reduceToNat])
  (refine Jd ?_;unhygienic intros)
  refine Tr.jmp H5 (Tr.eq (Z1 ..) ?_);(try simp only[Nr,Nl,wl,Nat.reduceAdd,Nat.reduceMul,Int.reduceToNat])
  (refine Jd ?_;unhygienic intros)
  refine Tr.jmp H5 (Tr.eq (Z1 ..) ?_);(try simp only[Nr,Nl,wl,Nat.reduceAdd,Nat.reduceMul,Int.reduceToNat])
  (refine Jd ?_;unhygienic intros)
  refine Tr.jmp H5 (Tr.eq (Z1 ..) ?_);(try simp only[Nr,Nl,wl,Nat.reduceAdd,Nat.reduceMul,Int.reduceToNat])
  (refine Jd ?_;unhygienic intros)
  refine Tr.jmp H5 (Tr.eq (Z1 ..) ?_);(try simp only[Nr,Nl,wl,Nat.reduceAdd,Nat.reduceMul,Int.reduceToNat])
  (refine Jd ?_;unhygienic intros)
  refine Tr.jmp H5 (Tr.eq (Z1 ..) ?_);(try simp only[Nr,Nl,wl,Nat.reduceAdd,Nat.reduceMul,Int.reduceToNat])
  (refine Jd ?_;unhygienic intros)
  refine Tr.jmp H5 (Tr.eq (Z1 ..) ?_);(try simp only[Nr,Nl,wl,Nat.reduceAdd,Nat.reduceMul,Int.reduceToNat])
  (refine Jd ?_;unhygienic intros)
  refine Tr.jmp H5 (Tr.eq (Z1 ..) ?_);(try simp only[Nr,Nl,wl,Nat.reduceAdd,Nat.reduceMul,Int.reduceToNat])
  (refine Jd ?_;unhygienic intros)
  refine Tr.jmp H5 (Tr.eq (Z1 ..) ?_);(try simp only[Nr,Nl,wl,Nat.reduceAdd,Nat.reduceMul,Int.reduceToNat])
  (refine Jd ?_;unhygienic intros)
  refine Tr.jmp H5 (Tr.eq (Z1 ..) ?_);(try simp only[Nr,Nl,wl,Nat.reduceAdd,Nat.reduceMul,Int.reduceToNat])
  (refine Jd ?_;unhygienic intros)
  simp only [Bg8,D78,List.set_cons_zero,List.set_cons_succ,Nat.mul_one]
  rw [show (.int .u8 167:Value)=.int .u8 ((167:UInt8).toNat:Int) from rfl,D78]
  simp only [List.set_cons_zero,List.set_cons_succ]
  refine Tr.pcall (Gd4 (slC false A5 1 (some px) 24 c (A0 [b8 st,b8 pa,b8 gr,b8 co,hi2 pe,lo2 pe,hi2 ma,lo2 ma,hi2 ig,lo2 ig,hi2 ca,lo2 ca,b8 f0,b8 f1,b8 f2,b8 f3,b8 f4,b8 f5,b8 f6,b8 f7,167,0,0,0])) (some px) false 24 c c [b8 st,b8 pa,b8 gr,b8 co,hi2 pe,lo2 pe,hi2 ma,lo2 ma,hi2 ig,lo2 ig,hi2 ca,lo2 ca,b8 f0,b8 f1,b8 f2,b8 f3,b8 f4,b8 f5,b8 f6,b8 f7,167,0,0,0] 21 (by simp) (by simp [B1])) ?_
  refine Je ?_
  (refine Ja ?_;unhygienic intros)
  rw [Du1]
  (refine Jd ?_;unhygienic intros)
  refine Ys fun o=>?_
  rw [D78] at o
  simp only [List.set_cons_zero,List.set_cons_succ] at o
  simp only [Av8,Ec6,put2,List.map,List.cons_append,List.nil_append]
  exact ⟨trivial,o.sub⟩
abbrev Gd1 (k:Nat):HP:=pt k (.cells Bp4 false [int 24,.func (.func O1) ⟨[]⟩ ⟨[]⟩,.func (.func W9) ⟨[]⟩ ⟨[]⟩])
theorem Hk8 (k:Nat) (f:ProcS):Ct A9 V8 [P0 k,.agg ⟨D5 f⟩] [Gd1 k] fun v own=>(okS f=true∧∃ a,v=.tuple ⟨[.slice a 24 24,.bool true]⟩∧own [Gd1 k,slC false A5 1 a 24 24 (A0 (Av8 f))])∨(okS f=false∧v=.tuple ⟨[.slice none 0 0,.bool false]⟩∧own [Gd1 k]):=by
 refine Ct.of B50 rfl fun h r=>Tr.eq (B58 ..) ?_;refine Je ?_
 (refine Ja ?_;unhygienic intros)
 refine Tr.ck ⟨by omega,by omega,by simp [B1]⟩ ?_
 refine Yn fun b1 h=>?_
 rw [show I7 (Int.toNat 24) [.int .u8 0]=A0 (List.replicate 24 0) from rfl]
 refine Aj7 0 rfl 1 24 rfl (by omega) ?_
 simp only [List.set_cons_zero]
 refine Je ?_
 (refine Jb ?_;unhygienic intros)
 refine Yb (Yf rfl ?_)
 (refine Jb ?_;unhygienic intros)
 refine Yc (Ip2 (some ⟨b1,0,none⟩) 24 f) ?_;rintro _ h ⟨rfl,o⟩<;>(refine Jg o ?_;unhygienic intros)
 refine Ys fun o=>(?_:Tr _ _ _ _) o;refine Je ?_
 cases hk:okS f with
 | false =>
  (refine Ja ?_;unhygienic intros)
  refine Ys fun o=>?_
  exact .inr ⟨rfl,rfl,o.sub⟩
 | true =>
  (refine Ja ?_;unhygienic intros)
  refine Ys fun o=>?_
  simp only [if_true] at o
  exact .inl ⟨rfl,_,rfl,o.sub⟩
theorem In7:Ct A9 Ao8 [int 24,.func (.func O1) ⟨[]⟩ ⟨[]⟩,.func (.func W9) ⟨[]⟩ ⟨[]⟩] [] fun v own=>∃ k,v=P0 k∧own [Gd1 k]:=by
 refine Ct.of Ee5 rfl fun h r=>Tr.eq (Ec3 ..) ?_;refine Je ?_
 rw [show mm2 false (mm2 true 24 0) 64=24 from rfl]
 (refine Ja ?_;unhygienic intros)
 refine Ys fun o=>?_
 exact ⟨_,rfl,o.sub⟩
theorem Gv8:Ct A9 Bc6 [] [] fun v own=>∃ k,v=P0 k∧own [Gd1 k]:=by
 refine Ct.of G03 rfl fun h r=>Tr.eq (Gy1 ..) ?_;refine Je ?_
 refine Yc (In7) ?_;rintro _ h ⟨k,rfl,o⟩<;>(refine Jf o ?_;unhygienic intros)
 refine Ys fun o=>?_
 exact ⟨_,rfl,o.sub⟩
theorem Gg7 (f:ProcS):Ct A9 A40 [.agg ⟨D5 f⟩] [] fun v own=>(okS f=true∧∃ a,v=.tuple ⟨[.slice a 24 24,.bool true]⟩∧own [slC false A5 1 a 24 24 (A0 (Av8 f))])∨(okS f=false∧v=.tuple ⟨[.slice none 0 0,.bool false]⟩∧own []):=by
 refine Ct.of Gl9 rfl fun h r=>Tr.eq (Gq3 ..) ?_;refine Je ?_
 (refine Ja ?_;unhygienic intros)
 refine Yc (Gv8) ?_;rintro _ h ⟨k,rfl,o⟩<;>(refine Jg o ?_;unhygienic intros)
 refine Yc (Hk8 k f) ?_
 rintro v h (⟨hk,a,rfl,o⟩|⟨hk,rfl,o⟩)
 ·refine (?_:Tr _ _ _ _) o
  refine Je ?_
  (refine Ja ?_;unhygienic intros)
  refine Ys fun o=>?_
  exact .inl ⟨hk,a,rfl,o.sub⟩
 ·refine (?_:Tr _ _ _ _) o
  refine Je ?_
  (refine Ja ?_;unhygienic intros)
  refine Ys fun o=>?_
  exact .inr ⟨hk,rfl,o.sub⟩
def Be1 (l:List UInt8):ProcS:=⟨byI l 0,byI l 1,byI l 2,byI l 3,two l 4,two l 6,two l 8,two l 10,[byI l 12,byI l 13,byI l 14,byI l 15,byI l 16,byI l 17,byI l 18,byI l 19],rfl⟩
def isS (l:List UInt8):Bool:=okS (Be1 l) && decide (Av8 (Be1 l)=l)
theorem Io6 (a:Option Addr) (c:Nat) (l:List UInt8) (hl:l.length=24):Ct A9 W9 [.slice a 24 c] [slC false A5 1 a 24 c (A0 l)] fun v own=>v=.tuple ⟨[.agg ⟨D5 (Be1 l)⟩,.bool (isS l)]⟩∧own [slC false A5 1 a 24 c (A0 l)]:=by
 have key:∀ a1:Option Addr,CtP A9 D6 [.slice a1 24 24,.slice a 24 c] [slC false A5 1 a1 24 24 (A0 (Av8 (Be1 l))),slC false A5 1 a 24 c (A0 l)] (.bool (decide (Av8 (Be1 l)=l))):=fun a1=>by
  have e:=Ei0 (Be1 l)
  have J:=Ew2 (slC false A5 1 a1 (Av8 (Be1 l)).length 24 (A0 (Av8 (Be1 l)))) (slC false A5 1 a l.length c (A0 l)) a1 false 24 a false c (Av8 (Be1 l)) l (by rw [e];simp [B1])
  rwa [hl,e] at J
 refine Ct.of O2 rfl fun h r=>Tr.eq (Hk9 ..) ?_;refine Je ?_
 refine Yn fun b1 h=>?_
 refine P6 1 rfl fun hl2 hc2 _=>?_
 (refine Ja ?_;unhygienic intros;repeat(refine Gw ?_;rintro px rfl;refine Ja ?_;unhygienic intros))
 refine Tr.xIntS (v:=byI l 0) (Ad7 (by omega)) ?_
 (refine Ja ?_;unhygienic intros)
 refine Tr.xIntS (v:=byI l 1) (Ad7 (by omega)) ?_
 (refine Ja ?_;unhygienic intros)
 refine Tr.xIntS (v:=byI l 2) (Ad7 (by omega)) ?_
 (refine Ja ?_;unhygienic intros)
 refine Tr.xIntS (v:=byI l 3) (Ad7 (by omega)) ?_
 (refine Ja ?_;unhygienic intros)
 simp only [byI,Am9]
 refine Tr.jmp O2 (Tr.eq (A70 ..) ?_);(try simp only[Nr,Nl,wl,Nat.reduceAdd,Nat.reduceMul,Int.reduceToNat])
 (refine Jd ?_;unhygienic intros)
 refine Tr.pcall (E04 (some px) c 24 l 4 hl (by omega) (by simp [B1])) ?_;refine Je ?_;(refine Ja ?_;unhygienic intros)
 refine Tr.jmp O2 (Tr.eq (A70 ..) ?_);(try simp only[Nr,Nl,wl,Nat.reduceAdd,Nat.reduceMul,Int.reduceToNat])
 (refine Jd ?_;unhygienic intros)
 refine Tr.pcall (E04 (some px) c 24 l 6 hl (by omega) (by simp [B1])) ?_;refine Je ?_;(refine Ja ?_;unhygienic intros)
 refine Tr.jmp O2 (Tr.eq (A70 ..) ?_);(try simp only[Nr,Nl,wl,Nat.reduceAdd,Nat.reduceMul,Int.reduceToNat])
 (refine Jd ?_;unhygienic intros)
 refine Tr.pcall (E04 (some px) c 24 l 8 hl (by omega) (by simp [B1])) ?_;refine Je ?_;(refine Ja ?_;unhygienic intros)
 refine Tr.jmp O2 (Tr.eq (A70 ..) ?_);(try simp only[Nr,Nl,wl,Nat.reduceAdd,Nat.reduceMul,Int.reduceToNat])
 (refine Jd ?_;unhygienic intros)
 refine Tr.pcall (E04 (some px) c 24 l 10 hl (by omega) (by simp [B1])) ?_;refine Je ?_;(refine Ja ?_;unhygienic intros)
 refine Tr.jmp O2 (Tr.eq (A70 ..) ?_);(try simp only[Nr,Nl,wl,Nat.reduceAdd,Nat.reduceMul,Int.reduceToNat])
 (refine Jd ?_;unhygienic intros)
 refine Tr.jmp O2 (Tr.eq (Y6 ..) ?_);(try simp only[Nr,Nl,wl,Nat.reduceAdd,Nat.reduceMul,Int.reduceToNat])
 (refine Jd ?_;unhygienic intros)
 refine Tr.xIntS (v:=byI l 12) (Ad7 (by omega)) ?_
 (refine Jd ?_;unhygienic intros)
 simp only [byI,Am9]
 refine Tr.jmp O2 (Tr.eq (Y6 ..) ?_);(try simp only[Nr,Nl,wl,Nat.reduceAdd,Nat.reduceMul,Int.reduceToNat])
 (refine Jd ?_;unhygienic intros)
 refine Tr.xIntS (v:=byI l 13) (Ad7 (by omega)) ?_
 (refine Jd ?_;unhygienic intros)
 simp only [byI,Am9]
 refine Tr.jmp O2 (Tr.eq (Y6 ..) ?_);(try simp only[Nr,Nl,wl,Nat.reduceAdd,Nat.reduceMul,Int.reduceToNat])
 (refine Jd ?_;unhygienic intros)
 refine Tr.xIntS (v:=byI l 14) (Ad7 (by omega)) ?_
 (refine Jd ?_;unhygienic intros)
 simp only [byI,Am9]
 refine Tr.jmp O2 (Tr.eq (Y6 ..) ?_);(try simp only[Nr,Nl,wl,Nat.reduceAdd,Nat.reduceMul,Int.reduceToNat])
 (refine Jd ?_;unhygienic intros)
 refine Tr.xIntS (v:=byI l 15) (Ad7 (by omega)) ?_
 (refine Jd ?_;unhygienic intros)
 simp only [byI,Am9]
 refine Tr.jmp O2 (Tr.eq (Y6 ..) ?_);(try simp only[Nr,Nl,wl,Nat.reduceAdd,Nat.reduceMul,Int.reduceToNat])
 (refine Jd ?_;unhygienic intros)
 refine Tr.xIntS (v:=byI l 16) (Ad7 (by omega)) ?_
 (refine Jd ?_;unhygienic intros)
 simp only [byI,Am9]
 refine Tr.jmp O2 (Tr.eq (Y6 ..) ?_);(try simp only[Nr,Nl,wl,Nat.reduceAdd,Nat.reduceMul,Int.reduceToNat])
 (refine Jd ?_;unhygienic intros)
 refine Tr.xIntS (v:=byI l 17) (Ad7 (by omega)) ?_
 (refine Jd ?_;unhygienic intros)
 simp only [byI,Am9]
 refine Tr.jmp O2 (Tr.eq (Y6 ..) ?_);(try simp only[Nr,Nl,wl,Nat.reduceAdd,Nat.reduceMul,Int.reduceToNat])
 (refine Jd ?_;unhygienic intros)
 refine Tr.xIntS (v:=byI l 18) (Ad7 (by omega)) ?_
 (refine Jd ?_;unhygienic intros)
 simp only [byI,Am9]
 refine Tr.jmp O2 (Tr.eq (Y6 ..) ?_);(try simp only[Nr,Nl,wl,Nat.reduceAdd,Nat.reduceMul,Int.reduceToNat])
 (refine Jd ?_;unhygienic intros)
 refine Tr.xIntS (v:=byI l 19) (Ad7 (by omega)) ?_
 (refine Jd ?_;unhygienic intros)
 simp only [byI,Am9]
 refine Tr.jmp O2 (Tr.eq (Y6 ..) ?_);(try simp only[Nr,Nl,wl,Nat.reduceAdd,Nat.reduceMul,Int.reduceToNat])
 refine Yf rfl ?_
 refine Tr.xAgg (xs:=D5 (Be1 l)) ⟨Nat.le_of_ble_eq_true rfl,rfl⟩ ?_
 refine Yc (Gg7 (Be1 l)) ?_
 rintro v h (⟨hk,a1,rfl,o⟩|⟨hk,rfl,o⟩)
 ·refine (?_:Tr _ _ _ _) o
  refine Je ?_
  refine Tr.dx ?_
  refine Tr.dx ?_
  refine Tr.dx ?_
  refine Tr.xAgg (xs:=D5 (Be1 l)) ⟨Nat.le_of_ble_eq_true rfl,rfl⟩ ?_
  refine Yb (Yt rfl ?_)
  refine Tr.pcall (key a1) ?_
  refine Tr.dx ?_
  refine Tr.xAgg (xs:=D5 (Be1 l)) ⟨Nat.le_of_ble_eq_true rfl,rfl⟩ ?_
  (refine Ja ?_;unhygienic intros)
  refine Ys fun o=>(?_:Tr _ _ _ _) o;refine Je ?_
  (refine Ja ?_;unhygienic intros)
  refine Ys fun o=>?_
  exact ⟨by unfold isS;rw [hk,Bool.true_and],o.sub⟩
 ·refine (?_:Tr _ _ _ _) o
  refine Je ?_
  refine Tr.dx ?_
  refine Tr.dx ?_
  refine Tr.dx ?_
  refine Tr.xAgg (xs:=D5 (Be1 l)) ⟨Nat.le_of_ble_eq_true rfl,rfl⟩ ?_
  (refine Ja ?_;unhygienic intros)
  refine Ys fun o=>?_
  exact ⟨by unfold isS;rw [hk];rfl,o.sub⟩
theorem Hh2 (k:Nat) (a:Option Addr) (c:Nat) (l:List UInt8) (hl:l.length=24):Ct A9 V9 [P0 k,.slice a 24 c] [Gd1 k,slC false A5 1 a 24 c (A0 l)] fun v own=>v=.tuple ⟨[.agg ⟨D5 (if isS l then Be1 l else .zero)⟩,.bool (isS l)]⟩∧own [Gd1 k,slC false A5 1 a 24 c (A0 l)]:=by
 refine Ct.of B51 rfl fun h r=>Tr.eq (B54 ..) ?_;refine Je ?_
 (refine Ja ?_;unhygienic intros)
 refine Yf rfl ?_
 (refine Jb ?_;unhygienic intros)
 refine Yc (Ep2 24 a c l hl (by simp [B1])) ?_;rintro _ h ⟨a1,c1,rfl,o⟩<;>(refine Jg o ?_;unhygienic intros)
 refine Yc (Io6 a1 c1 l hl) ?_;rintro _ h ⟨rfl,o⟩<;>(refine Jg o ?_;unhygienic intros)
 cases hk:isS l with
 | false =>
  (refine Ja ?_;unhygienic intros)
  refine Ys fun o=>?_
  exact ⟨rfl,o.sub⟩
 | true =>
  (refine Ja ?_;unhygienic intros)
  refine Ys fun o=>?_
  exact ⟨rfl,o.sub⟩
def Y7 (l:List UInt8):ProcS × Int:=if l.all (·==0) then (.zero,0) else if isS l then (Be1 l,1) else (.zero,2)
theorem Hu5 (a:Option Addr) (c:Nat) (l:List UInt8) (hl:l.length=24):Ct A9 A68 [.slice a 24 c] [slC false A5 1 a 24 c (A0 l)] fun v own=>v=.tuple ⟨[.agg ⟨D5 (Y7 l).1⟩,int (Y7 l).2]⟩∧own [slC false A5 1 a 24 c (A0 l)]:=by
 refine Ct.of Go9 rfl fun h r=>Tr.eq (Go4 ..) ?_;refine Je ?_
 refine Yn fun b1 h=>?_
 refine Yb (Yt rfl ?_)
 refine Tr.pcall (Ev4 24 a c l hl (by simp [B1])) ?_;refine Je ?_;(refine Jb ?_;unhygienic intros)
 refine Ys fun o=>(?_:Tr _ _ _ _) o;refine Je ?_
 cases hb:l.all (·==0) with
 | true =>
  (refine Ja ?_;unhygienic intros)
  refine Ys fun o=>?_
  exact ⟨by unfold Y7;rw [hb];rfl,o.sub⟩
 | false =>
  (refine Jb ?_;unhygienic intros)
  refine Yc (Gv8) ?_;rintro _ h ⟨k,rfl,o⟩<;>(refine Jg o ?_;unhygienic intros)
  refine Yc (Hh2 k a c l hl) ?_;rintro _ h ⟨rfl,o⟩<;>(refine Jg o ?_;unhygienic intros)
  cases hk:isS l with
  | false =>
   (refine Ja ?_;unhygienic intros)
   refine Ys fun o=>?_
   exact ⟨by unfold Y7;rw [hb,hk];rfl,o.sub⟩
  | true =>
   (refine Ja ?_;unhygienic intros)
   refine Ys fun o=>?_
   exact ⟨by unfold Y7;rw [hb,hk];rfl,o.sub⟩
def L6 (l:List UInt8) (a:Nat) (b:List UInt8):List UInt8:=l.take a++b++l.drop (a+b.length)
theorem Ae8 {l b:List UInt8} {a:Nat} (h:a+b.length≤l.length):(L6 l a b).length=l.length:=by simp [L6];omega
theorem Bm2 {l b:List UInt8} {a:Nat} (h:a+b.length≤l.length) (i:Nat):(L6 l a b)[i]?=if a≤i∧i<a+b.length then b[i-a]? else l[i]?:=by
 unfold L6
 by_cases h1:i<a
 ·rw [if_neg (by omega),List.append_assoc,List.getElem?_append_left (by simp;omega),List.getElem?_take,if_pos h1]
 ·rw [List.append_assoc,List.getElem?_append_right (by simp;omega),List.length_take,Nat.min_eq_left (by omega)]
  by_cases h2:i<a+b.length
  ·rw [if_pos ⟨by omega,h2⟩,List.getElem?_append_left (by omega)]
  ·rw [if_neg (by omega),List.getElem?_append_right (by omega),List.getElem?_drop];congr 1;omega
def slice (l:List UInt8) (a n:Nat):List UInt8:=(l.drop a).take n
theorem Bx5 (l:List UInt8) (a n i:Nat):(slice l a n)[i]?=if i<n then l[a+i]? else none:=by
 unfold slice;rw [List.getElem?_take];split
 ·rw [List.getElem?_drop]
 ·rfl
theorem Gv0 {l:List UInt8} {a n:Nat} (h:a+n≤l.length):(slice l a n).length=n:=by simp [slice];omega
abbrev Rg:=List (Nat × Nat)
def A12:List UInt8→Rg→List (List UInt8)→List UInt8
 | l,(lo,_)::rg,x::m=>A12 (L6 l lo x) rg m
 | l,_,_=>l
structure Fit (size:Nat) (rg:Rg) (m:List (List UInt8)):Prop where
 len:m.length=rg.length
 each:∀ (j lo n:Nat),rg[j]?=some (lo,n)→lo+n≤size∧∃ x,m[j]?=some x∧x.length=n
def RgOk (rg:Rg):Prop:=∀ (i j lo n lo' n':Nat),i≠j→rg[i]?=some (lo,n)→rg[j]?=some (lo',n')→lo+n≤lo'∨lo'+n'≤lo
theorem Fit.tail {size:Nat} {p:Nat × Nat} {rg:Rg} {x:List UInt8} {m:List (List UInt8)} (f:Fit size (p::rg) (x::m)):Fit size rg m:=⟨by simpa using f.len,fun j lo n h=>by simpa using f.each (j+1) lo n (by simpa using h)⟩
theorem Fit.head {size lo n:Nat} {rg:Rg} {x:List UInt8} {m:List (List UInt8)} (f:Fit size ((lo,n)::rg) (x::m)):lo+n≤size∧x.length=n:=by
 obtain ⟨h,y,hy,hl⟩:=f.each 0 lo n rfl
 simp at hy;subst hy;exact ⟨h,hl⟩
theorem RgOk.tail {p:Nat × Nat} {rg:Rg} (k:RgOk (p::rg)):RgOk rg:=fun i j lo n lo' n' hij hi hj=>k (i+1) (j+1) lo n lo' n' (by omega) (by simpa using hi) (by simpa using hj)
theorem Dp0:∀ {rg:Rg} {m:List (List UInt8)} {l:List UInt8},Fit l.length rg m→(A12 l rg m).length=l.length
 | [],m,l,f=>by simp [A12]
 | (lo,n)::rg,[],l,f=>by simp [A12]
 | (lo,n)::rg,x::m,l,f=>by
  have h:=f.head
  have e:=Ae8 (l:=l) (b:=x) (a:=lo) (by omega)
  unfold A12
  rw [Dp0 (by rw [e];exact f.tail),e]
theorem Ds9:∀ {rg:Rg} {m:List (List UInt8)} {l:List UInt8},Fit l.length rg m→∀ i,(∀ (j lo n:Nat),rg[j]?=some (lo,n)→i<lo∨lo+n≤i)→(A12 l rg m)[i]?=l[i]?
 | [],m,l,f,i,h=>by simp [A12]
 | (lo,n)::rg,[],l,f,i,h=>by simp [A12]
 | (lo,n)::rg,x::m,l,f,i,h=>by
  have h0:=f.head
  have e:=Ae8 (l:=l) (b:=x) (a:=lo) (by omega)
  unfold A12
  rw [Ds9 (by rw [e];exact f.tail) i (fun j lo' n' hj=>h (j+1) lo' n' (by simpa using hj)),Bm2 (by omega),if_neg]
  have:=h 0 lo n rfl;omega
theorem B66:∀ {rg:Rg} {m:List (List UInt8)} {l:List UInt8},Fit l.length rg m→RgOk rg→∀ (j lo n:Nat) (x:List UInt8),rg[j]?=some (lo,n)→m[j]?=some x→∀ i,i<n→(A12 l rg m)[lo+i]?=x[i]?
 | [],m,l,f,k,j,lo,n,x,h,hx,i,hi=>by simp at h
 | (lo0,n0)::rg,[],l,f,k,j,lo,n,x,h,hx,i,hi=>by simp at hx
 | (lo0,n0)::rg,x0::m,l,f,k,j,lo,n,x,h,hx,i,hi=>by
  have h0:=f.head
  have e:=Ae8 (l:=l) (b:=x0) (a:=lo0) (by omega)
  unfold A12
  cases j with
  | zero =>
   simp at h hx
   obtain ⟨rfl,rfl⟩:=h;subst hx
   rw [Ds9 (by rw [e];exact f.tail) (lo0+i) (fun j lo' n' hj=>by
    have:=k 0 (j+1) lo0 n0 lo' n' (by omega) rfl (by simpa using hj)
    omega),Bm2 (by omega),if_pos (by omega)]
   congr 1;omega
  | succ j=>exact B66 (by rw [e];exact f.tail) k.tail j lo n x (by simpa using h) (by simpa using hx) i hi
theorem Hx3 {rg:Rg} {m:List (List UInt8)} {l:List UInt8} (f:Fit l.length rg m) (k:RgOk rg) {j lo n:Nat} {x:List UInt8} (h:rg[j]?=some (lo,n)) (hx:m[j]?=some x) {a c:Nat} (hc:a+c≤n):slice (A12 l rg m) (lo+a) c=slice x a c:=by
 refine List.ext_getElem? fun i=>?_
 rw [Bx5,Bx5]
 split
 ·rw [Nat.add_assoc,B66 f k j lo n x h hx (a+i) (by omega)]
 ·rfl
theorem Fit.set {size:Nat} {rg:Rg} {m:List (List UInt8)} (f:Fit size rg m) {j lo n:Nat} (h:rg[j]?=some (lo,n)) {y:List UInt8} (hy:y.length=n):Fit size rg (m.set j y):=⟨by simpa using f.len,fun i lo' n' hi=>by
 obtain ⟨h1,z,hz,hl⟩:=f.each i lo' n' hi
 refine ⟨h1,?_⟩
 by_cases hij:j=i
 ·subst hij
  rw [h] at hi;cases hi
  exact ⟨y,by simp [(List.getElem?_eq_some_iff.1 hz).1],hy⟩
 ·exact ⟨z,by rw [List.getElem?_set_ne hij];exact hz,hl⟩⟩
theorem Hm0 {rg:Rg} {m:List (List UInt8)} {l:List UInt8} (f:Fit l.length rg m) (k:RgOk rg) {j lo n:Nat} {x:List UInt8} (h:rg[j]?=some (lo,n)) (hx:m[j]?=some x) {a:Nat} {b:List UInt8} (hc:a+b.length≤n):L6 (A12 l rg m) (lo+a) b=A12 l rg (m.set j (L6 x a b)):=by
 obtain ⟨h1,y,hy,hl⟩:=f.each j lo n h
 rw [hx] at hy;cases hy
 have e:=Ae8 (l:=x) (b:=b) (a:=a) (by omega)
 have f2:=f.set h (y:=L6 x a b) (by omega)
 have lp:=Dp0 f
 refine List.ext_getElem? fun i=>?_
 rw [Bm2 (by omega)]
 by_cases hi:lo≤i∧i<lo+n
 ·obtain ⟨i',rfl⟩:∃ i',i=lo+i':=⟨i-lo,by omega⟩
  rw [B66 f2 k j lo n (L6 x a b) h (by simp [(List.getElem?_eq_some_iff.1 hx).1]) i' (by omega),Bm2 (by omega),B66 f k j lo n x h hx i' (by omega)]
  by_cases h2:a≤i'∧i'<a+b.length
  ·rw [if_pos (by omega),if_pos h2];congr 1;omega
  ·rw [if_neg (by omega),if_neg h2]
 ·rw [if_neg (by omega)]
  by_cases ho:∃ (j' lo' n':Nat),rg[j']?=some (lo',n')∧lo'≤i∧i<lo'+n'
  ·obtain ⟨j',lo',n',hj',h3,h4⟩:=ho
   have hne:j≠j':=fun e=>by subst e;rw [h] at hj';cases hj';omega
   obtain ⟨_,z,hz,_⟩:=f.each j' lo' n' hj'
   obtain ⟨i',rfl⟩:∃ i',i=lo'+i':=⟨i-lo',by omega⟩
   rw [B66 f k j' lo' n' z hj' hz i' (by omega),B66 f2 k j' lo' n' z hj' (by rw [List.getElem?_set_ne hne];exact hz) i' (by omega)]
  ·have hall:∀ (j' lo' n':Nat),rg[j']?=some (lo',n')→i<lo'∨lo'+n'≤i:=fun j' lo' n' hj'=>by
    by_cases hh:lo'≤i∧i<lo'+n'
    ·exact absurd ⟨j',lo',n',hj',hh.1,hh.2⟩ ho
    ·omega
   rw [Ds9 f i hall,Ds9 f2 i hall]
structure RecS where
 kind:Int
 index:Int
deriving DecidableEq
abbrev Ab3 (r:RecS):List Value:=[int r.kind,int r.index]
structure Fr where
 S:KS
 N:Nat
 env:Int
 caps:List Int
 rg:Rg
structure FrOk (F:Fr):Prop where
 ok:KOk F.N F.S
 hN:F.N+1<1000000000
 ne:0<F.caps.length
 small:F.caps.length≤40
 len:F.rg.length=F.caps.length
 env:¬ (F.env<0∨F.env≥(F.S.envs.length:Int))
 pl:∀ (j:Nat) (cap:Int) (lo n:Nat),F.caps[j]?=some cap→F.rg[j]?=some (lo,n)→∀ (a m:Nat) (right:Int),right=1∨right=2→a+m≤n→P8 F.S.tabs F.S.regs F.env cap right a m=(((lo+a:Nat):Int),0)
 dj:RgOk F.rg
 own:∃ lo,F.rg[0]?=some (lo,492)
 brs:∀ (j lo n:Nat),0<j→F.rg[j]?=some (lo,n)→n=40
def Fr.at (F:Fr) (m:List (List UInt8)):KS:=Br6 F.S (A12 F.S.mem F.rg m)
structure CX where
 m:List (List UInt8)
 bad:List RecS
def Ah3:Nat→List RecS→List MapEntry
 | _,[]=>[]
 | i,r::l=>{ key:=.agg ⟨Ab3 r⟩,val:=int 1,born:=i }::Ah3 (i+1) l
abbrev Is2 (c k:Nat) (env:Int) (caps:List Int) (bad:List RecS) (x:Option Addr × Nat × Nat):List HP :=
 [pt c (.cells Di2 false [P0 k,int env,.slice x.1 caps.length x.2.1,.map (some x.2.2)]),slC false B8 1 x.1 caps.length x.2.1 (caps.map int),pt x.2.2 (.map (Ah3 0 bad) bad.length)]
def W7 (c k:Nat) (env:Int) (caps:List Int) (bad:List RecS):HP:=hex fun x=>sl (Is2 c k env caps bad x)
instance {c k:Nat} {env:Int} {caps:List Int} {bad:List RecS}:Chk (W7 c k env caps bad) (Is2 c k env caps bad):=⟨rfl⟩
abbrev cmF (c k:Nat) (F:Fr) (x:CX):List HP:=[E3 k (F.at x.m),W7 c k F.env F.caps x.bad,pu (Fit F.S.mem.length F.rg x.m)]
def cmC (c k:Nat) (F:Fr) (x:CX):HP:=hex fun _:Unit=>sl (cmF c k F x)
instance {c k:Nat} {F:Fr} {x:CX}:Chk (cmC c k F x) (fun _:Unit=>cmF c k F x):=⟨rfl⟩
def V0 (nc:Nat) (kind:Int):Int:=if kind=1 then 8 else if kind=2 then 12 else if kind=3 then 3+nc else 1
def I0 (nc:Nat) (r:RecS):Option (Nat × Nat × Nat) :=
 if r.index<0∨r.index≥V0 nc r.kind then none
 else if r.kind=1 then some (0,24*r.index.toNat,24)
 else if r.kind=2 then some (0,192+8*r.index.toNat,8)
 else if r.kind=3 then if r.index<4 then some (0,288+40*r.index.toNat,40) else some (r.index.toNat-3,0,40)
 else if r.kind=4 then some (0,448,40)
 else some (0,488,4)
def G33 (caps:List Int):Option (Nat × Nat × Nat)→List Value
 | some (j,a,n)=>[int (caps.getD j 0),int a,int n]
 | none=>[int 0,int 0,int 0]
theorem G27 (c k:Nat) (env:Int) (caps:List Int) (bad:List RecS) (kind:Int) (hs:caps.length≤40):CtP A9 Ab2 [P0 c,int kind] [W7 c k env caps bad] (int (V0 caps.length kind)):=by
 have e:IntKind.wrap .i64 (IntKind.wrap .i64 (4+(caps.length:Int))-1)=3+(caps.length:Int):=by rw [B0,B0];omega
 refine CtP.of D14 rfl fun h r=>Tr.eq (D18 ..) ?_;refine Je ?_
 refine B9 (W7 c k env caps bad) fun ⟨a,n,mb⟩=>?_;refine Je ?_
 unfold V0
 by_cases h1:kind=1
 ·refine Yt (by simpa using h1) ?_
  rw [if_pos h1];exact Jz
 refine Yf (by simpa using h1) ?_
 rw [if_neg h1]
 by_cases h2:kind=2
 ·refine Yt (by simpa using h2) ?_
  rw [if_pos h2];exact Jz
 refine Yf (by simpa using h2) ?_
 rw [if_neg h2]
 by_cases h3:kind=3
 ·refine Yt (by simpa using h3) ?_
  rw [if_pos h3];(refine Ja ?_;unhygienic intros)
  refine Ys fun o=>?_
  rw [e];exact ⟨by first|rfl|trivial,by first|rfl|trivial⟩
 refine Yf (by simpa using h3) ?_
 rw [if_neg h3];exact Jz
theorem Gw9 (c k:Nat) (env:Int) (caps:List Int) (bad:List RecS) (rc:RecS) (hs:caps.length≤40) (hn:0<caps.length):Ct A9 Z3 [P0 c,.agg ⟨Ab3 rc⟩] [W7 c k env caps bad] fun v own =>
  v=.tuple ⟨[.agg ⟨G33 caps (I0 caps.length rc)⟩,.bool (I0 caps.length rc).isSome]⟩∧own [W7 c k env caps bad]:=by
 have hg:∀ j,j<caps.length→(caps.map int)[j]?=some (int (caps.getD j 0)):=fun j hj=>by rw [List.getElem?_map,O4 0 hj];rfl
 refine Ct.of Dw0 rfl fun h r=>Tr.eq (Dv7 ..) ?_;refine Je ?_
 (refine Jb ?_;unhygienic intros)
 refine Tr.orG (c:=decide (rc.index≥V0 caps.length rc.kind)) (fun hb=>?_) ?_
 ·(refine Ja ?_;unhygienic intros)
  refine Tr.pcall (G27 c k env caps bad rc.kind hs) ?_;refine Je ?_;exact Jz
 by_cases hi:rc.index<0∨rc.index≥V0 caps.length rc.kind
 ·refine Yt (by simp only [Bool.or_eq_true,decide_eq_true_eq];exact hi) ?_
  have e:I0 caps.length rc=none:=by unfold I0;rw [if_pos hi]
  rw [e]
  (refine Ja ?_;unhygienic intros)
  refine Ys fun o=>?_
  exact ⟨rfl,o.sub⟩
 refine Yf (by simp only [Bool.or_eq_false_iff,decide_eq_false_iff_not];omega) ?_
 refine B9 (W7 c k env caps bad) fun ⟨a,n,mb⟩=>?_;refine Je ?_
 (refine Ja ?_;unhygienic intros;repeat(refine Gw ?_;rintro px rfl;refine Ja ?_;unhygienic intros))
 refine Tr.xIntS (v:=caps.getD 0 0) (hg 0 hn) ?_
 (refine Ja ?_;unhygienic intros)
 by_cases h1:rc.kind=1
 ·refine Yt (by simpa using h1) ?_
  have e:I0 caps.length rc=some (0,24*rc.index.toNat,24):=by unfold I0;rw [if_neg hi,if_pos h1]
  have hm:V0 caps.length rc.kind=8:=by unfold V0;rw [if_pos h1]
  have e1:IntKind.wrap .i64 (24*rc.index)=((24*rc.index.toNat:Nat):Int):=by rw [B0];omega
  rw [e,e1]
  (refine Ja ?_;unhygienic intros)
  refine B7 (W7 c k env caps bad) ⟨some px,n,mb⟩ ?_;refine Je ?_
  refine Ys fun o=>?_
  exact ⟨rfl,o.sub⟩
 refine Yf (by simpa using h1) ?_
 by_cases h2:rc.kind=2
 ·(refine Ja ?_;unhygienic intros)
  refine Yt (by simpa using h2) ?_
  have e:I0 caps.length rc=some (0,192+8*rc.index.toNat,8):=by unfold I0;rw [if_neg hi,if_neg h1,if_pos h2]
  have hm:V0 caps.length rc.kind=12:=by unfold V0;rw [if_neg h1,if_pos h2]
  have e1:IntKind.wrap .i64 (192+IntKind.wrap .i64 (8*rc.index))=((192+8*rc.index.toNat:Nat):Int):=by rw [B0,B0];omega
  rw [e,e1]
  (refine Ja ?_;unhygienic intros)
  refine B7 (W7 c k env caps bad) ⟨some px,n,mb⟩ ?_;refine Je ?_
  refine Ys fun o=>?_
  exact ⟨rfl,o.sub⟩
 (refine Ja ?_;unhygienic intros)
 refine Yf (by simpa using h2) ?_
 (refine Jb ?_;unhygienic intros)
 refine Tr.andG (c:=decide (rc.index<4)) (fun hb=>?_) ?_
 ·exact Jz
 by_cases h3:rc.kind=3
 ·have hm:V0 caps.length rc.kind=3+caps.length:=by unfold V0;rw [if_neg h1,if_neg h2,if_pos h3]
  by_cases h4:rc.index<4
  ·refine Yt (by simp [h3,h4]) ?_
   have e:I0 caps.length rc=some (0,288+40*rc.index.toNat,40):=by unfold I0;rw [if_neg hi,if_neg h1,if_neg h2,if_pos h3,if_pos h4]
   have e1:IntKind.wrap .i64 (288+IntKind.wrap .i64 (40*rc.index))=((288+40*rc.index.toNat:Nat):Int):=by rw [B0,B0];omega
   rw [e,e1]
   (refine Ja ?_;unhygienic intros)
   refine B7 (W7 c k env caps bad) ⟨some px,n,mb⟩ ?_;refine Je ?_
   refine Ys fun o=>?_
   exact ⟨rfl,o.sub⟩
  ·refine Yf (by simp [h4]) ?_
   have e:I0 caps.length rc=some (rc.index.toNat-3,0,40):=by unfold I0;rw [if_neg hi,if_neg h1,if_neg h2,if_pos h3,if_neg h4]
   have e1:IntKind.wrap .i64 (IntKind.wrap .i64 (rc.index-4)+1)=((rc.index.toNat-3:Nat):Int):=by rw [B0,B0];omega
   rw [e,e1]
   (refine Ja ?_;unhygienic intros)
   refine Yt (by simpa using h3) ?_
   (refine Ja ?_;unhygienic intros)
   rw [Int.toNat_natCast]
   refine Je ?_
   refine Tr.xIntS (v:=caps.getD (rc.index.toNat-3) 0) (hg _ (by omega)) ?_
   (refine Ja ?_;unhygienic intros)
   refine B7 (W7 c k env caps bad) ⟨some px,n,mb⟩ ?_;refine Je ?_
   refine Ys fun o=>?_
   exact ⟨rfl,o.sub⟩
 refine Yf (by simp [h3]) ?_
 (refine Ja ?_;unhygienic intros)
 refine Yf (by simpa using h3) ?_
 (refine Ja ?_;unhygienic intros)
 by_cases h4:rc.kind=4
 ·refine Yt (by simpa using h4) ?_
  have e:I0 caps.length rc=some (0,448,40):=by unfold I0;rw [if_neg hi,if_neg h1,if_neg h2,if_neg h3,if_pos h4]
  rw [e]
  (refine Ja ?_;unhygienic intros)
  refine B7 (W7 c k env caps bad) ⟨some px,n,mb⟩ ?_;refine Je ?_
  refine Ys fun o=>?_
  exact ⟨rfl,o.sub⟩
 refine Yf (by simpa using h4) ?_
 have e:I0 caps.length rc=some (0,488,4):=by unfold I0;rw [if_neg hi,if_neg h1,if_neg h2,if_neg h3,if_neg h4]
 rw [e]
 (refine Ja ?_;unhygienic intros)
 refine B7 (W7 c k env caps bad) ⟨some px,n,mb⟩ ?_;refine Je ?_
 refine Ys fun o=>?_
 exact ⟨rfl,o.sub⟩
theorem H93:Ak4 PR 8 E2=some [TypeDesc.int .i64,TypeDesc.int .i64]:=by kernel_rfl
theorem Io2:Ed9 PR E2=some true:=by kernel_rfl
instance {a b:Int}:KeyC PR E2 (.agg ⟨[.int .i64 a,.int .i64 b]⟩):=⟨fun x=>by
 unfold NN.keyN;rw [H93,Io2];rfl⟩
theorem Ep0 (r:RecS):∀ (l:List RecS) (i j:Nat),Ah9 (.agg ⟨Ab3 r⟩) (Ah3 j l) i=some (if r ∈ l then some (i+l.idxOf r) else none)
 | [],i,j=>by simp [Ah3,Ah9]
 | q::l,i,j=>by
  have ih:=Ep0 r l (i+1) (j+1)
  obtain ⟨qk,qi⟩:=q
  obtain ⟨rk,ri⟩:=r
  simp only [Ah3,Ah9,Bf6,Ab3,eqs,eq1,decide_true,List.mem_cons] at ih ⊢
  by_cases h:rk=qk∧ri=qi
  ·obtain ⟨rfl,rfl⟩:=h
   simp
  ·have e:(rk==qk && (ri==qi && true))=false:=by
    rw [Bool.and_eq_false_iff]
    by_cases h1:rk=qk
    ·right;simp;intro h2;exact h ⟨h1,h2⟩
    ·left;simpa using h1
   have hne:¬ (({ kind:=rk,index:=ri }:RecS)={ kind:=qk,index:=qi }):=fun e=>by
    rw [RecS.mk.injEq] at e;exact h e
   rw [e]
   simp only [hne,false_or]
   rw [ih,List.idxOf_cons]
   have:(({ kind:=qk,index:=qi }:RecS)=={ kind:=rk,index:=ri })=false:=by
    rw [beq_eq_false_iff_ne];exact fun e=>hne e.symm
   rw [this,cond_false]
   split<;>simp;omega
theorem Du3:∀ (l:List RecS) (j:Nat),(Ah3 j l).length=l.length
 | [],_=>rfl
 | _::l,j=>by simp [Ah3,Du3 l]
theorem Hg3:∀ (l:List RecS) (j i:Nat) (r:RecS),l[i]?=some r→(Ah3 j l)[i]?=some { key:=.agg ⟨Ab3 r⟩,val:=int 1,born:=j+i }
 | [],_,i,r,h=>by simp at h
 | q::l,j,0,r,h=>by simp at h;subst h;rfl
 | q::l,j,i+1,r,h=>by
  have:=Hg3 l (j+1) i r (by simpa using h)
  rw [Ah3,List.getElem?_cons_succ,this];congr 2;omega
theorem Bx1 (r:RecS) (l:List RecS):Am0 (int 0) (.agg ⟨Ab3 r⟩) (Ah3 0 l)=some (if r ∈ l then (int 1,true) else (int 0,false)):=by
 unfold Am0
 rw [Ep0]
 by_cases h:r ∈ l
 ·rw [if_pos h,if_pos h]
  have hi:=List.idxOf_lt_length_of_mem h
  have hg:l[l.idxOf r]?=some r:=by rw [List.getElem?_eq_getElem hi,List.getElem_idxOf]
  simp only [Nat.zero_add]
  rw [Hg3 l 0 _ r hg]
 ·rw [if_neg h,if_neg h]
theorem G98:∀ (l m:List RecS) (j:Nat),Ah3 j (l++m)=Ah3 j l++Ah3 (j+l.length) m
 | [],m,j=>by simp [Ah3]
 | q::l,m,j=>by simp only [List.cons_append,Ah3,G98 l m (j+1),List.length_cons];congr 2;congr 1;omega
theorem Eh8 {r:RecS} {l:List RecS} (h:¬ r ∈ l):D09 (int 0) (.agg ⟨Ab3 r⟩) (Ah3 0 l) l.length=some (int 0,l.length,.map (Ah3 0 l++[{ key:=.agg ⟨Ab3 r⟩,val:=int 0,born:=l.length }]) (l.length+1)):=by
 unfold D09;rw [Ep0,if_neg h]
theorem Gu9 (r:RecS) (e:MapEntry):∀ (l:List RecS) (i j:Nat),¬ r ∈ l→Ah9 (.agg ⟨Ab3 r⟩) (Ah3 j l++[e]) i=Ah9 (.agg ⟨Ab3 r⟩) [e] (i+l.length)
 | [],i,j,h=>by simp [Ah3]
 | q::l,i,j,h=>by
  have ih:=Gu9 r e l (i+1) (j+1) (fun hm=>h (List.mem_cons_of_mem _ hm))
  have hq:Bf6 (.agg ⟨Ab3 r⟩) (.agg ⟨Ab3 q⟩)=some false:=by
   obtain ⟨qk,qi⟩:=q
   obtain ⟨rk,ri⟩:=r
   simp only [Bf6,Ab3,eqs,eq1,decide_true]
   congr 1
   rw [Bool.and_eq_false_iff]
   by_cases h1:rk=qk
   ·right;simp;intro h2;exact h (by subst h1 h2;exact List.mem_cons_self ..)
   ·left;simpa using h1
  show (match Bf6 (.agg ⟨Ab3 r⟩) (.agg ⟨Ab3 q⟩) with
   | some true=>some (some i)
   | some false=>Ah9 (.agg ⟨Ab3 r⟩) (Ah3 (j+1) l++[e]) (i+1)
   | none=>none)=_
  rw [hq]
  simp only
  rw [ih];congr 1;simp;omega
theorem Dz4 {r:RecS} {l:List RecS} (h:¬ r ∈ l):Am0 (int 0) (.agg ⟨Ab3 r⟩) (Ah3 0 l++[{ key:=.agg ⟨Ab3 r⟩,val:=int 0,born:=l.length }])=some (int 0,true):=by
 unfold Am0
 rw [Gu9 r _ l 0 0 h]
 obtain ⟨rk,ri⟩:=r
 simp only [Ah9,Bf6,Ab3,eqs,eq1,decide_true,BEq.rfl,Bool.and_self,Nat.zero_add]
 rw [List.getElem?_append_right (by rw [Du3];exact Nat.le_refl _),Du3];simp
theorem Dc3:∀ (l:List RecS) (j:Nat) (n:Nat) (e:MapEntry) (i:Nat),e.born=n→j+l.length≤n→Bl9 (n:Int) (Ah3 j l++[e]) i=some (i+l.length)
 | [],j,n,e,i,h,hl=>by simp [Ah3,Bl9,h]
 | q::l,j,n,e,i,h,hl=>by
  have ih:=Dc3 l (j+1) n e (i+1) h (by simp at hl;omega)
  simp only [Ah3,List.cons_append,Bl9]
  have:(((j:Nat):Int)==(n:Int))=false:=by simp at hl ⊢;omega
  rw [this,cond_false,ih];congr 1;simp;omega
theorem Gv4 (f:MapEntry→MapEntry) (e:MapEntry):∀ (l:List MapEntry),modN f l.length (l++[e])=l++[f e]
 | []=>rfl
 | q::l=>by simp [modN,Gv4 f e l]
theorem Ea0 (r:RecS) (l:List RecS):modN (fun e=>{ e with val:=int (IntKind.wrap .i64 (0+1)) }) l.length (Ah3 0 l++[{ key:=.agg ⟨Ab3 r⟩,val:=int 0,born:=l.length }])=Ah3 0 (l++[r]):=by
 rw [show l.length=(Ah3 0 l).length from (Du3 l 0).symm,Gv4,G98]
 simp [Ah3,Du3];decide
theorem Fr.mem_at (F:Fr) (m:List (List UInt8)):(F.at m).mem=A12 F.S.mem F.rg m:=rfl
theorem Fr.at_ok {F:Fr} (k:FrOk F) {m:List (List UInt8)} (f:Fit F.S.mem.length F.rg m):KOk F.N (F.at m):=by
 have:=k.ok
 exact ⟨this.envs,this.tabs,this.space,this.quota,by rw [Fr.mem_at,Dp0 f];exact this.mem,this.regs,this.may,this.mayl,this.nsect,this.sects,this.now⟩
theorem Ig9 {F:Fr} (k:FrOk F) {r:RecS} {j a n:Nat} (h:I0 F.caps.length r=some (j,a,n)):∃ lo z,F.rg[j]?=some (lo,z)∧a+n≤z∧j<F.caps.length:=by
 obtain ⟨lo0,h0⟩:=k.own
 have hl:=k.len;have hn:=k.ne
 unfold I0 at h
 split at h;· cases h
 rename_i hi
 split at h
 ·rename_i h1
  have hm:V0 F.caps.length r.kind=8:=by unfold V0;rw [if_pos h1]
  cases h;exact ⟨lo0,492,h0,by omega,hn⟩
 rename_i h1
 split at h
 ·rename_i h2
  have hm:V0 F.caps.length r.kind=12:=by unfold V0;rw [if_neg h1,if_pos h2]
  cases h;exact ⟨lo0,492,h0,by omega,hn⟩
 rename_i h2
 split at h
 ·rename_i h3
  have hm:V0 F.caps.length r.kind=3+F.caps.length:=by unfold V0;rw [if_neg h1,if_neg h2,if_pos h3]
  split at h
  ·cases h;exact ⟨lo0,492,h0,by omega,hn⟩
  ·cases h
   have hlt:r.index.toNat-3<F.rg.length:=by omega
   have hg:=List.getElem?_eq_getElem hlt
   generalize hx:F.rg[r.index.toNat-3]=x at hg
   obtain ⟨lo,z⟩:=x
   have:=k.brs _ lo z (by omega) hg
   exact ⟨lo,z,hg,by omega,by omega⟩
 split at h<;>(cases h;exact ⟨lo0,492,h0,by omega,hn⟩)
def Aa3 (kind:Int):Nat:=if kind=1 then 24 else if kind=2 then 8 else if kind=3 then 40 else if kind=4 then 40 else 4
theorem Eb6 {nc:Nat} {r:RecS} {j a n:Nat} (h:I0 nc r=some (j,a,n)):n=Aa3 r.kind:=by
 unfold I0 at h;unfold Aa3
 split at h;· cases h
 split at h
 ·rename_i h1;cases h;rw [if_pos h1]
 rename_i h1
 rw [if_neg h1]
 split at h
 ·rename_i h2;cases h;rw [if_pos h2]
 rename_i h2
 rw [if_neg h2]
 split at h
 ·rename_i h3;rw [if_pos h3];split at h<;>(cases h;rfl)
 rename_i h3
 rw [if_neg h3]
 split at h
 ·rename_i h4;cases h;rw [if_pos h4]
 ·rename_i h4;cases h;rw [if_neg h4]
def rdX (X:CX) (r:RecS):Option (List UInt8) :=
 match I0 X.m.length r with
 | some (j,a,n)=>if r ∈ X.bad then none else some (slice (X.m.getD j []) a n)
 | none=>none
def wrX (X:CX) (r:RecS) (b:List UInt8) (ok:Bool):Bool × CX :=
 match I0 X.m.length r with
 | some (j,a,n)=>if ok=true∧¬ r ∈ X.bad then (true,{ X with m:=X.m.set j (L6 (X.m.getD j []) a b) }) else (false,X)
 | none=>(false,X)
theorem Fit.mlen {F:Fr} (k:FrOk F) {m:List (List UInt8)} (f:Fit F.S.mem.length F.rg m):m.length=F.caps.length:=by rw [f.len,k.len]
theorem Eb9 {F:Fr} (k:FrOk F) {m:List (List UInt8)} (f:Fit F.S.mem.length F.rg m) {r:RecS} {j a n:Nat} (h:I0 F.caps.length r=some (j,a,n)) :
  ∃ lo z cap,F.caps[j]?=some cap∧F.rg[j]?=some (lo,z)∧a+n≤z∧m[j]?=some (m.getD j [])∧(m.getD j []).length=z∧lo+z≤F.S.mem.length∧cap=F.caps.getD j 0:=by
 obtain ⟨lo,z,hr,ha,hj⟩:=Ig9 k h
 obtain ⟨h1,x,hx,hl⟩:=f.each j lo z hr
 have e:m.getD j []=x:=by rw [List.getD_eq_getElem?_getD,hx];rfl
 exact ⟨lo,z,F.caps.getD j 0,O4 0 hj,hr,ha,by rw [e];exact hx,by rw [e];exact hl,h1,rfl⟩
theorem Ip1 {F:Fr} (k:FrOk F) {X:CX} (f:Fit F.S.mem.length F.rg X.m) {r:RecS} {l:List UInt8} (h:rdX X r=some l):l.length=Aa3 r.kind:=by
 unfold rdX at h
 rw [f.mlen k] at h
 cases hp:I0 F.caps.length r with
 | none=>rw [hp] at h;cases h
 | some p =>
  obtain ⟨j,a,n⟩:=p
  rw [hp] at h
  obtain ⟨lo,z,cap,_,_,ha,hx,hl,_⟩:=Eb9 k f hp
  simp only at h
  split at h
  ·cases h
  ·cases h;rw [Gv0 (by omega),Eb6 hp]
theorem Iu7 {F:Fr} (k:FrOk F) {m:List (List UInt8)} (f:Fit F.S.mem.length F.rg m) {r:RecS} {j a n:Nat} (h:I0 F.caps.length r=some (j,a,n)) :
  Z5 (F.at m) F.env ⟨1,F.caps.getD j 0,(a:Int),(n:Int),0,0,[]⟩=((0,0,slice (m.getD j []) a n),F.at m):=by
 obtain ⟨lo,z,cap,hc,hr,ha,hx,hl,hz,rfl⟩:=Eb9 k f h
 have hp:=k.pl j _ lo z hc hr a n 1 (.inl rfl) ha
 have lp:=Dp0 f
 have hb:Dz1 (A12 F.S.mem F.rg m) ((lo+a:Nat):Int) (n:Int)=some (slice (m.getD j []) a n):=by
  unfold Dz1
  rw [if_pos (by rw [lp];omega),Int.toNat_natCast,Int.toNat_natCast]
  rw [← Hx3 f k.dj hr hx ha];rfl
 have e:An6 (F.at m).tabs (F.at m).regs (F.at m).mem F.env (F.caps.getD j 0) (a:Int) (n:Int)=(slice (m.getD j []) a n,0):=by
  unfold An6
  rw [show P8 (F.at m).tabs (F.at m).regs F.env (F.caps.getD j 0) 1 (a:Int) (n:Int)=(((lo+a:Nat):Int),0) from hp]
  rw [if_neg (by simp),show Dz1 (F.at m).mem _ _=_ from hb]
 unfold Z5
 rw [if_neg (show ¬ (F.env<0∨F.env≥((F.at m).envs.length:Int)) from k.env)]
 unfold kDo
 rw [if_pos rfl,e]
theorem It0 {F:Fr} (k:FrOk F) {m:List (List UInt8)} (f:Fit F.S.mem.length F.rg m) {r:RecS} {j a n:Nat} (h:I0 F.caps.length r=some (j,a,n)) {b:List UInt8} (hb:b.length=n) :
  Z5 (F.at m) F.env ⟨2,F.caps.getD j 0,(a:Int),0,0,0,b⟩=((0,0,[]),F.at (m.set j (L6 (m.getD j []) a b))):=by
 obtain ⟨lo,z,cap,hc,hr,ha,hx,hl,hz,rfl⟩:=Eb9 k f h
 have hp:=k.pl j _ lo z hc hr a n 2 (.inr rfl) ha
 have lp:=Dp0 f
 have hs:Bb7 (A12 F.S.mem F.rg m) ((lo+a:Nat):Int) b=some (A12 F.S.mem F.rg (m.set j (L6 (m.getD j []) a b))):=by
  unfold Bb7
  rw [if_pos (by rw [lp];omega),Int.toNat_natCast]
  rw [← Hm0 f k.dj hr hx (by omega)];rfl
 have e:Ak5 (F.at m).tabs (F.at m).regs (F.at m).mem F.env (F.caps.getD j 0) (a:Int) b=(0,A12 F.S.mem F.rg (m.set j (L6 (m.getD j []) a b))):=by
  unfold Ak5
  rw [hb,show P8 (F.at m).tabs (F.at m).regs F.env (F.caps.getD j 0) 2 (a:Int) (n:Int)=(((lo+a:Nat):Int),0) from hp]
  rw [if_neg (by simp),show Bb7 (F.at m).mem _ _=_ from hs]
 unfold Z5
 rw [if_neg (show ¬ (F.env<0∨F.env≥((F.at m).envs.length:Int)) from k.env)]
 unfold kDo
 rw [if_neg (show ¬ ((2:Int)=1) by decide),if_pos rfl,e];rfl
theorem Ip5 {F:Fr} (k:FrOk F) {X:CX} (f:Fit F.S.mem.length F.rg X.m) {r:RecS} {b:List UInt8} {ok:Bool} (hb:ok=true→b.length=Aa3 r.kind):Fit F.S.mem.length F.rg (wrX X r b ok).2.m:=by
 unfold wrX
 rw [f.mlen k]
 cases hp:I0 F.caps.length r with
 | none=>exact f
 | some p =>
  obtain ⟨j,a,n⟩:=p
  obtain ⟨lo,z,cap,hc,hr,ha,hx,hl,hz,_⟩:=Eb9 k f hp
  simp only
  split
  ·rename_i hk
   exact f.set hr (by rw [Ae8 (by rw [hb hk.1,← Eb6 hp];omega)];exact hl)
  ·exact f
instance {caps:List Int} {o:Option (Nat × Nat × Nat)}:LenC (G33 caps o) 3:=⟨by cases o<;>rfl⟩
theorem Ic3 (caps:List Int) (o:Option (Nat × Nat × Nat)):(G33 caps o).all Value.oneCell=true:=by cases o<;>rfl
instance {caps:List Int} {o:Option (Nat × Nat × Nat)} {cs:List Value} [k:LenC cs 3]:SetsC cs 0 (G33 caps o) (G33 caps o):=⟨Bk0 k.ok LenC.ok (Ic3 caps o)⟩
instance {rc:RecS}:PartC (Ab3 rc) 0 2 (Ab3 rc):=⟨rfl⟩
theorem Hp6 (r:RecS) (l:List RecS):(if r ∈ l then (int 1,true) else (int 0,false))=(int (if r ∈ l then 1 else 0),decide (r ∈ l)):=by split<;>simp [*]
theorem Hp0 (r:RecS) (l:List RecS):decide ((if r ∈ l then (1:Int) else 0)>0)=decide (r ∈ l):=by split<;>simp [*]
theorem D55 (k:Nat) (S:KS) (N:Nat) (ok:KOk N S) (hN:N+1<1000000000) (env:Int) (c:CallS) (ba:Option Addr) (bc:Nat) (ro:Bool) (h5:c.op≠5) :
  Ct A9 S5 [P0 k,int env,.agg ⟨Bl5 c ba bc⟩] [E3 k S,slC ro A5 1 ba c.b.length bc (A0 c.b)] fun v own=>∃ x d,v=.agg ⟨[int (Z5 S env c).1.1,int (Z5 S env c).1.2.1,.slice x (Z5 S env c).1.2.2.length d]⟩ ∧
    own [slC false A5 1 x (Z5 S env c).1.2.2.length d (A0 (Z5 S env c).1.2.2),E3 k (Z5 S env c).2,slC ro A5 1 ba c.b.length bc (A0 c.b)]:=by
 intro h r o
 obtain ⟨pq,o1⟩:=Own.ex (f:=fun pq=>slX ro A5 1 ba c.b.length bc pq (A0 c.b)) (o.perm (.swap _ _ _))
 obtain ⟨v,h',e,x,d,rfl,o2⟩:=Ia2 k S N ok hN env c ba bc ro pq h5 h r (o1.perm (.swap _ _ _))
 refine ⟨_,h',e,x,d,rfl,?_⟩
 have o3:=o2.picks [2] rfl
 exact (Own.inex (f:=fun pq=>slX ro A5 1 ba c.b.length bc pq (A0 c.b)) pq o3).picks [1,1,0] rfl
theorem Ea3 (c k:Nat) (F:Fr) (X:CX) (rc:RecS) (ok:FrOk F):Ct A9 O6 [P0 c,.agg ⟨Ab3 rc⟩] [cmC c k F X] fun v own =>
  (∃ l a cp,rdX X rc=some l∧l.length=Aa3 rc.kind∧v=.tuple ⟨[.slice a l.length cp,.bool true]⟩∧own [slC false A5 1 a l.length cp (A0 l),cmC c k F X]) ∨
  (rdX X rc=none∧v=.tuple ⟨[.slice none 0 0,.bool false]⟩∧own [cmC c k F X]):=by
 refine Ct.of D32 rfl fun h r=>Tr.eq (D45 ..) ?_;refine Je ?_
 refine B9 (cmC c k F X) fun u=>?_;refine Je ?_
 refine Q3 2 rfl fun f=>?_
 (refine Ja ?_;unhygienic intros)
 refine Yc (Gw9 c k F.env F.caps X.bad rc ok.small ok.ne) ?_;rintro _ h ⟨rfl,o⟩<;>(refine Jg o ?_;unhygienic intros)
 have em:=f.mlen ok
 cases hp:I0 F.caps.length rc with
 | none =>
  (refine Jb ?_;unhygienic intros)
  refine Yb (Yt rfl ?_)
  refine Ys fun o=>(?_:Tr _ _ _ _) o;refine Je ?_
  (refine Ja ?_;unhygienic intros)
  refine B7 (cmC c k F X) () ?_;refine Je ?_
  refine Ys fun o=>?_
  exact .inr ⟨by unfold rdX;rw [em,hp],rfl,o.sub⟩
 | some p =>
  obtain ⟨j,a,n⟩:=p
  refine B9 (W7 c k F.env F.caps X.bad) fun ⟨ca,cn,mb⟩=>?_;refine Je ?_
  (refine Jb ?_;unhygienic intros)
  refine Tr.orG (c:=decide (rc ∈ X.bad)) (fun _=>?_) ?_
  ·(refine Ja ?_;unhygienic intros)
   rw [Bx1,Hp6]
   (refine Ja ?_;unhygienic intros)
   refine Ys fun o=>?_
   rw [Hp0];exact ⟨by first|rfl|trivial,by first|rfl|trivial⟩
  by_cases hb:rc ∈ X.bad
  ·rw [decide_eq_true hb]
   (refine Ja ?_;unhygienic intros)
   refine B7 (W7 c k F.env F.caps X.bad) ⟨ca,cn,mb⟩ ?_;refine Je ?_
   refine B7 (cmC c k F X) () ?_;refine Je ?_
   refine Ys fun o=>?_
   exact .inr ⟨by unfold rdX;rw [em,hp];exact if_pos hb,rfl,o.sub⟩
  ·rw [decide_eq_false hb]
   refine Yf rfl ?_
   (refine Ja ?_;unhygienic intros)
   refine B7 (W7 c k F.env F.caps X.bad) ⟨ca,cn,mb⟩ ?_;refine Je ?_
   have J:=Im9 k (F.at X.m) F.N (F.at_ok ok f) ok.hN F.env 1 (F.caps.getD j 0) (a:Int) (n:Int) 0 0 (by decide)
   rw [Iu7 ok f hp] at J
   refine Yc (J) ?_;rintro _ h ⟨y,d,rfl,o⟩<;>(refine Jf o ?_;unhygienic intros)
   refine Yf rfl ?_
   (refine Ja ?_;unhygienic intros)
   refine B7 (cmC c k F X) () ?_;refine Je ?_
   refine Ys fun o=>?_
   have e:rdX X rc=some (slice (X.m.getD j []) a n):=by unfold rdX;rw [em,hp];exact if_neg hb
   exact .inl ⟨_,y,d,e,Ip1 ok f e,rfl,o.sub⟩
theorem Bx2 (c k:Nat) (F:Fr) (X:CX) (rc:RecS) (ok:FrOk F) (bs:List UInt8) (g:Bool) (ba:Option Addr) (bc:Nat) (hb:g=true→bs.length=Aa3 rc.kind) :
  Ct A9 H6 [P0 c,.agg ⟨Ab3 rc⟩,.slice ba bs.length bc,.bool g] [cmC c k F X,slC false A5 1 ba bs.length bc (A0 bs)] fun v own =>
   v=.bool (wrX X rc bs g).1∧own [cmC c k F (wrX X rc bs g).2,slC false A5 1 ba bs.length bc (A0 bs)]:=by
 refine Ct.of Dv5 rfl fun h r=>Tr.eq (Dv6 ..) ?_;refine Je ?_
 refine B9 (cmC c k F X) fun u=>?_;refine Je ?_
 refine Q3 2 rfl fun f=>?_
 (refine Ja ?_;unhygienic intros)
 refine Yc (Gw9 c k F.env F.caps X.bad rc ok.small ok.ne) ?_;rintro _ h ⟨rfl,o⟩<;>(refine Jg o ?_;unhygienic intros)
 have em:=f.mlen ok
 cases hp:I0 F.caps.length rc with
 | none =>
  (refine Jb ?_;unhygienic intros)
  refine Yb (Yt rfl ?_)
  refine Ys fun o=>(?_:Tr _ _ _ _) o;refine Je ?_
  refine Yb (Yt rfl ?_)
  refine Ys fun o=>(?_:Tr _ _ _ _) o;refine Je ?_
  (refine Ja ?_;unhygienic intros)
  refine B7 (cmC c k F X) () ?_;refine Je ?_
  refine Ys fun o=>?_
  have e:wrX X rc bs g=(false,X):=by unfold wrX;rw [em,hp]
  rw [e]
  exact ⟨by first|rfl|trivial,o.sub⟩
 | some p =>
  obtain ⟨j,a,n⟩:=p
  refine B9 (W7 c k F.env F.caps X.bad) fun ⟨ca,cn,mb⟩=>?_;refine Je ?_
  (refine Jb ?_;unhygienic intros)
  refine Yb (Yf rfl ?_)
  refine Ys fun o=>(?_:Tr _ _ _ _) o;refine Je ?_
  (refine Jb ?_;unhygienic intros)
  refine Tr.orG (c:=decide (rc ∈ X.bad)) (fun _=>?_) ?_
  ·(refine Ja ?_;unhygienic intros)
   rw [Bx1,Hp6]
   (refine Ja ?_;unhygienic intros)
   refine Ys fun o=>?_
   rw [Hp0];exact ⟨by first|rfl|trivial,by first|rfl|trivial⟩
  by_cases hg:g=true∧¬ rc ∈ X.bad
  ·have e:wrX X rc bs g=(true,{ X with m:=X.m.set j (L6 (X.m.getD j []) a bs) }):=by unfold wrX;rw [em,hp];exact if_pos hg
   have f2:=Ip5 (r:=rc) (b:=bs) (ok:=g) ok f hb
   rw [e] at f2
   obtain ⟨rfl,hg2⟩:=hg
   rw [e,decide_eq_false hg2]
   refine Yf rfl ?_
   (refine Ja ?_;unhygienic intros)
   refine B7 (W7 c k F.env F.caps X.bad) ⟨ca,cn,mb⟩ ?_;refine Je ?_
   have hl:bs.length=n:=by rw [hb rfl,Eb6 hp]
   have J:=D55 k (F.at X.m) F.N (F.at_ok ok f) ok.hN F.env ⟨2,F.caps.getD j 0,(a:Int),0,0,0,bs⟩ ba bc false (show ((2:Int)≠5) by decide)
   rw [It0 ok f hp hl] at J
   refine Yc (J) ?_;rintro _ h ⟨y,d,rfl,o⟩<;>(refine Jf o ?_;unhygienic intros)
   refine Ap3 (show Fit F.S.mem.length F.rg (X.m.set j (L6 (X.m.getD j []) a bs)) from f2) ?_
   refine B7 (cmC c k F { X with m:=X.m.set j (L6 (X.m.getD j []) a bs) }) () ?_;refine Je ?_
   refine Ys fun o=>?_
   exact ⟨rfl,o.sub⟩
  ·have e:wrX X rc bs g=(false,X):=by unfold wrX;rw [em,hp];exact if_neg hg
   rw [e]
   refine Yt ?_ ?_
   ·cases g with
    | false=>rfl
    | true=>simpa using hg
   refine B7 (W7 c k F.env F.caps X.bad) ⟨ca,cn,mb⟩ ?_;refine Je ?_
   refine B7 (cmC c k F X) () ?_;refine Je ?_
   refine Ys fun o=>?_
   exact ⟨by first|rfl|trivial,o.sub⟩
def W8 {α:Type} (dec:List UInt8→α × Int) (z:α) (X:CX) (rc:RecS):(α × Int) × CX :=
 match rdX X rc with
 | some l=>(dec l,if (dec l).2=2 then { X with bad:=X.bad++[rc] } else X)
 | none=>((z,2),X)
theorem Eg5 {X:CX} {rc:RecS} {l:List UInt8} (h:rdX X rc=some l):¬ rc ∈ X.bad:=by
 unfold rdX at h
 split at h
 ·split at h
  ·cases h
  ·assumption
 ·cases h
theorem H40 (l:List UInt8) (h:(Y7 l).2≠1):(Y7 l).1=.zero:=by
 unfold Y7 at *;split<;>first|rfl|(split<;>first|rfl|(simp_all;done))
theorem H46 (l:List UInt8) (h:(Z0 l).2≠1):(Z0 l).1=.zero:=by
 unfold Z0 at *;split<;>first|rfl|(split<;>first|rfl|(simp_all;done))
theorem H98 (l:List UInt8) (h:(N9 l).2≠1):(N9 l).1=.zero:=by
 unfold N9 at *;split<;>first|rfl|(split<;>first|rfl|(simp_all;done))
theorem Io9 (c k:Nat) (F:Fr) (X:CX) (rc:RecS) (ok:FrOk F) (hk:Aa3 rc.kind=24):Ct A9 L1 [P0 c,.agg ⟨Ab3 rc⟩,.func (.func A68) ⟨[]⟩ ⟨[]⟩] [cmC c k F X] fun v own =>
  v=.tuple ⟨[.agg ⟨D5 (W8 Y7 .zero X rc).1.1⟩,int (W8 Y7 .zero X rc).1.2]⟩∧own [cmC c k F (W8 Y7 .zero X rc).2]:=by
 refine Ct.of Aq0 rfl fun h r=>Tr.eq (Dl6 ..) ?_;refine Je ?_
 (refine Ja ?_;unhygienic intros)
 refine Yc (Ea3 c k F X rc ok) ?_
 rintro v h (⟨l,a,cp,hr,hl,rfl,o⟩|⟨hr,rfl,o⟩)
 ·refine (?_:Tr _ _ _ _) o
  refine Je ?_
  have e:W8 Y7 .zero X rc=(Y7 l,if (Y7 l).2=2 then { X with bad:=X.bad++[rc] } else X):=by unfold W8;rw [hr]
  have hb:=Eg5 hr
  rw [e]
  rw [hk] at hl
  rw [hl]
  (refine Ja ?_;unhygienic intros)
  refine Yc (Hu5 a cp l hl) ?_;rintro _ h ⟨rfl,o⟩<;>(refine Jf o ?_;unhygienic intros)
  by_cases h2:(Y7 l).2=2
  ·refine Yt (by simpa using h2) ?_
   have hz:=H40 l (by omega)
   simp only [if_pos h2]
   refine B9 (cmC c k F X) fun u=>?_;refine Je ?_
   refine B9 (W7 c k F.env F.caps X.bad) fun ⟨ca,cn,mb⟩=>?_;refine Je ?_
   (refine Ja ?_;unhygienic intros)
   rw [Bx1,if_neg hb]
   (refine Ja ?_;unhygienic intros)
   rw [Eh8 hb]
   (refine Ja ?_;unhygienic intros)
   rw [Dz4 hb]
   (refine Ja ?_;unhygienic intros)
   rw [Dc3 X.bad 0 X.bad.length _ 0 rfl (by omega),Nat.zero_add]
   (refine Ja ?_;unhygienic intros)
   rw [Ea0]
   refine Tr.jmp Aq0 (Tr.eq (A56 ..) ?_);(try simp only[Nr,Nl,wl,Nat.reduceAdd,Nat.reduceMul,Int.reduceToNat])
   refine Yt (by rw [bne_iff_ne];omega) ?_
   (refine Ja ?_;unhygienic intros)
   rw [show X.bad.length+1=(X.bad++[rc]).length by simp]
   refine B7 (W7 c k F.env F.caps (X.bad++[rc])) ⟨ca,cn,mb⟩ ?_;refine Je ?_
   refine B7 (cmC c k F { X with bad:=X.bad++[rc] }) () ?_;refine Je ?_
   refine Ys fun o=>?_
   exact ⟨by rw [hz]<;>rfl,o.sub⟩
  ·refine Yf (by simpa using h2) ?_
   simp only [if_neg h2]
   refine Tr.jmp Aq0 (Tr.eq (A56 ..) ?_);(try simp only[Nr,Nl,wl,Nat.reduceAdd,Nat.reduceMul,Int.reduceToNat])
   by_cases h1:(Y7 l).2=1
   ·refine Yf (by simpa using h1) ?_
    (refine Ja ?_;unhygienic intros)
    refine Ys fun o=>?_
    exact ⟨rfl,o.sub⟩
   ·refine Yt (by simpa using h1) ?_
    (refine Ja ?_;unhygienic intros)
    refine Ys fun o=>?_
    exact ⟨by rw [H40 l h1]<;>rfl,o.sub⟩
 ·refine (?_:Tr _ _ _ _) o
  refine Je ?_
  have e:W8 Y7 .zero X rc=((.zero,2),X):=by unfold W8;rw [hr]
  rw [e]
  (refine Ja ?_;unhygienic intros)
  refine Ys fun o=>?_
  exact ⟨rfl,o.sub⟩
theorem Il5 (c k:Nat) (F:Fr) (X:CX) (rc:RecS) (ok:FrOk F) (hk:Aa3 rc.kind=8):Ct A9 J8 [P0 c,.agg ⟨Ab3 rc⟩,.func (.func A47) ⟨[]⟩ ⟨[]⟩] [cmC c k F X] fun v own =>
  v=.tuple ⟨[.agg ⟨Ae0 (W8 Z0 .zero X rc).1.1⟩,int (W8 Z0 .zero X rc).1.2]⟩∧own [cmC c k F (W8 Z0 .zero X rc).2]:=by
 refine Ct.of Ap5 rfl fun h r=>Tr.eq (Dl9 ..) ?_;refine Je ?_
 (refine Ja ?_;unhygienic intros)
 refine Yc (Ea3 c k F X rc ok) ?_
 rintro v h (⟨l,a,cp,hr,hl,rfl,o⟩|⟨hr,rfl,o⟩)
 ·refine (?_:Tr _ _ _ _) o
  refine Je ?_
  have e:W8 Z0 .zero X rc=(Z0 l,if (Z0 l).2=2 then { X with bad:=X.bad++[rc] } else X):=by unfold W8;rw [hr]
  have hb:=Eg5 hr
  rw [e]
  rw [hk] at hl
  rw [hl]
  (refine Ja ?_;unhygienic intros)
  refine Yc (Hy5 a cp l hl) ?_;rintro _ h ⟨rfl,o⟩<;>(refine Jf o ?_;unhygienic intros)
  by_cases h2:(Z0 l).2=2
  ·refine Yt (by simpa using h2) ?_
   have hz:=H46 l (by omega)
   simp only [if_pos h2]
   refine B9 (cmC c k F X) fun u=>?_;refine Je ?_
   refine B9 (W7 c k F.env F.caps X.bad) fun ⟨ca,cn,mb⟩=>?_;refine Je ?_
   (refine Ja ?_;unhygienic intros)
   rw [Bx1,if_neg hb]
   (refine Ja ?_;unhygienic intros)
   rw [Eh8 hb]
   (refine Ja ?_;unhygienic intros)
   rw [Dz4 hb]
   (refine Ja ?_;unhygienic intros)
   rw [Dc3 X.bad 0 X.bad.length _ 0 rfl (by omega),Nat.zero_add]
   (refine Ja ?_;unhygienic intros)
   rw [Ea0]
   refine Tr.jmp Ap5 (Tr.eq (A41 ..) ?_);(try simp only[Nr,Nl,wl,Nat.reduceAdd,Nat.reduceMul,Int.reduceToNat])
   refine Yt (by rw [bne_iff_ne];omega) ?_
   (refine Ja ?_;unhygienic intros)
   rw [show X.bad.length+1=(X.bad++[rc]).length by simp]
   refine B7 (W7 c k F.env F.caps (X.bad++[rc])) ⟨ca,cn,mb⟩ ?_;refine Je ?_
   refine B7 (cmC c k F { X with bad:=X.bad++[rc] }) () ?_;refine Je ?_
   refine Ys fun o=>?_
   exact ⟨by rw [hz]<;>rfl,o.sub⟩
  ·refine Yf (by simpa using h2) ?_
   simp only [if_neg h2]
   refine Tr.jmp Ap5 (Tr.eq (A41 ..) ?_);(try simp only[Nr,Nl,wl,Nat.reduceAdd,Nat.reduceMul,Int.reduceToNat])
   by_cases h1:(Z0 l).2=1
   ·refine Yf (by simpa using h1) ?_
    (refine Ja ?_;unhygienic intros)
    refine Ys fun o=>?_
    exact ⟨rfl,o.sub⟩
   ·refine Yt (by simpa using h1) ?_
    (refine Ja ?_;unhygienic intros)
    refine Ys fun o=>?_
    exact ⟨by rw [H46 l h1]<;>rfl,o.sub⟩
 ·refine (?_:Tr _ _ _ _) o
  refine Je ?_
  have e:W8 Z0 .zero X rc=((.zero,2),X):=by unfold W8;rw [hr]
  rw [e]
  (refine Ja ?_;unhygienic intros)
  refine Ys fun o=>?_
  exact ⟨rfl,o.sub⟩
theorem Hr3 (c k:Nat) (F:Fr) (X:CX) (rc:RecS) (ok:FrOk F) (hk:Aa3 rc.kind=40):Ct A9 I3 [P0 c,.agg ⟨Ab3 rc⟩,.func (.func Aw5) ⟨[]⟩ ⟨[]⟩] [cmC c k F X] fun v own =>
  v=.tuple ⟨[.agg ⟨E6 (W8 N9 .zero X rc).1.1⟩,int (W8 N9 .zero X rc).1.2]⟩∧own [cmC c k F (W8 N9 .zero X rc).2]:=by
 refine Ct.of Ap6 rfl fun h r=>Tr.eq (Dk3 ..) ?_;refine Je ?_
 (refine Ja ?_;unhygienic intros)
 refine Yc (Ea3 c k F X rc ok) ?_
 rintro v h (⟨l,a,cp,hr,hl,rfl,o⟩|⟨hr,rfl,o⟩)
 ·refine (?_:Tr _ _ _ _) o
  refine Je ?_
  have e:W8 N9 .zero X rc=(N9 l,if (N9 l).2=2 then { X with bad:=X.bad++[rc] } else X):=by unfold W8;rw [hr]
  have hb:=Eg5 hr
  rw [e]
  rw [hk] at hl
  rw [hl]
  (refine Ja ?_;unhygienic intros)
  refine Yc (Hu9 a cp l hl) ?_;rintro _ h ⟨rfl,o⟩<;>(refine Jf o ?_;unhygienic intros)
  by_cases h2:(N9 l).2=2
  ·refine Yt (by simpa using h2) ?_
   have hz:=H98 l (by omega)
   simp only [if_pos h2]
   refine B9 (cmC c k F X) fun u=>?_;refine Je ?_
   refine B9 (W7 c k F.env F.caps X.bad) fun ⟨ca,cn,mb⟩=>?_;refine Je ?_
   (refine Ja ?_;unhygienic intros)
   rw [Bx1,if_neg hb]
   (refine Ja ?_;unhygienic intros)
   rw [Eh8 hb]
   (refine Ja ?_;unhygienic intros)
   rw [Dz4 hb]
   (refine Ja ?_;unhygienic intros)
   rw [Dc3 X.bad 0 X.bad.length _ 0 rfl (by omega),Nat.zero_add]
   (refine Ja ?_;unhygienic intros)
   rw [Ea0]
   refine Tr.jmp Ap6 (Tr.eq (A48 ..) ?_);(try simp only[Nr,Nl,wl,Nat.reduceAdd,Nat.reduceMul,Int.reduceToNat])
   refine Yt (by rw [bne_iff_ne];omega) ?_
   (refine Ja ?_;unhygienic intros)
   rw [show X.bad.length+1=(X.bad++[rc]).length by simp]
   refine B7 (W7 c k F.env F.caps (X.bad++[rc])) ⟨ca,cn,mb⟩ ?_;refine Je ?_
   refine B7 (cmC c k F { X with bad:=X.bad++[rc] }) () ?_;refine Je ?_
   refine Ys fun o=>?_
   exact ⟨by rw [hz]<;>rfl,o.sub⟩
  ·refine Yf (by simpa using h2) ?_
   simp only [if_neg h2]
   refine Tr.jmp Ap6 (Tr.eq (A48 ..) ?_);(try simp only[Nr,Nl,wl,Nat.reduceAdd,Nat.reduceMul,Int.reduceToNat])
   by_cases h1:(N9 l).2=1
   ·refine Yf (by simpa using h1) ?_
    (refine Ja ?_;unhygienic intros)
    refine Ys fun o=>?_
    exact ⟨rfl,o.sub⟩
   ·refine Yt (by simpa using h1) ?_
    (refine Ja ?_;unhygienic intros)
    refine Ys fun o=>?_
    exact ⟨by rw [H98 l h1]<;>rfl,o.sub⟩
 ·refine (?_:Tr _ _ _ _) o
  refine Je ?_
  have e:W8 N9 .zero X rc=((.zero,2),X):=by unfold W8;rw [hr]
  rw [e]
  (refine Ja ?_;unhygienic intros)
  refine Ys fun o=>?_
  exact ⟨rfl,o.sub⟩
def Bh2 (g:Int):List UInt8:=[b8 g,211,Bv4 [b8 g,211],0]
def Af0 (l:List UInt8):Int × Int:=if byI l 0<8∧Bh2 (byI l 0)=l then (byI l 0,1) else (0,2)
theorem Ek7 (g:Int):Ct A9 Af2 [int g] [] fun v own =>
  (0≤g∧g<8∧∃ a c,v=.tuple ⟨[.slice a 4 c,.bool true]⟩∧own [slC false A5 1 a 4 c (A0 (Bh2 g))])∨(¬ (0≤g∧g<8)∧v=.tuple ⟨[.slice none 0 0,.bool false]⟩∧own []):=by
 refine Ct.of Ea5 rfl fun h r=>Tr.eq (Ei1 ..) ?_;refine Je ?_
 (refine Ja ?_;unhygienic intros)
 by_cases hg:0≤g∧g<8
 ·refine Yf (by simp;omega) ?_
  rw [Bg8]
  refine Yn fun b h=>?_
  rw [show ([.int .u8 ((b8 g).toNat:Int),.int .u8 211]:List Value)=A0 [b8 g,211] from rfl]
  refine Aj7 0 rfl 1 2 rfl (by omega) ?_
  refine Je ?_
  refine Tr.pcall (Gd4 (slC false A5 1 (some ⟨b,0,none⟩) 2 2 (A0 [b8 g,211])) (some ⟨b,0,none⟩) false 2 2 2 [b8 g,211] 2 (by simp) (by simp [B1])) ?_
  (refine Ja ?_;unhygienic intros)
  rw [show List.take 2 [b8 g,211]=[b8 g,211] from rfl,Du1]
  refine Tr.xApd ⟨rfl,rfl,by simp [B1]⟩ fun a' c' h'=>?_
  refine Je ?_
  refine Ys fun o=>?_
  exact .inl ⟨hg.1,hg.2,a',c',rfl,(show Own h' (_::slC false A5 1 a' 4 c' (A0 (Bh2 g))::_) from o).sub⟩
 ·refine Yt (by simp;omega) ?_
  refine Ys fun o=>?_
  exact .inr ⟨hg,rfl,o.sub⟩
theorem Il2 (l:List UInt8):∀ (m i:Nat) (r:List UInt8),l.length-i=m→ByteArray.toList.loop ⟨⟨l⟩⟩ i r=r.reverse++l.drop i:=by
 intro m
 induction m with
 | zero =>
  intro i r hm
  unfold ByteArray.toList.loop
  rw [if_neg (show ¬ i<(ByteArray.mk ⟨l⟩).size by show ¬ i<l.length;omega),List.drop_eq_nil_of_le (by omega)];simp
 | succ m ih =>
  intro i r hm
  have hlt:i<l.length:=by omega
  unfold ByteArray.toList.loop
  rw [if_pos (show i<(ByteArray.mk ⟨l⟩).size from hlt),ih (i+1) _ (by omega),List.drop_eq_getElem_cons hlt]
  have:(ByteArray.mk ⟨l⟩).get! i=l[i]:=by
   show (Array.mk l)[i]! = l[i]
   simp [hlt]
  rw [this];simp
theorem Gt0 (l:List UInt8):(ByteArray.mk ⟨l⟩).toList=l:=by
 unfold ByteArray.toList
 rw [Il2 l _ 0 [] rfl];simp
theorem H03 (a:Option Addr) (c:Nat) (l:List UInt8) (hl:l.length=4):Ct A9 Am8 [.slice a 4 c] [slC false A5 1 a 4 c (A0 l)] fun v own=>v=.tuple ⟨[int (Af0 l).1,int (Af0 l).2]⟩∧own [slC false A5 1 a 4 c (A0 l)]:=by
 refine Ct.of E28 rfl fun h r=>Tr.eq (E10 ..) ?_;refine Je ?_
 refine Yf rfl ?_
 (refine Ja ?_;unhygienic intros;repeat(refine Gw ?_;rintro px rfl;refine Ja ?_;unhygienic intros))
 refine Tr.xIntS (v:=byI l 0) (Ad7 (by omega)) ?_
 simp only [byI,Am9]
 refine Yc (Ek7 (byI l 0)) ?_
 rintro v h (⟨h1,h2,a1,c1,rfl,o⟩|⟨hn,rfl,o⟩)
 ·refine (?_:Tr _ _ _ _) o
  refine Je ?_
  (refine Ja ?_;unhygienic intros)
  rw [Gt0,Gt0]
  by_cases he:Bh2 (byI l 0)=l
  ·have e:Af0 l=(byI l 0,1):=by unfold Af0;rw [if_pos ⟨h2,he⟩]
   refine Yf (by simp [he]) ?_
   (refine Ja ?_;unhygienic intros)
   refine Tr.xIntS (v:=byI l 0) (Ad7 (by omega)) ?_
   refine Ys fun o=>?_
   rw [e];exact ⟨by simp only [byI,Am9],o.sub⟩
  ·have e:Af0 l=(0,2):=by unfold Af0;rw [if_neg (fun hh=>he hh.2)]
   refine Yt (by simp [he]) ?_
   refine Ys fun o=>?_
   rw [e];exact ⟨rfl,o.sub⟩
 ·refine (?_:Tr _ _ _ _) o
  refine Je ?_
  (refine Jb ?_;unhygienic intros)
  refine Yb (Yt rfl ?_)
  refine Ys fun o=>(?_:Tr _ _ _ _) o;refine Je ?_
  (refine Ja ?_;unhygienic intros)
  refine Ys fun o=>?_
  exact ⟨by unfold Af0;rw [if_neg (by simp only [byI] at *;omega)],o.sub⟩
theorem H11 (l:List UInt8) (h:(Af0 l).2≠1):(Af0 l).1=0:=by
 unfold Af0 at *;split<;>simp_all
theorem Ik5 (c k:Nat) (F:Fr) (X:CX) (rc:RecS) (ok:FrOk F) (hk:Aa3 rc.kind=4):Ct A9 Q9 [P0 c,.agg ⟨Ab3 rc⟩,.func (.func Am8) ⟨[]⟩ ⟨[]⟩] [cmC c k F X] fun v own =>
  v=.tuple ⟨[int (W8 Af0 0 X rc).1.1,int (W8 Af0 0 X rc).1.2]⟩∧own [cmC c k F (W8 Af0 0 X rc).2]:=by
 refine Ct.of A98 rfl fun h r=>Tr.eq (Ec9 ..) ?_;refine Je ?_
 (refine Ja ?_;unhygienic intros)
 refine Yc (Ea3 c k F X rc ok) ?_
 rintro v h (⟨l,a,cp,hr,hl,rfl,o⟩|⟨hr,rfl,o⟩)
 ·refine (?_:Tr _ _ _ _) o
  refine Je ?_
  have e:W8 Af0 0 X rc=(Af0 l,if (Af0 l).2=2 then { X with bad:=X.bad++[rc] } else X):=by unfold W8;rw [hr]
  have hb:=Eg5 hr
  rw [e]
  rw [hk] at hl
  rw [hl]
  (refine Ja ?_;unhygienic intros)
  refine Yc (H03 a cp l hl) ?_;rintro _ h ⟨rfl,o⟩<;>(refine Jf o ?_;unhygienic intros)
  by_cases h2:(Af0 l).2=2
  ·refine Yt (by simpa using h2) ?_
   have hz:=H11 l (by omega)
   simp only [if_pos h2]
   refine B9 (cmC c k F X) fun u=>?_;refine Je ?_
   refine B9 (W7 c k F.env F.caps X.bad) fun ⟨ca,cn,mb⟩=>?_;refine Je ?_
   (refine Ja ?_;unhygienic intros)
   rw [Bx1,if_neg hb]
   (refine Ja ?_;unhygienic intros)
   rw [Eh8 hb]
   (refine Ja ?_;unhygienic intros)
   rw [Dz4 hb]
   (refine Ja ?_;unhygienic intros)
   rw [Dc3 X.bad 0 X.bad.length _ 0 rfl (by omega),Nat.zero_add]
   (refine Ja ?_;unhygienic intros)
   rw [Ea0]
   refine Tr.jmp A98 (Tr.eq (Bn0 ..) ?_);(try simp only[Nr,Nl,wl,Nat.reduceAdd,Nat.reduceMul,Int.reduceToNat])
   refine Yt (by rw [bne_iff_ne];omega) ?_
   rw [show X.bad.length+1=(X.bad++[rc]).length by simp]
   refine B7 (W7 c k F.env F.caps (X.bad++[rc])) ⟨ca,cn,mb⟩ ?_;refine Je ?_
   refine B7 (cmC c k F { X with bad:=X.bad++[rc] }) () ?_;refine Je ?_
   refine Ys fun o=>?_
   exact ⟨by rw [hz],o.sub⟩
  ·refine Yf (by simpa using h2) ?_
   simp only [if_neg h2]
   refine Tr.jmp A98 (Tr.eq (Bn0 ..) ?_);(try simp only[Nr,Nl,wl,Nat.reduceAdd,Nat.reduceMul,Int.reduceToNat])
   by_cases h1:(Af0 l).2=1
   ·refine Yf (by simpa using h1) ?_
    refine Ys fun o=>?_
    exact ⟨rfl,o.sub⟩
   ·refine Yt (by simpa using h1) ?_
    refine Ys fun o=>?_
    exact ⟨by rw [H11 l h1],o.sub⟩
 ·refine (?_:Tr _ _ _ _) o
  refine Je ?_
  have e:W8 Af0 0 X rc=((0,2),X):=by unfold W8;rw [hr]
  rw [e]
  (refine Ja ?_;unhygienic intros)
  refine Ys fun o=>?_
  exact ⟨rfl,o.sub⟩
abbrev Eg3 (X:CX) (i:Int):(ProcS × Int) × CX:=W8 Y7 .zero X ⟨1,i⟩
abbrev Eg7 (X:CX) (i:Int):(FileS × Int) × CX:=W8 Z0 .zero X ⟨2,i⟩
abbrev Eb5 (X:CX) (i:Int):(PipeS × Int) × CX:=W8 N9 .zero X ⟨3,i⟩
abbrev Eb2 (X:CX):(PipeS × Int) × CX:=W8 N9 .zero X ⟨4,0⟩
abbrev D82 (X:CX):(Int × Int) × CX:=W8 Af0 0 X ⟨5,0⟩
abbrev Bu5 (X:CX) (i:Int) (p:ProcS):Bool × CX:=wrX X ⟨1,i⟩ (Av8 p) (okS p)
abbrev Bj3 (X:CX) (i:Int) (p:FileS):Bool × CX:=wrX X ⟨2,i⟩ (Ai9 p) (okF p)
abbrev A89 (X:CX) (i:Int) (p:PipeS):Bool × CX:=wrX X ⟨3,i⟩ (I1 p) (okP p)
abbrev B80 (X:CX) (p:PipeS):Bool × CX:=wrX X ⟨4,0⟩ (I1 p) (okP p)
abbrev Bx4 (X:CX) (g:Int):Bool × CX:=wrX X ⟨5,0⟩ (Bh2 g) (decide (0≤g∧g<8))
abbrev Ij1 (X:CX) (rc:RecS):Bool × CX:=wrX X rc (List.replicate (Aa3 rc.kind) 0) true
theorem D72 (X:CX) (rc:RecS) (b:List UInt8):wrX X rc b false=(false,X):=by
 unfold wrX;split<;>simp
theorem Bz8 (c k:Nat) (F:Fr) (X:CX) (rc:RecS) (ok:FrOk F):Ct A9 H6 [P0 c,.agg ⟨Ab3 rc⟩,.slice none 0 0,.bool false] [cmC c k F X] fun v own=>v=.bool false∧own [cmC c k F X]:=by
 intro h r o
 have o1:Own h (slC false A5 1 none 0 0 (A0 [])::cmC c k F X::r):=o.slNil false A5 (by omega)
 obtain ⟨v,h',e,rfl,o2⟩:=Bx2 c k F X rc ok [] false none 0 (by simp) h r (o1.perm (.swap _ _ _))
 rw [D72] at e o2
 exact ⟨_,h',e,rfl,o2.sub⟩
theorem Ga9 (i:Int):Ct A9 A55 [int i] [] fun v own=>v=.agg ⟨Ab3 ⟨1,i⟩⟩∧own []:=by
 refine Ct.of Gq0 rfl fun h r=>Tr.eq (Gm7 ..) ?_;refine Je ?_
 (refine Ja ?_;unhygienic intros)
 refine Ys fun o=>?_
 exact ⟨rfl,o.sub⟩
theorem E78 (i:Int):Ct A9 A44 [int i] [] fun v own=>v=.agg ⟨Ab3 ⟨2,i⟩⟩∧own []:=by
 refine Ct.of Gl7 rfl fun h r=>Tr.eq (Gq5 ..) ?_;refine Je ?_
 (refine Ja ?_;unhygienic intros)
 refine Ys fun o=>?_
 exact ⟨rfl,o.sub⟩
theorem Gb2 (i:Int):Ct A9 A60 [int i] [] fun v own=>v=.agg ⟨Ab3 ⟨3,i⟩⟩∧own []:=by
 refine Ct.of Gm4 rfl fun h r=>Tr.eq (Gl5 ..) ?_;refine Je ?_
 (refine Ja ?_;unhygienic intros)
 refine Ys fun o=>?_
 exact ⟨rfl,o.sub⟩
theorem Ds6 (c k:Nat) (F:Fr) (X:CX) (ok:FrOk F) (i:Int):Ct A9 L7 [P0 c,int i] [cmC c k F X] fun v own=>v=.tuple ⟨[.agg ⟨D5 (Eg3 X i).1.1⟩,int (Eg3 X i).1.2]⟩∧own [cmC c k F (Eg3 X i).2]:=by
 refine Ct.of D24 rfl fun h r=>Tr.eq (D20 ..) ?_;refine Je ?_
 (refine Ja ?_;unhygienic intros)
 refine Yc (Ga9 i) ?_;rintro _ h ⟨rfl,o⟩<;>(refine Jf o ?_;unhygienic intros)
 refine Yc (Io9 c k F X ⟨1,i⟩ ok rfl) ?_;rintro _ h ⟨rfl,o⟩<;>(refine Jf o ?_;unhygienic intros)
 refine Ys fun o=>?_
 exact ⟨rfl,o.sub⟩
theorem Do7 (c k:Nat) (F:Fr) (X:CX) (ok:FrOk F) (i:Int):Ct A9 L5 [P0 c,int i] [cmC c k F X] fun v own=>v=.tuple ⟨[.agg ⟨Ae0 (Eg7 X i).1.1⟩,int (Eg7 X i).1.2]⟩∧own [cmC c k F (Eg7 X i).2]:=by
 refine Ct.of D46 rfl fun h r=>Tr.eq (D30 ..) ?_;refine Je ?_
 (refine Ja ?_;unhygienic intros)
 refine Yc (E78 i) ?_;rintro _ h ⟨rfl,o⟩<;>(refine Jf o ?_;unhygienic intros)
 refine Yc (Il5 c k F X ⟨2,i⟩ ok rfl) ?_;rintro _ h ⟨rfl,o⟩<;>(refine Jf o ?_;unhygienic intros)
 refine Ys fun o=>?_
 exact ⟨rfl,o.sub⟩
theorem Gb1 (c k:Nat) (F:Fr) (X:CX) (ok:FrOk F) (i:Int):Ct A9 S6 [P0 c,int i] [cmC c k F X] fun v own=>v=.tuple ⟨[.agg ⟨E6 (Eb5 X i).1.1⟩,int (Eb5 X i).1.2]⟩∧own [cmC c k F (Eb5 X i).2]:=by
 refine Ct.of D47 rfl fun h r=>Tr.eq (D25 ..) ?_;refine Je ?_
 (refine Ja ?_;unhygienic intros)
 refine Yc (Gb2 i) ?_;rintro _ h ⟨rfl,o⟩<;>(refine Jf o ?_;unhygienic intros)
 refine Yc (Hr3 c k F X ⟨3,i⟩ ok rfl) ?_;rintro _ h ⟨rfl,o⟩<;>(refine Jf o ?_;unhygienic intros)
 refine Ys fun o=>?_
 exact ⟨rfl,o.sub⟩
theorem Gc7 (c k:Nat) (F:Fr) (X:CX) (ok:FrOk F):Ct A9 S9 [P0 c] [cmC c k F X] fun v own=>v=.tuple ⟨[.agg ⟨E6 (Eb2 X).1.1⟩,int (Eb2 X).1.2]⟩∧own [cmC c k F (Eb2 X).2]:=by
 refine Ct.of D12 rfl fun h r=>Tr.eq (D44 ..) ?_;refine Je ?_
 (refine Ja ?_;unhygienic intros)
 refine Yc (Hr3 c k F X ⟨4,0⟩ ok rfl) ?_;rintro _ h ⟨rfl,o⟩<;>(refine Jf o ?_;unhygienic intros)
 refine Ys fun o=>?_
 exact ⟨rfl,o.sub⟩
theorem Eo0 (c k:Nat) (F:Fr) (X:CX) (ok:FrOk F):Ct A9 Q6 [P0 c] [cmC c k F X] fun v own=>v=.tuple ⟨[int (D82 X).1.1,.bool ((D82 X).1.2==1)]⟩∧own [cmC c k F (D82 X).2]:=by
 refine Ct.of Dv8 rfl fun h r=>Tr.eq (Dv9 ..) ?_;refine Je ?_
 (refine Ja ?_;unhygienic intros)
 refine Yc (Ik5 c k F X ⟨5,0⟩ ok rfl) ?_;rintro _ h ⟨rfl,o⟩<;>(refine Jf o ?_;unhygienic intros)
 refine Ys fun o=>?_
 exact ⟨rfl,o.sub⟩
theorem Ds7 (f:FileS):(Ai9 f).length=8:=rfl
theorem D27 (c k:Nat) (F:Fr) (X:CX) (ok:FrOk F) (i:Int) (p:ProcS):Ct A9 O7 [P0 c,int i,.agg ⟨D5 p⟩] [cmC c k F X] fun v own=>v=.bool (Bu5 X i p).1∧own [cmC c k F (Bu5 X i p).2]:=by
 refine Ct.of Dk4 rfl fun h r=>Tr.eq (Dn2 ..) ?_;refine Je ?_
 (refine Ja ?_;unhygienic intros)
 refine Yc (Gg7 p) ?_
 rintro v h (⟨hk,a,rfl,o⟩|⟨hk,rfl,o⟩)
 ·refine (?_:Tr _ _ _ _) o
  refine Je ?_
  (refine Ja ?_;unhygienic intros)
  refine Yc (Ga9 i) ?_;rintro _ h ⟨rfl,o⟩<;>(refine Jf o ?_;unhygienic intros)
  have J:=Bx2 c k F X ⟨1,i⟩ ok (Av8 p) true a 24 (fun _=>Ei0 p)
  rw [Ei0] at J
  refine Yc (J) ?_;rintro _ h ⟨rfl,o⟩<;>(refine Jf o ?_;unhygienic intros)
  refine Ys fun o=>?_
  unfold Bu5;rw [hk]
  exact ⟨rfl,o.sub⟩
 ·refine (?_:Tr _ _ _ _) o
  refine Je ?_
  (refine Ja ?_;unhygienic intros)
  refine Yc (Ga9 i) ?_;rintro _ h ⟨rfl,o⟩<;>(refine Jf o ?_;unhygienic intros)
  refine Yc (Bz8 c k F X ⟨1,i⟩ ok) ?_;rintro _ h ⟨rfl,o⟩<;>(refine Jf o ?_;unhygienic intros)
  refine Ys fun o=>?_
  unfold Bu5;rw [hk,D72]
  exact ⟨rfl,o.sub⟩
theorem D16 (c k:Nat) (F:Fr) (X:CX) (ok:FrOk F) (i:Int) (p:FileS):Ct A9 O8 [P0 c,int i,.agg ⟨Ae0 p⟩] [cmC c k F X] fun v own=>v=.bool (Bj3 X i p).1∧own [cmC c k F (Bj3 X i p).2]:=by
 refine Ct.of Dj0 rfl fun h r=>Tr.eq (Dm3 ..) ?_;refine Je ?_
 (refine Ja ?_;unhygienic intros)
 refine Yc (Ge1 p) ?_
 rintro v h (⟨hk,a,rfl,o⟩|⟨hk,rfl,o⟩)
 ·refine (?_:Tr _ _ _ _) o
  refine Je ?_
  (refine Ja ?_;unhygienic intros)
  refine Yc (E78 i) ?_;rintro _ h ⟨rfl,o⟩<;>(refine Jf o ?_;unhygienic intros)
  have J:=Bx2 c k F X ⟨2,i⟩ ok (Ai9 p) true a 8 (fun _=>Ds7 p)
  rw [Ds7] at J
  refine Yc (J) ?_;rintro _ h ⟨rfl,o⟩<;>(refine Jf o ?_;unhygienic intros)
  refine Ys fun o=>?_
  unfold Bj3;rw [hk]
  exact ⟨rfl,o.sub⟩
 ·refine (?_:Tr _ _ _ _) o
  refine Je ?_
  (refine Ja ?_;unhygienic intros)
  refine Yc (E78 i) ?_;rintro _ h ⟨rfl,o⟩<;>(refine Jf o ?_;unhygienic intros)
  refine Yc (Bz8 c k F X ⟨2,i⟩ ok) ?_;rintro _ h ⟨rfl,o⟩<;>(refine Jf o ?_;unhygienic intros)
  refine Ys fun o=>?_
  unfold Bj3;rw [hk,D72]
  exact ⟨rfl,o.sub⟩
theorem E36 (c k:Nat) (F:Fr) (X:CX) (ok:FrOk F) (i:Int) (p:PipeS):Ct A9 U9 [P0 c,int i,.agg ⟨E6 p⟩] [cmC c k F X] fun v own=>v=.bool (A89 X i p).1∧own [cmC c k F (A89 X i p).2]:=by
 refine Ct.of Dk7 rfl fun h r=>Tr.eq (Dj4 ..) ?_;refine Je ?_
 (refine Ja ?_;unhygienic intros)
 refine Yc (Eb1 p) ?_
 rintro v h (⟨hk,a,rfl,o⟩|⟨hk,rfl,o⟩)
 ·refine (?_:Tr _ _ _ _) o
  refine Je ?_
  (refine Ja ?_;unhygienic intros)
  refine Yc (Gb2 i) ?_;rintro _ h ⟨rfl,o⟩<;>(refine Jf o ?_;unhygienic intros)
  have J:=Bx2 c k F X ⟨3,i⟩ ok (I1 p) true a 40 (fun _=>As9 p.len)
  rw [As9 p.len] at J
  refine Yc (J) ?_;rintro _ h ⟨rfl,o⟩<;>(refine Jf o ?_;unhygienic intros)
  refine Ys fun o=>?_
  unfold A89;rw [hk]
  exact ⟨rfl,o.sub⟩
 ·refine (?_:Tr _ _ _ _) o
  refine Je ?_
  (refine Ja ?_;unhygienic intros)
  refine Yc (Gb2 i) ?_;rintro _ h ⟨rfl,o⟩<;>(refine Jf o ?_;unhygienic intros)
  refine Yc (Bz8 c k F X ⟨3,i⟩ ok) ?_;rintro _ h ⟨rfl,o⟩<;>(refine Jf o ?_;unhygienic intros)
  refine Ys fun o=>?_
  unfold A89;rw [hk,D72]
  exact ⟨rfl,o.sub⟩
theorem G79 (c k:Nat) (F:Fr) (X:CX) (ok:FrOk F) (g:Int):Ct A9 Ab8 [P0 c,int g] [cmC c k F X] fun v own=>v=.bool (Bx4 X g).1∧own [cmC c k F (Bx4 X g).2]:=by
 refine Ct.of Dg6 rfl fun h r=>Tr.eq (Df9 ..) ?_;refine Je ?_
 refine Yc (Ek7 g) ?_
 rintro v h (⟨h1,h2,a,c1,rfl,o⟩|⟨hn,rfl,o⟩)
 ·refine (?_:Tr _ _ _ _) o
  refine Je ?_
  (refine Ja ?_;unhygienic intros)
  have J:=Bx2 c k F X ⟨5,0⟩ ok (Bh2 g) true a c1 (fun _=>rfl)
  rw [show (Bh2 g).length=4 from rfl] at J
  refine Yc (J) ?_;rintro _ h ⟨rfl,o⟩<;>(refine Jf o ?_;unhygienic intros)
  refine Ys fun o=>?_
  have e:decide (0≤g∧g<8)=true:=decide_eq_true ⟨h1,h2⟩
  unfold Bx4;rw [e]
  exact ⟨rfl,o.sub⟩
 ·refine (?_:Tr _ _ _ _) o
  refine Je ?_
  (refine Ja ?_;unhygienic intros)
  refine Yc (Bz8 c k F X ⟨5,0⟩ ok) ?_;rintro _ h ⟨rfl,o⟩<;>(refine Jf o ?_;unhygienic intros)
  refine Ys fun o=>?_
  have e:decide (0≤g∧g<8)=false:=decide_eq_false hn
  unfold Bx4;rw [e,D72]
  exact ⟨rfl,o.sub⟩
def Di9 (f:CX→Int→CX):Nat→Int→CX→CX
 | 0,_,X=>X
 | m+1,i,X=>Di9 f m (i+1) (f X i)
def Ge3 (X:CX):CX:=(D82 (Eb2 X).2).2
def G23 (nc:Nat) (X:CX):CX:=Ge3 (Di9 (fun X i=>(Eb5 X i).2) (3+nc) 0 X)
def G67 (nc:Nat) (X:CX):CX:=G23 nc (Di9 (fun X i=>(Eg7 X i).2) 12 0 X)
def lookN (nc:Nat) (X:CX):CX:=G67 nc (Di9 (fun X i=>(Eg3 X i).2) 8 0 X)
def Gh2 (X:CX):CX:=lookN X.m.length X
theorem Hw6 (c k:Nat) (F:Fr) (ok:FrOk F):∀ (m:Nat) (i:Int) (X:CX),0≤i→i+m=3+F.caps.length →
  CtJ H3 D4 Ad8 [(0,P0 c),(20,int (3+F.caps.length)),(21,int i)] [cmC c k F X] fun v own=>v=.tuple ⟨[]⟩∧own [cmC c k F (Ge3 (Di9 (fun X i=>(Eb5 X i).2) m i X))]:=by
 have hs:=ok.small
 intro m
 induction m with
 | zero =>
  intro i X h0 hi
  refine CtJ.of O5 fun h r=>Tr.eq (Be9 ..) ?_;refine Je ?_
  refine Yf (by simp;omega) ?_
  refine Yc (Gc7 c k F X ok) ?_;rintro _ h ⟨rfl,o⟩<;>(refine Jf o ?_;unhygienic intros)
  refine Yc (Eo0 c k F (Eb2 X).2 ok) ?_;rintro _ h ⟨rfl,o⟩<;>(refine Jf o ?_;unhygienic intros)
  refine Ys fun o=>?_
  exact ⟨rfl,o⟩
 | succ m ih =>
  intro i X h0 hi
  have e1:IntKind.wrap .i64 (i+1)=i+1:=by rw [B0];omega
  refine CtJ.of O5 fun h r=>Tr.eq (Be9 ..) ?_;refine Je ?_
  refine Yt (by simp;omega) ?_
  refine Yc (Gb1 c k F X ok i) ?_;rintro _ h ⟨rfl,o⟩<;>(refine Jf o ?_;unhygienic intros)
  rw [e1]
  refine Yr (ih (i+1) (Eb5 X i).2 (by omega) (by omega)) ?_
  rintro _ h ⟨rfl,o⟩
  exact ⟨rfl,o⟩
theorem Hz2 (c k:Nat) (F:Fr) (ok:FrOk F):∀ (m:Nat) (i:Int) (X:CX),0≤i→i+m=12 →
  CtJ H3 D4 Ad1 [(0,P0 c),(12,int i)] [cmC c k F X] fun v own=>v=.tuple ⟨[]⟩∧own [cmC c k F (G23 F.caps.length (Di9 (fun X i=>(Eg7 X i).2) m i X))]:=by
 have hs:=ok.small
 intro m
 induction m with
 | zero =>
  intro i X h0 hi
  refine CtJ.of O5 fun h r=>Tr.eq (Be5 ..) ?_;refine Je ?_
  refine Yf (by simp;omega) ?_
  refine B9 (cmC c k F X) fun u=>?_;refine Je ?_
  refine Tr.pcall (G27 c k F.env F.caps X.bad 3 ok.small) ?_;refine Je ?_;(refine Ja ?_;unhygienic intros)
  refine B7 (cmC c k F X) () ?_;refine Je ?_
  refine Yr (Hw6 c k F ok (3+F.caps.length) 0 X (by omega) (by omega)) ?_
  rintro _ h ⟨rfl,o⟩
  exact ⟨rfl,o⟩
 | succ m ih =>
  intro i X h0 hi
  have e1:IntKind.wrap .i64 (i+1)=i+1:=by rw [B0];omega
  refine CtJ.of O5 fun h r=>Tr.eq (Be5 ..) ?_;refine Je ?_
  refine Yt (by simp;omega) ?_
  refine Yc (Do7 c k F X ok i) ?_;rintro _ h ⟨rfl,o⟩<;>(refine Jf o ?_;unhygienic intros)
  rw [e1]
  refine Yr (ih (i+1) (Eg7 X i).2 (by omega) (by omega)) ?_
  rintro _ h ⟨rfl,o⟩
  exact ⟨rfl,o⟩
theorem Hv9 (c k:Nat) (F:Fr) (ok:FrOk F):∀ (m:Nat) (i:Int) (X:CX),0≤i→i+m=8 →
  CtJ H3 D4 Ae1 [(0,P0 c),(5,int i)] [cmC c k F X] fun v own=>v=.tuple ⟨[]⟩∧own [cmC c k F (G67 F.caps.length (Di9 (fun X i=>(Eg3 X i).2) m i X))]:=by
 intro m
 induction m with
 | zero =>
  intro i X h0 hi
  refine CtJ.of O5 fun h r=>Tr.eq (Bg0 ..) ?_;refine Je ?_
  refine Yf (by simp;omega) ?_
  refine Yr (Hz2 c k F ok 12 0 X (by omega) (by omega)) ?_
  rintro _ h ⟨rfl,o⟩
  exact ⟨rfl,o⟩
 | succ m ih =>
  intro i X h0 hi
  have e1:IntKind.wrap .i64 (i+1)=i+1:=by rw [B0];omega
  refine CtJ.of O5 fun h r=>Tr.eq (Bg0 ..) ?_;refine Je ?_
  refine Yt (by simp;omega) ?_
  refine Yc (Ds6 c k F X ok i) ?_;rintro _ h ⟨rfl,o⟩<;>(refine Jf o ?_;unhygienic intros)
  rw [e1]
  refine Yr (ih (i+1) (Eg3 X i).2 (by omega) (by omega)) ?_
  rintro _ h ⟨rfl,o⟩
  exact ⟨rfl,o⟩
theorem Hq0 (c k:Nat) (F:Fr) (X:CX) (ok:FrOk F):Ct A9 D4 [P0 c] [cmC c k F X] fun v own=>v=.tuple ⟨[]⟩∧own [cmC c k F (Gh2 X)]:=by
 refine Ct.of O5 rfl fun h r=>Tr.eq (D49 ..) ?_;refine Je ?_
 intro o
 obtain ⟨u,o1⟩:=Own.unfold (cmC c k F X) o
 have f:=(Own.front o1 (i:=2) rfl).pure
 have e:Gh2 X=lookN F.caps.length X:=by unfold Gh2;rw [f.mlen ok]
 rw [e]
 refine (?_:Tr _ _ _ _) o
 refine Yr (Hv9 c k F ok 8 0 X (by omega) (by omega)) ?_
 rintro _ h ⟨rfl,o⟩
 exact ⟨rfl,o⟩
end Go.EQ
