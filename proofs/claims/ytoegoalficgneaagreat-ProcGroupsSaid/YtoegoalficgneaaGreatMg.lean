/- A signal to a group reaches all of it, and nobody else; to a slot that one alone; no conditions. -/
import Derived.Test.YtoegoalficgneaaGreatMf
set_option linter.all false
set_option maxRecDepth 10000
namespace Go.EQ
open Go Go.NN
theorem S4 (l:List UInt8):(A0 l).length=l.length:=by simp [A0]
theorem D14 {l:List UInt8} {i:Nat} {x:UInt8} (h:l[i]?=some x):(A0 l)[i]?=some (.int .u8 x.toNat):=by
 unfold A0;rw [List.getElem?_map,h];rfl
def D62 (n:Int) (l:List UInt8):Int:=l.foldl (fun n c=>IntKind.wrap .u8 (n+c.toNat)) n
def Gj4 (l:List UInt8):Int:=D62 (IntKind.wrap .u8 l.length) l
theorem Hy6 (p:HP) (a:Option Addr) (ro:Bool) (n c d:Nat) (l:List UInt8) [ks:IsSl p a ro A3 1 n c (A0 l)] (x:Nat) (hx:x≤l.length) (hl:l.length≤A9):∀ (m i:Nat) (acc:Int),x-i=m→i≤x →
  S6 E9 Y7 Bi7 [(3,.int .u8 acc),(9,.slice a x d),(10,int x),(11,int i)] [p] (.int .u8 (D62 acc ((l.take x).drop i))):=by
 intro m
 induction m with
 | zero =>
  intro i acc hm hi
  refine S6.of Dv7 fun h r=>Tr.eq (D10 ..) ?_;refine Je ?_
  refine Yf (by simp;omega) ?_
  refine Ys fun o=>?_
  rw [List.drop_eq_nil_of_le (by simp;omega)];exact ⟨rfl,rfl⟩
 | succ m ih =>
  intro i acc hm hi
  have hlt:i<(l.take x).length:=by rw [List.length_take];omega
  have hp:l[i]?=some (l.take x)[i]:=by
   rw [List.getElem_take];exact List.getElem?_eq_getElem (by omega)
  have hd:(l.take x).drop i=(l.take x)[i]::(l.take x).drop (i+1):=List.drop_eq_getElem_cons hlt
  generalize (l.take x)[i]=y at hp hd
  have e1:IntKind.wrap .i64 ((i:Int)+1)=((i+1:Nat):Int):=by rw [A6];simp only [A9] at hl;omega
  refine S6.of Dv7 fun h r=>Tr.eq (D10 ..) ?_;refine Je ?_
  refine Yt (by simp;omega) ?_
  refine W5 0 rfl fun h1 h2 h3=>?_
  rw [S4] at h1
  (refine Ja ?_;unhygienic intros;repeat(refine Gw ?_;rintro px rfl;refine Ja ?_;unhygienic intros))
  refine Tr.xIntS (v:=y.toNat) (by simpa using D14 hp) ?_
  rw [e1,hd]
  exact W4 (ih (i+1) _ (by omega) (by omega)) (r:=r) (by simp) fun o=>⟨rfl,rfl⟩
theorem Ga7 (p:HP) (a:Option Addr) (ro:Bool) (n c d:Nat) (l:List UInt8) [ks:IsSl p a ro A3 1 n c (A0 l)] (x:Nat) (hx:x≤l.length) (hl:l.length≤A9) :
  CtP A7 Y7 [.slice a x d] [p] (.int .u8 (Gj4 (l.take x))):=by
 refine CtP.of Dv7 rfl fun h r=>Tr.eq (Hc7 ..) ?_;refine Je ?_
 have e:(l.take x).length=x:=by rw [List.length_take];omega
 have J:=Hy6 p a ro n c d l x hx hl _ 0 (IntKind.wrap .u8 x) rfl (by omega)
 rw [List.drop_zero] at J
 refine W4 J (r:=r) (by simp) fun o=>⟨?_,rfl⟩
 unfold Gj4;rw [e]
def Dr1:Nat→List UInt8→Int
 | _,[]=>-1
 | i,x::l=>if x≠0 then i else Dr1 (i+1) l
theorem Gk1:∀ (l:List UInt8) (i:Nat),decide (Dr1 i l≥0)=!l.all (·==0)
 | [],i=>by simp [Dr1]
 | x::l,i=>by
  unfold Dr1
  by_cases h:x=0
  ·rw [if_neg (by simp [h]),Gk1 l (i+1)];simp [h]
  ·rw [if_pos h];simp [h]
theorem Ik4 (x:UInt8):CtP A7 Ad6 [.int .u8 x.toNat] [] (.bool (x != 0)):=by
 refine CtP.of Ga1 rfl fun h r=>Tr.eq (E75 ..) ?_;refine Je ?_
 refine Ys fun o=>?_
 refine ⟨?_,rfl⟩
 congr 1
 have:((x.toNat:Int)=0)↔x=0:=by
  constructor
  ·intro h;exact UInt8.toNat.inj (by simpa using (show x.toNat=0 by omega))
  ·rintro rfl;rfl
 by_cases h:x=0
 ·subst h;rfl
 ·rw [bne_iff_ne.2 h,bne_iff_ne];intro h2;exact h (this.1 h2)
theorem E03 (p:HP) (a:Option Addr) (ro:Bool) (c:Nat) (l:List UInt8) [ks:IsSl p a ro A3 1 l.length c (A0 l)] (hl:l.length≤A9):∀ (m i:Nat),l.length-i=m→i≤l.length →
  S6 E9 E4 O8 [(0,.slice a l.length c),(1,.func (.func Ad6) ⟨[]⟩ ⟨[]⟩),(7,int l.length),(8,int i)] [p] (int (Dr1 i (l.drop i))):=by
 intro m
 induction m with
 | zero =>
  intro i hm hi
  refine S6.of Ac4 fun h r=>Tr.eq (Ap5 ..) ?_;refine Je ?_
  refine Yf (by simp;omega) ?_
  refine Ys fun o=>?_
  rw [List.drop_eq_nil_of_le (by omega)];exact ⟨rfl,rfl⟩
 | succ m ih =>
  intro i hm hi
  have hlt:i<l.length:=by omega
  have hp:l[i]?=some l[i]:=List.getElem?_eq_getElem hlt
  have hd:l.drop i=l[i]::l.drop (i+1):=List.drop_eq_getElem_cons hlt
  generalize l[i]=x at hp hd
  have e1:IntKind.wrap .i64 ((i:Int)+1)=((i+1:Nat):Int):=by rw [A6];simp only [A9] at hl;omega
  refine S6.of Ac4 fun h r=>Tr.eq (Ap5 ..) ?_;refine Je ?_
  refine Yt (by simp;omega) ?_
  (refine Ja ?_;unhygienic intros;repeat(refine Gw ?_;rintro px rfl;refine Ja ?_;unhygienic intros))
  refine Tr.xIntS (v:=x.toNat) (by simpa using D14 hp) ?_
  (refine Ja ?_;unhygienic intros)
  refine Bu2 (Ik4 x) (r:=p::r) (by simp) ?_
  by_cases hx:x=0
  ·have:(x != 0)=false:=by simp [hx]
   rw [this]
   (refine Ja ?_;unhygienic intros)
   rw [e1]
   refine W4 (ih (i+1) (by omega) (by omega)) (r:=r) (by simp) fun o=>?_
   rw [hd,Dr1,if_neg (by simp [hx])];exact ⟨by first|rfl|trivial,by first|rfl|trivial⟩
  ·have:(x != 0)=true:=by simp [hx]
   rw [this]
   (refine Ja ?_;unhygienic intros)
   refine Ys fun o=>?_
   rw [hd,Dr1,if_pos hx];exact ⟨by first|rfl|trivial,by first|rfl|trivial⟩
theorem H13 (p:HP) (a:Option Addr) (ro:Bool) (c:Nat) (l:List UInt8) [ks:IsSl p a ro A3 1 l.length c (A0 l)] (hl:l.length≤A9) :
  CtP A7 Ak8 [.slice a l.length c] [p] (.bool (l.all (·==0))):=by
 have j:CtP A7 E4 [.slice a l.length c,.func (.func Ad6) ⟨[]⟩ ⟨[]⟩] [p] (int (Dr1 0 l)):=by
  refine CtP.of Ac4 rfl fun h r=>Tr.eq (Bx9 ..) ?_;refine Je ?_
  exact W4 (E03 p a ro c l hl _ 0 rfl (by omega)) (r:=r) (by simp) fun o=>⟨rfl,rfl⟩
 have j2:CtP A7 O6 [.slice a l.length c,.func (.func Ad6) ⟨[]⟩ ⟨[]⟩] [p] (.bool (!l.all (·==0))):=by
  refine CtP.of Bm7 rfl fun h r=>Tr.eq (Bn9 ..) ?_;refine Je ?_
  refine Bu2 j (r:=r) (by simp) ?_
  (refine Ja ?_;unhygienic intros)
  refine Ys fun o=>?_
  rw [Gk1];exact ⟨by first|rfl|trivial,by first|rfl|trivial⟩
 refine CtP.of Gp6 rfl fun h r=>Tr.eq (Gp8 ..) ?_;refine Je ?_
 refine Bu2 j2 (r:=r) (by simp) ?_
 (refine Ja ?_;unhygienic intros)
 refine Ys fun o=>?_
 exact ⟨by simp,rfl⟩
theorem G23 (p q:HP) (a:Option Addr) (ro:Bool) (c:Nat) (a2:Option Addr) (ro2:Bool) (c2:Nat) (l m:List UInt8) [ks:IsSl p a ro A3 1 l.length c (A0 l)] [ks2:IsSl q a2 ro2 A3 1 m.length c2 (A0 m)] (hl:l.length≤A9) (hlm:m.length=l.length):∀ (k i:Nat),l.length-i=k→i≤l.length →
  S6 E9 D0 S7 [(0,.slice a l.length c),(1,.slice a2 m.length c2),(12,int l.length),(13,int i)] [p,q] (.bool (decide (l.drop i=m.drop i))):=by
 intro k
 induction k with
 | zero =>
  intro i hm hi
  refine S6.of Al1 fun h r=>Tr.eq (Az8 ..) ?_;refine Je ?_
  refine Yf (by simp;omega) ?_
  refine Ys fun o=>?_
  rw [List.drop_eq_nil_of_le (by omega),List.drop_eq_nil_of_le (by omega)];exact ⟨rfl,rfl⟩
 | succ k ih =>
  intro i hm hi
  have hlt:i<l.length:=by omega
  have hp:l[i]?=some l[i]:=List.getElem?_eq_getElem hlt
  have hd:l.drop i=l[i]::l.drop (i+1):=List.drop_eq_getElem_cons hlt
  have hlt2:i<m.length:=by omega
  have hp2:m[i]?=some m[i]:=List.getElem?_eq_getElem hlt2
  have hd2:m.drop i=m[i]::m.drop (i+1):=List.drop_eq_getElem_cons hlt2
  generalize l[i]=x at hp hd
  generalize m[i]=y at hp2 hd2
  have e1:IntKind.wrap .i64 ((i:Int)+1)=((i+1:Nat):Int):=by rw [A6];simp only [A9] at hl;omega
  refine S6.of Al1 fun h r=>Tr.eq (Az8 ..) ?_;refine Je ?_
  refine Yt (by simp;omega) ?_
  (refine Ja ?_;unhygienic intros;repeat(refine Gw ?_;rintro px rfl;refine Ja ?_;unhygienic intros))
  refine Tr.xIntS (v:=x.toNat) (by simpa using D14 hp) ?_
  (refine Ja ?_;unhygienic intros;repeat(refine Gw ?_;rintro px rfl;refine Ja ?_;unhygienic intros))
  refine Tr.xIntS (v:=y.toNat) (by simpa using D14 hp2) ?_
  by_cases hx:x=y
  ·subst hx
   refine Yf (by simp) ?_
   rw [e1]
   refine W4 (ih (i+1) (by omega) (by omega)) (r:=r) (by simp) fun o=>?_
   rw [hd,hd2];exact ⟨by simp,rfl⟩
  ·refine Yt (by rw [bne_iff_ne];intro h2;exact hx (UInt8.toNat.inj (by omega))) ?_
   refine Ys fun o=>?_
   rw [hd,hd2];exact ⟨by simp [hx],rfl⟩
theorem Ep2 (p q:HP) (a:Option Addr) (ro:Bool) (c:Nat) (a2:Option Addr) (ro2:Bool) (c2:Nat) (l m:List UInt8) [ks:IsSl p a ro A3 1 l.length c (A0 l)] [ks2:IsSl q a2 ro2 A3 1 m.length c2 (A0 m)] (hl:l.length≤A9) :
  CtP A7 D0 [.slice a l.length c,.slice a2 m.length c2] [p,q] (.bool (decide (l=m))):=by
 refine CtP.of Al1 rfl fun h r=>Tr.eq (Dc1 ..) ?_;refine Je ?_
 by_cases h:m.length=l.length
 ·refine Yf (by simp [h]) ?_
  have J:=G23 p q a ro c a2 ro2 c2 l m hl h _ 0 rfl (by omega)
  simp only [List.drop_zero] at J
  exact W4 J (r:=r) (by simp) fun o=>⟨rfl,rfl⟩
 ·refine Yt (by rw [bne_iff_ne];omega) ?_
  refine Ys fun o=>?_
  exact ⟨by rw [decide_eq_false (fun e=>h (by rw [e]))],rfl⟩
theorem Hs2 (p:HP) (ro:Bool) (a:Option Addr) (c:Nat) (l:List UInt8) [ks:IsSl p a ro A3 1 l.length c (A0 l)] (hn:l.length≤A9) :
  Ct A7 E8 [.slice a l.length c] [p] fun v own=>∃ a' c',v=.slice a' l.length c'∧own [slC false A3 1 a' l.length c' (A0 l),p]:=by
 refine Ct.of A89 rfl fun h r=>Tr.eq (A82 ..) ?_;refine Je ?_
 refine W5 0 rfl fun hl hc _=>?_
 refine Tr.cond (fun hb=>?_) fun hb=>?_
 ·obtain rfl:a=none:=by simpa using hb
  refine G7 false A3 1 (by omega) ?_
  intro o
  have o1:=(o.tail.head ks.en).slNone
  obtain rfl:l=[]:=by
   have:=o1.2.2.1
   cases l with
   | nil=>rfl
   | cons x l=>simp [A0] at this
  obtain rfl:c=0:=o1.2.1
  exact ⟨_,_,rfl,none,0,rfl,o⟩
 ·(refine Ja ?_;unhygienic intros)
  refine Ae0 0 rfl 1 0 rfl (by omega) ?_;refine Je ?_
  (refine Ja ?_;unhygienic intros)
  refine Tr.xApd ⟨by simp [A0],by simp [A0,Value.oneCell],by omega⟩ fun a' c' h'=>?_
  refine Je ?_
  refine Ys fun o=>⟨a',c',by simp,by simpa using o⟩
end Go.EQ
namespace Go.NN
section
variable {l:List HP} {h:H} {α:Type} {Q:α→H→Prop} {ro:Bool} {e:TypeId} {cs:List Value}
instance {f:Fn} {a c:Array Value} {k:Option α}:Dx (one (.func f a c) k) k:=⟨rfl⟩
theorem Tr.xPCells {a:Option Addr} {n c sz:Nat} {vs cs':List Value} {l':List HP} {k:H→Option (α × H)} [k1:LkO l a false e sz n c cs] (hn:0<n) (hj:vs≠[]∧vs.length≤cs.length∧vs.all Value.oneCell=true∧vs++cs.drop vs.length=cs') [k2:UpO l a (slC false e sz a n c cs') e sz n c cs l'] (t:∀ h',Tr l' h' (k h') Q):Tr l h (NN.pCells a vs h k) Q:=fun ow=>by
 obtain ⟨i,p,hi,hp⟩:=k1.ix
 obtain ⟨y,rfl⟩:=((ow.front hi).head hp).slSome hn
 have:NN.pCells (Option.some y) vs h k=NN.pAgg ((B2 y).add 0) vs h k:=by
  show NN.pAgg (B2 y) vs h k=_
  congr 1
 rw [this]
 exact Tr.xPAggS (k1:=k1) ⟨hj.1,by omega,hj.2.2.1,by simpa using hj.2.2.2⟩ (k2:=k2) t ow
end
end Go.NN

set_option maxRecDepth 10000
namespace Go.EQ
open Go Go.NN
def b8 (x:Int):UInt8:=UInt8.ofNat (x%256).toNat
theorem Dh2 (x:Int):IntKind.wrap .u8 x=x%256:=H60 x
theorem Be5 (x:Int):IntKind.wrap .u8 x=((b8 x).toNat:Int):=by
 rw [Dh2,b8,UInt8.toNat_ofNat']
 omega
def Bs3 (l:List UInt8):UInt8:=b8 (Gj4 l)
theorem Gu1:∀ (l:List UInt8) (n:Int),0≤n∧n<256→0≤D62 n l∧D62 n l<256
 | [],n,h=>h
 | x::l,n,h=>Gu1 l _ (by show 0≤IntKind.wrap .u8 (n+x.toNat)∧IntKind.wrap .u8 (n+x.toNat)<256;rw [Dh2];omega)
theorem Dm3 (l:List UInt8):Gj4 l=((Bs3 l).toNat:Int):=by
 have:=Gu1 l (IntKind.wrap .u8 l.length) (by rw [Dh2];omega)
 unfold Bs3
 rw [← Be5,Dh2]
 unfold Gj4 at *;omega
structure FileS where
 kind:Int
 pipe:Int
 refs:Int
 flags:Int
abbrev FileS.zero:FileS:=⟨0,0,0,0⟩
abbrev Bo6 (f:FileS):List Value:=[int f.kind,int f.pipe,int f.refs,int f.flags]
def okF (f:FileS):Bool:=decide (f.kind≥1) && decide (f.kind≤3) && decide (f.pipe≥0) && decide (f.pipe≤7) && (f.kind != 3 || f.pipe==0) && decide (f.refs≥1) && decide (f.refs≤64) && (f.flags==0 || f.flags==1)
def A66 (f:FileS):List UInt8:=[b8 f.kind,b8 f.pipe,b8 f.refs,b8 f.flags,179]
def Ag7 (f:FileS):List UInt8:=A66 f++[Bs3 (A66 f),0,0]
theorem If9 (f:FileS):Ct A7 Df5 [.agg ⟨Bo6 f⟩] [] fun v own=>v=.bool (okF f)∧own []:=by
 refine Ct.of Hp6 rfl fun h r=>Tr.eq (Hp9 ..) ?_;refine Je ?_
 (refine Ja ?_;unhygienic intros)
 refine Ys fun o=>?_
 refine ⟨?_,o.sub⟩
 rfl
theorem Ib6 (a:Option Addr) (c:Nat) (f:FileS):Ct A7 Ap6 [.agg ⟨Bo6 f⟩,.slice a 8 c] [slC false A3 1 a 8 c (A0 (List.replicate 8 0))] fun v own=>v=.bool (okF f)∧own [slC false A3 1 a 8 c (A0 (if okF f then Ag7 f else List.replicate 8 0))]:=by
 refine Ct.of Ha8 rfl fun h r=>Tr.eq (Hc0 ..) ?_;refine Je ?_
 (refine Ja ?_;unhygienic intros)
 refine Yc (If9 f) ?_;rintro _ h ⟨rfl,o⟩<;>(refine Jf o ?_;unhygienic intros)
 cases hk:okF f with
 | false =>
  (refine Ja ?_;unhygienic intros)
  refine Ys fun o=>?_
  rw [if_neg (by simp)]
  exact ⟨rfl,o.sub⟩
 | true =>
  (refine Ja ?_;unhygienic intros)
  simp only [Be5,List.drop_zero,List.take]
  refine W5 2 rfl fun hl hc _=>?_
  refine Tr.xPCells (cs':=A0 (A66 f++[0,0,0])) (by omega) ⟨by simp,by simp [A0],by simp [Value.oneCell],rfl⟩ fun h=>?_
  (refine Ja ?_;unhygienic intros)
  refine Tr.pcall (Ga7 (slC false A3 1 a 8 c (A0 (A66 f++[0,0,0]))) a false 8 c c (A66 f++[0,0,0]) 5 (by simp [A66]) (by simp [A66,A9])) ?_
  refine Je ?_
  (refine Ja ?_;unhygienic intros;repeat(refine Gw ?_;rintro px rfl;refine Ja ?_;unhygienic intros))
  rw [show List.take 5 (A66 f++[0,0,0]:List UInt8)=A66 f from rfl,Dm3]
  refine Tr.xVS (cs':=A0 (Ag7 f)) ⟨by simp [A0,A66],rfl,rfl⟩ fun h=>?_
  refine Ys fun o=>?_
  simp only [if_true]
  exact ⟨trivial,o.sub⟩
theorem Ds3 {l:List Value} (h:l.all (fun v=>match v with|.int _ _=>true|_=>false)=true):Am0 (.agg ⟨l⟩) (.agg ⟨l⟩)=true:=by
 show Bp3 l l=true
 induction l with
 | nil=>rfl
 | cons v l ih =>
  simp only [List.all_cons,Bool.and_eq_true] at h
  show (A08 v v && Bp3 l l)=true
  rw [ih h.2,Bool.and_true]
  cases v<;>first|(simp [A08];done)|exact absurd h.1 (by simp)
abbrev G36 (k:Nat):HP:=pt k (.cells Ah7 false [int 8,.func (.func Ap6) ⟨[]⟩ ⟨[]⟩,.func (.func Ao9) ⟨[]⟩ ⟨[]⟩])
theorem G84 (k:Nat) (f:FileS):Ct A7 U0 [P0 k,.agg ⟨Bo6 f⟩] [G36 k] fun v own=>(okF f=true∧∃ a,v=.tuple ⟨[.slice a 8 8,.bool true]⟩∧own [G36 k,slC false A3 1 a 8 8 (A0 (Ag7 f))])∨(okF f=false∧v=.tuple ⟨[.slice none 0 0,.bool false]⟩∧own [G36 k]):=by
 refine Ct.of B22 rfl fun h r=>Tr.eq (B23 ..) ?_;refine Je ?_
 (refine Ja ?_;unhygienic intros)
 refine Tr.ck ⟨by omega,by omega,by simp [A9]⟩ ?_
 refine Yn fun b1 h=>?_
 rw [show G8 (Int.toNat 8) [.int .u8 0]=A0 (List.replicate 8 0) from rfl]
 refine Ae0 0 rfl 1 8 rfl (by omega) ?_
 simp only [List.set_cons_zero]
 refine Je ?_
 (refine Jb ?_;unhygienic intros)
 refine Yb (Yf rfl ?_)
 (refine Jb ?_;unhygienic intros)
 refine Yc (Ib6 (some ⟨b1,0,none⟩) 8 f) ?_;rintro _ h ⟨rfl,o⟩<;>(refine Jg o ?_;unhygienic intros)
 refine Ys fun o=>(?_:Tr _ _ _ _) o;refine Je ?_
 cases hk:okF f with
 | false =>
  (refine Ja ?_;unhygienic intros)
  refine Ys fun o=>?_
  exact .inr ⟨rfl,rfl,o.sub⟩
 | true =>
  (refine Ja ?_;unhygienic intros)
  refine Ys fun o=>?_
  simp only [if_true] at o
  exact .inl ⟨rfl,_,rfl,o.sub⟩
theorem Id6:Ct A7 Ao2 [int 8,.func (.func Ap6) ⟨[]⟩ ⟨[]⟩,.func (.func Ao9) ⟨[]⟩ ⟨[]⟩] [] fun v own=>∃ k,v=P0 k∧own [pt k (.cells Ah7 false [int 8,.func (.func Ap6) ⟨[]⟩ ⟨[]⟩,.func (.func Ao9) ⟨[]⟩ ⟨[]⟩])]:=by
 refine Ct.of Ec0 rfl fun h r=>Tr.eq (Eb9 ..) ?_;refine Je ?_
 rw [show mm2 false (mm2 true 8 0) 64=8 from rfl]
 (refine Ja ?_;unhygienic intros)
 refine Ys fun o=>?_
 exact ⟨_,rfl,o.sub⟩
theorem Gn9:Ct A7 A99 [] [] fun v own=>∃ k,v=P0 k∧own [pt k (.cells Ah7 false [int 8,.func (.func Ap6) ⟨[]⟩ ⟨[]⟩,.func (.func Ao9) ⟨[]⟩ ⟨[]⟩])]:=by
 refine Ct.of Gq6 rfl fun h r=>Tr.eq (Gr0 ..) ?_;refine Je ?_
 refine Yc (Id6) ?_;rintro _ h ⟨k,rfl,o⟩<;>(refine Jf o ?_;unhygienic intros)
 refine Ys fun o=>?_
 exact ⟨_,rfl,o.sub⟩
theorem E65 (f:FileS):Ct A7 A32 [.agg ⟨Bo6 f⟩] [] fun v own=>(okF f=true∧∃ a,v=.tuple ⟨[.slice a 8 8,.bool true]⟩∧own [slC false A3 1 a 8 8 (A0 (Ag7 f))])∨(okF f=false∧v=.tuple ⟨[.slice none 0 0,.bool false]⟩∧own []):=by
 refine Ct.of Gh6 rfl fun h r=>Tr.eq (Gg7 ..) ?_;refine Je ?_
 (refine Ja ?_;unhygienic intros)
 refine Yc (Gn9) ?_;rintro _ h ⟨k,rfl,o⟩<;>(refine Jf o ?_;unhygienic intros)
 refine Tr.same (Ds3 rfl) ?_
 refine Yc (G84 k f) ?_
 rintro v h (⟨hk,a,rfl,o⟩|⟨hk,rfl,o⟩)
 ·refine (?_:Tr _ _ _ _) o
  refine Je ?_
  (refine Ja ?_;unhygienic intros)
  refine Ys fun o=>?_
  exact .inl ⟨hk,a,rfl,o.sub⟩
 ·refine (?_:Tr _ _ _ _) o
  refine Je ?_
  (refine Ja ?_;unhygienic intros)
  refine Ys fun o=>?_
  exact .inr ⟨hk,rfl,o.sub⟩
theorem Ab4 {l:List UInt8} {i:Nat} (h:i<l.length):(A0 l)[i]?=some (.int .u8 ((l.getD i 0).toNat:Int)):=by
 rw [List.getD_eq_getElem?_getD,List.getElem?_eq_getElem h];exact D14 (List.getElem?_eq_getElem h)
theorem Al4 (x:UInt8):IntKind.wrap .i64 (x.toNat:Int)=(x.toNat:Int):=by
 have:=x.toNat_lt;rw [A6];omega
abbrev byI (l:List UInt8) (i:Nat):Int:=((l.getD i 0).toNat:Int)
def B43 (l:List UInt8):FileS:=⟨byI l 0,byI l 1,byI l 2,byI l 3⟩
def isF (l:List UInt8):Bool:=okF (B43 l) && decide (Ag7 (B43 l)=l)
theorem Ic3 (a:Option Addr) (c:Nat) (l:List UInt8) (hl:l.length=8):Ct A7 Ao9 [.slice a 8 c] [slC false A3 1 a 8 c (A0 l)] fun v own=>v=.tuple ⟨[.agg ⟨Bo6 (B43 l)⟩,.bool (isF l)]⟩∧own [slC false A3 1 a 8 c (A0 l)]:=by
 have key:∀ a1:Option Addr,CtP A7 D0 [.slice a1 8 8,.slice a 8 c] [slC false A3 1 a1 8 8 (A0 (Ag7 (B43 l))),slC false A3 1 a 8 c (A0 l)] (.bool (decide (Ag7 (B43 l)=l))):=fun a1=>by
  have J:=Ep2 (slC false A3 1 a1 8 8 (A0 (Ag7 (B43 l)))) (slC false A3 1 a l.length c (A0 l)) a1 false 8 a false c (Ag7 (B43 l)) l (by simp [Ag7,A66,A9])
  rwa [hl,show (Ag7 (B43 l)).length=8 from rfl] at J
 refine Ct.of Hd5 rfl fun h r=>Tr.eq (G86 ..) ?_;refine Je ?_
 refine Yn fun b1 h=>?_
 (refine Ja ?_;unhygienic intros;repeat(refine Gw ?_;rintro px rfl;refine Ja ?_;unhygienic intros))
 refine Tr.xIntS (v:=byI l 0) (Ab4 (by omega)) ?_
 (refine Ja ?_;unhygienic intros)
 refine Tr.xIntS (v:=byI l 1) (Ab4 (by omega)) ?_
 (refine Ja ?_;unhygienic intros)
 refine Tr.xIntS (v:=byI l 2) (Ab4 (by omega)) ?_
 (refine Ja ?_;unhygienic intros)
 refine Tr.xIntS (v:=byI l 3) (Ab4 (by omega)) ?_
 simp only [byI,Al4]
 refine Yn fun b2 h=>?_
 (refine Jb ?_;unhygienic intros)
 refine Yc (E65 (B43 l)) ?_
 rintro v h (⟨hk,a1,rfl,o⟩|⟨hk,rfl,o⟩)
 ·refine (?_:Tr _ _ _ _) o
  refine Je ?_
  (refine Jb ?_;unhygienic intros)
  refine Yb (Yt rfl ?_)
  refine Tr.pcall (key a1) ?_;refine Je ?_;(refine Jb ?_;unhygienic intros)
  refine Tr.same (Ds3 rfl) ?_
  refine Ys fun o=>(?_:Tr _ _ _ _) o;refine Je ?_
  (refine Ja ?_;unhygienic intros)
  refine Ys fun o=>?_
  exact ⟨by unfold isF;rw [hk,Bool.true_and];rfl,o.sub⟩
 ·refine (?_:Tr _ _ _ _) o
  refine Je ?_
  (refine Ja ?_;unhygienic intros)
  refine Ys fun o=>?_
  exact ⟨by unfold isF;rw [hk];rfl,o.sub⟩
theorem D79 (n:Nat) (pb:HP) (ro:Bool) (a:Option Addr) (c:Nat) (l:List UInt8) (hl:l.length=n) (hn:n≤A9) [ks:IsSl pb a ro A3 1 n c (A0 l)]:Ct A7 E8 [.slice a n c] [pb] fun v own=>∃ a' c',v=.slice a' n c'∧own [slC false A3 1 a' n c' (A0 l),pb]:=by
 subst hl;exact Hs2 pb ro a c l hn
theorem D90 (n:Nat) (pb:HP) (ro:Bool) (a:Option Addr) (c:Nat) (l:List UInt8) (hl:l.length=n) (hn:n≤A9) [ks:IsSl pb a ro A3 1 n c (A0 l)]:CtP A7 Ak8 [.slice a n c] [pb] (.bool (l.all (·==0))):=by
 subst hl;exact H13 pb a ro c l hn
theorem G57 (k:Nat) (pb:HP) (ro:Bool) (a:Option Addr) (c:Nat) (l:List UInt8) (hl:l.length=8) [ks:IsSl pb a ro A3 1 8 c (A0 l)]:Ct A7 U2 [P0 k,.slice a 8 c] [G36 k,pb] fun v own=>v=.tuple ⟨[.agg ⟨Bo6 (if isF l then B43 l else .zero)⟩,.bool (isF l)]⟩∧own [G36 k,pb]:=by
 refine Ct.of B19 rfl fun h r=>Tr.eq (B16 ..) ?_;refine Je ?_
 (refine Ja ?_;unhygienic intros)
 refine Yf rfl ?_
 (refine Jb ?_;unhygienic intros)
 refine Yc (D79 8 pb ro a c l hl (by simp [A9])) ?_;rintro _ h ⟨a1,c1,rfl,o⟩<;>(refine Jg o ?_;unhygienic intros)
 refine Yc (Ic3 a1 c1 l hl) ?_;rintro _ h ⟨rfl,o⟩<;>(refine Jg o ?_;unhygienic intros)
 cases hk:isF l with
 | false =>
  (refine Ja ?_;unhygienic intros)
  refine Ys fun o=>?_
  exact ⟨rfl,o.sub⟩
 | true =>
  (refine Ja ?_;unhygienic intros)
  refine Ys fun o=>?_
  exact ⟨rfl,o.sub⟩
def U9 (l:List UInt8):FileS × Int:=if l.all (·==0) then (.zero,0) else if isF l then (B43 l,1) else (.zero,2)
theorem G89 (pb:HP) (ro:Bool) (a:Option Addr) (c:Nat) (l:List UInt8) (hl:l.length=8) [ks:IsSl pb a ro A3 1 8 c (A0 l)]:Ct A7 Aq8 [.slice a 8 c] [pb] fun v own=>v=.tuple ⟨[.agg ⟨Bo6 (U9 l).1⟩,int (U9 l).2]⟩∧own [pb]:=by
 refine Ct.of Gi8 rfl fun h r=>Tr.eq (Gd3 ..) ?_;refine Je ?_
 refine Yn fun b1 h=>?_
 refine Yb (Yt rfl ?_)
 refine Tr.pcall (D90 8 pb ro a c l hl (by simp [A9])) ?_;refine Je ?_;(refine Jb ?_;unhygienic intros)
 refine Ys fun o=>(?_:Tr _ _ _ _) o;refine Je ?_
 cases hb:l.all (·==0) with
 | true =>
  (refine Ja ?_;unhygienic intros)
  refine Ys fun o=>?_
  exact ⟨by unfold U9;rw [hb];rfl,o.sub⟩
 | false =>
  (refine Jb ?_;unhygienic intros)
  refine Yc (Gn9) ?_;rintro _ h ⟨k,rfl,o⟩<;>(refine Jg o ?_;unhygienic intros)
  refine Yc (G57 k pb ro a c l hl) ?_;rintro _ h ⟨rfl,o⟩<;>(refine Jg o ?_;unhygienic intros)
  cases hk:isF l with
  | false =>
   (refine Ja ?_;unhygienic intros)
   refine Ys fun o=>?_
   exact ⟨by unfold U9;rw [hb,hk];rfl,o.sub⟩
  | true =>
   (refine Ja ?_;unhygienic intros)
   refine Ys fun o=>?_
   exact ⟨by unfold U9;rw [hb,hk];rfl,o.sub⟩
theorem Hn8 (a:Option Addr) (c:Nat) (l:List UInt8) (hl:l.length=8):Ct A7 Aq8 [.slice a 8 c] [slC false A3 1 a 8 c (A0 l)] fun v own=>v=.tuple ⟨[.agg ⟨Bo6 (U9 l).1⟩,int (U9 l).2]⟩∧own [slC false A3 1 a 8 c (A0 l)]:=G89 (slC false A3 1 a 8 c (A0 l)) false a c l hl
structure PipeS where
 head:Int
 count:Int
 readers:Int
 writers:Int
 data:List UInt8
 len:data.length=32
abbrev PipeS.zero:PipeS:=⟨0,0,0,0,List.replicate 32 0,rfl⟩
abbrev P3 (p:PipeS):List Value:=int p.head::int p.count::int p.readers::int p.writers::A0 p.data
theorem Dt9 {p:PipeS} (hd:p.data.length=32):(P3 p).length=36:=by simp [P3,S4,hd]
theorem Ho3 {p:PipeS} (hd:p.data.length=32):4+32≤(P3 p).length∧((P3 p).drop 4).take 32=A0 p.data:=⟨by rw [Dt9 hd];exact Nat.le_refl _,by
 rw [show (P3 p).drop 4=A0 p.data from rfl,List.take_of_length_le (by rw [S4,hd];exact Nat.le_refl _)]⟩
theorem Ht5 (p:PipeS):(P3 p).all Value.oneCell=true:=by simp [P3,Ae1,Value.oneCell]
theorem Hm0 (p:PipeS):Am0 (.agg ⟨P3 p⟩) (.agg ⟨P3 p⟩)=true:=Ds3 (by simp [P3,A0])
instance {p:PipeS}:LenC (P3 p) 36:=⟨Dt9 p.len⟩
instance {p:PipeS}:PartC (P3 p) 0 36 (P3 p):=⟨Bu5 (Dt9 p.len)⟩
instance {p:PipeS} {cs:List Value} [k:LenC cs 36]:SetsC cs 0 (P3 p) (P3 p):=⟨Bv2 k.ok (Dt9 p.len) (Ht5 p)⟩
instance {p:PipeS}:SameC (.agg ⟨P3 p⟩):=⟨Hm0 p⟩
def okP (p:PipeS):Bool:=decide (0≤p.head∧p.head≤31) && decide (0≤p.count∧p.count≤32) && decide (0≤p.readers∧p.readers≤8) && decide (0≤p.writers∧p.writers≤8)
def Af7 (p:PipeS):List UInt8:=[1,b8 p.head,b8 p.count,b8 p.readers,b8 p.writers,197]
def I5 (p:PipeS):List UInt8:=Af7 p++Bs3 (Af7 p)::0::p.data
theorem Dj1 {p:PipeS} (hd:p.data.length=32):(I5 p).length=40:=by simp [I5,Af7,hd]
theorem If7 (n m:Int):CtP A7 Aq0 [int n,int m] [] (.bool (decide (0≤n∧n≤m))):=by
 refine CtP.of Ha9 rfl fun h r=>Tr.eq (G68 ..) ?_;refine Je ?_
 (refine Ja ?_;unhygienic intros)
 refine Ys fun o=>?_
 refine ⟨?_,rfl⟩
 refine congrArg Value.bool ?_;rw [Bool.eq_iff_iff];simp only [Bool.and_eq_true,Bool.or_eq_true,Bool.not_eq_true',Bool.not_eq_false',decide_eq_true_eq,decide_eq_false_iff_not,bne_iff_ne,beq_iff_eq,ne_eq,A6,Aa4,Z9,ge_iff_le,gt_iff_lt];first|done|omega
instance {n m:Int} {l:List HP}:PCi A7 Aq0 [.int .i64 n,.int .i64 m] l (.bool (decide (0≤n∧n≤m))):=PCi.of (If7 n m)
theorem Ii2 (p:PipeS):Ct A7 Dt5 [.agg ⟨P3 p⟩] [] fun v own=>v=.bool (okP p)∧own []:=by
 refine Ct.of Hy3 rfl fun h r=>Tr.eq (Hr9 ..) ?_;refine Je ?_
 (refine Ja ?_;unhygienic intros)
 refine Ys fun o=>?_
 exact ⟨rfl,o.sub⟩
theorem Ia7 (a:Option Addr) (c:Nat) (p:PipeS):Ct A7 Bi4 [.agg ⟨P3 p⟩,.slice a 40 c] [slC false A3 1 a 40 c (A0 (List.replicate 40 0))] fun v own=>v=.bool (okP p)∧own [slC false A3 1 a 40 c (A0 (if okP p then I5 p else List.replicate 40 0))]:=by
 have hd:=p.len
 refine Ct.of Ho1 rfl fun h r=>Tr.eq (Hk8 ..) ?_;refine Je ?_
 refine Yn fun b1 h=>?_
 (refine Ja ?_;unhygienic intros)
 refine Yc (Ii2 p) ?_;rintro _ h ⟨rfl,o⟩<;>(refine Jg o ?_;unhygienic intros)
 cases hk:okP p with
 | false =>
  (refine Ja ?_;unhygienic intros)
  refine Ys fun o=>?_
  rw [if_neg (by simp)]
  exact ⟨rfl,o.sub⟩
 | true =>
  (refine Ja ?_;unhygienic intros)
  simp only [Be5,List.drop_zero,List.take]
  refine W5 2 rfl fun hl hc _=>?_
  refine Tr.xPCells (cs':=A0 (Af7 p++List.replicate 34 0)) (by omega) ⟨by simp,by simp [A0],by simp [Value.oneCell],rfl⟩ fun h=>?_
  (refine Ja ?_;unhygienic intros)
  refine Tr.pcall (Ga7 (slC false A3 1 a 40 c (A0 (Af7 p++List.replicate 34 0))) a false 40 c c (Af7 p++List.replicate 34 0) 6 (by simp [Af7]) (by simp [Af7,A9])) ?_
  refine Je ?_
  (refine Ja ?_;unhygienic intros;repeat(refine Gw ?_;rintro px rfl;refine Ja ?_;unhygienic intros))
  rw [show List.take 6 (Af7 p++List.replicate 34 0:List UInt8)=Af7 p from rfl,Dm3]
  refine Tr.xVS (cs':=A0 (Af7 p++Bs3 (Af7 p)::List.replicate 33 0)) ⟨by simp [A0,Af7],rfl,rfl⟩ fun h=>?_
  (refine Ja ?_;unhygienic intros)
  refine Tr.xCellsB (xs:=A0 p.data) (Ho3 p.len) ?_
  rw [Gg4 (by omega),Ep1]
  refine Tr.xPAggS (cs':=A0 (I5 p)) ⟨?_,?_,Ae1 _,?_⟩ fun h=>?_
  ·intro e;have:=congrArg List.length e;simp [A0,hd] at this
  ·simp [A0,hd,Af7]
  ·rw [S4,hd]
   simp [A0,I5,Af7]
  refine Ys fun o=>?_
  simp only [if_true]
  exact ⟨trivial,o.sub⟩
abbrev E08 (k:Nat):HP:=pt k (.cells Bm3 false [int 40,.func (.func Bi4) ⟨[]⟩ ⟨[]⟩,.func (.func Bh3) ⟨[]⟩ ⟨[]⟩])
theorem Hc8 (k:Nat) (f:PipeS):Ct A7 U1 [P0 k,.agg ⟨P3 f⟩] [E08 k] fun v own=>(okP f=true∧∃ a,v=.tuple ⟨[.slice a 40 40,.bool true]⟩∧own [E08 k,slC false A3 1 a 40 40 (A0 (I5 f))])∨(okP f=false∧v=.tuple ⟨[.slice none 0 0,.bool false]⟩∧own [E08 k]):=by
 refine Ct.of B14 rfl fun h r=>Tr.eq (B17 ..) ?_;refine Je ?_
 (refine Ja ?_;unhygienic intros)
 refine Tr.ck ⟨by omega,by omega,by simp [A9]⟩ ?_
 refine Yn fun b1 h=>?_
 rw [show G8 (Int.toNat 40) [.int .u8 0]=A0 (List.replicate 40 0) from rfl]
 refine Ae0 0 rfl 1 40 rfl (by omega) ?_
 simp only [List.set_cons_zero]
 refine Je ?_
 (refine Jb ?_;unhygienic intros)
 refine Yb (Yf rfl ?_)
 (refine Jb ?_;unhygienic intros)
 refine Yc (Ia7 (some ⟨b1,0,none⟩) 40 f) ?_;rintro _ h ⟨rfl,o⟩<;>(refine Jg o ?_;unhygienic intros)
 refine Ys fun o=>(?_:Tr _ _ _ _) o;refine Je ?_
 cases hk:okP f with
 | false =>
  (refine Ja ?_;unhygienic intros)
  refine Ys fun o=>?_
  exact .inr ⟨rfl,rfl,o.sub⟩
 | true =>
  (refine Ja ?_;unhygienic intros)
  refine Ys fun o=>?_
  simp only [if_true] at o
  exact .inl ⟨rfl,_,rfl,o.sub⟩
theorem Ia4:Ct A7 Am1 [int 40,.func (.func Bi4) ⟨[]⟩ ⟨[]⟩,.func (.func Bh3) ⟨[]⟩ ⟨[]⟩] [] fun v own=>∃ k,v=P0 k∧own [E08 k]:=by
 refine Ct.of D58 rfl fun h r=>Tr.eq (D75 ..) ?_;refine Je ?_
 rw [show mm2 false (mm2 true 40 0) 64=40 from rfl]
 (refine Ja ?_;unhygienic intros)
 refine Ys fun o=>?_
 exact ⟨_,rfl,o.sub⟩
theorem Gm8:Ct A7 Be4 [] [] fun v own=>∃ k,v=P0 k∧own [E08 k]:=by
 refine Ct.of Gy3 rfl fun h r=>Tr.eq (Gv2 ..) ?_;refine Je ?_
 refine Yc (Ia4) ?_;rintro _ h ⟨k,rfl,o⟩<;>(refine Jf o ?_;unhygienic intros)
 refine Ys fun o=>?_
 exact ⟨_,rfl,o.sub⟩
theorem Hq0 (f:PipeS):Ct A7 Bp7 [.agg ⟨P3 f⟩] [] fun v own=>(okP f=true∧∃ a,v=.tuple ⟨[.slice a 40 40,.bool true]⟩∧own [slC false A3 1 a 40 40 (A0 (I5 f))])∨(okP f=false∧v=.tuple ⟨[.slice none 0 0,.bool false]⟩∧own []):=by
 refine Ct.of Gp1 rfl fun h r=>Tr.eq (Go5 ..) ?_;refine Je ?_
 refine Yn fun b1 h=>?_
 (refine Ja ?_;unhygienic intros)
 refine Yc (Gm8) ?_;rintro _ h ⟨k,rfl,o⟩<;>(refine Jg o ?_;unhygienic intros)
 (refine Ja ?_;unhygienic intros)
 refine Yc (Hc8 k f) ?_
 rintro v h (⟨hk,a,rfl,o⟩|⟨hk,rfl,o⟩)
 ·refine (?_:Tr _ _ _ _) o
  refine Je ?_
  (refine Ja ?_;unhygienic intros)
  refine Ys fun o=>?_
  exact .inl ⟨hk,a,rfl,o.sub⟩
 ·refine (?_:Tr _ _ _ _) o
  refine Je ?_
  (refine Ja ?_;unhygienic intros)
  refine Ys fun o=>?_
  exact .inr ⟨hk,rfl,o.sub⟩
def Du0 (l:List UInt8):List UInt8:=(l++List.replicate 32 0).take 32
theorem Hr6 (l:List UInt8):(Du0 l).length=32:=by simp [Du0]
theorem D85 {l:List UInt8} (h:l.length=32):Du0 l=l:=by simp [Du0,← h]
def Ba9 (l:List UInt8):PipeS:=⟨byI l 1,byI l 2,byI l 3,byI l 4,Du0 (l.drop 8),Hr6 _⟩
def isP (l:List UInt8):Bool:=okP (Ba9 l) && decide (I5 (Ba9 l)=l)
theorem Id2 (a:Option Addr) (c:Nat) (l:List UInt8) (hl:l.length=40):Ct A7 Bh3 [.slice a 40 c] [slC false A3 1 a 40 c (A0 l)] fun v own=>v=.tuple ⟨[.agg ⟨P3 (Ba9 l)⟩,.bool (isP l)]⟩∧own [slC false A3 1 a 40 c (A0 l)]:=by
 have hd:=(Ba9 l).len
 have hp:Du0 (l.drop 8)=l.drop 8:=D85 (by simp [hl])
 have key:∀ a1:Option Addr,CtP A7 D0 [.slice a1 40 40,.slice a 40 c] [slC false A3 1 a1 40 40 (A0 (I5 (Ba9 l))),slC false A3 1 a 40 c (A0 l)] (.bool (decide (I5 (Ba9 l)=l))):=fun a1=>by
  have e:=Dj1 hd
  have J:=Ep2 (slC false A3 1 a1 (I5 (Ba9 l)).length 40 (A0 (I5 (Ba9 l)))) (slC false A3 1 a l.length c (A0 l)) a1 false 40 a false c (I5 (Ba9 l)) l (by rw [e];simp [A9])
  rwa [hl,e] at J
 refine Ct.of Hm9 rfl fun h r=>Tr.eq (Hi9 ..) ?_;refine Je ?_
 refine Yn fun b1 h=>?_
 refine W5 1 rfl fun hl2 hc2 _=>?_
 (refine Ja ?_;unhygienic intros;repeat(refine Gw ?_;rintro px rfl;refine Ja ?_;unhygienic intros))
 refine Tr.xIntS (v:=byI l 1) (Ab4 (by omega)) ?_
 (refine Ja ?_;unhygienic intros)
 refine Tr.xIntS (v:=byI l 2) (Ab4 (by omega)) ?_
 (refine Ja ?_;unhygienic intros)
 refine Tr.xIntS (v:=byI l 3) (Ab4 (by omega)) ?_
 (refine Ja ?_;unhygienic intros)
 refine Tr.xIntS (v:=byI l 4) (Ab4 (by omega)) ?_
 simp only [byI,Al4]
 refine Yn fun b2 h=>?_
 (refine Jb ?_;unhygienic intros)
 rw [Gg4 (show 8<c by omega),G47]
 refine Tr.xAggS (xs:=A0 (l.drop 8)) ⟨by omega,by simp [S4,hl],?_⟩ ?_
 ·rw [B28,List.take_of_length_le (by simp [S4,hl])]
 rw [show pCells (some (⟨b2,4,none⟩:Addr))=pAgg ⟨b2,4,none⟩ from rfl]
 refine Tr.xPAgg (cs':=P3 (Ba9 l)) ⟨by simp [S4,hl],Ae1 _,by simp [P3,Ba9,byI,S4,hl,hp]⟩ fun h=>?_
 (refine Ja ?_;unhygienic intros)
 refine Yc (Hq0 (Ba9 l)) ?_
 rintro v h (⟨hk,a1,rfl,o⟩|⟨hk,rfl,o⟩)
 ·refine (?_:Tr _ _ _ _) o
  refine Je ?_
  (refine Jb ?_;unhygienic intros)
  refine Yb (Yt rfl ?_)
  refine Tr.pcall (key a1) ?_;refine Je ?_;(refine Jb ?_;unhygienic intros)
  refine Ys fun o=>(?_:Tr _ _ _ _) o;refine Je ?_
  (refine Ja ?_;unhygienic intros)
  refine Ys fun o=>?_
  exact ⟨by unfold isP;rw [hk,Bool.true_and],o.sub⟩
 ·refine (?_:Tr _ _ _ _) o
  refine Je ?_
  (refine Ja ?_;unhygienic intros)
  refine Ys fun o=>?_
  exact ⟨by unfold isP;rw [hk];rfl,o.sub⟩
theorem G63 (k:Nat) (pb:HP) (ro:Bool) (a:Option Addr) (c:Nat) (l:List UInt8) (hl:l.length=40) [ks:IsSl pb a ro A3 1 40 c (A0 l)]:Ct A7 S9 [P0 k,.slice a 40 c] [E08 k,pb] fun v own=>v=.tuple ⟨[.agg ⟨P3 (if isP l then Ba9 l else .zero)⟩,.bool (isP l)]⟩∧own [E08 k,pb]:=by
 have hd:=(Ba9 l).len
 have hp:Du0 (l.drop 8)=l.drop 8:=D85 (by simp [hl])
 refine Ct.of B13 rfl fun h r=>Tr.eq (B12 ..) ?_;refine Je ?_
 (refine Ja ?_;unhygienic intros)
 refine Yf rfl ?_
 (refine Jb ?_;unhygienic intros)
 refine Yc (D79 40 pb ro a c l hl (by simp [A9])) ?_;rintro _ h ⟨a1,c1,rfl,o⟩<;>(refine Jg o ?_;unhygienic intros)
 refine Yc (Id2 a1 c1 l hl) ?_;rintro _ h ⟨rfl,o⟩<;>(refine Jg o ?_;unhygienic intros)
 cases hk:isP l with
 | false =>
  (refine Ja ?_;unhygienic intros)
  refine Ys fun o=>?_
  exact ⟨rfl,o.sub⟩
 | true =>
  (refine Ja ?_;unhygienic intros)
  refine Ys fun o=>?_
  exact ⟨rfl,o.sub⟩
def Q8 (l:List UInt8):PipeS × Int:=if l.all (·==0) then (.zero,0) else if isP l then (Ba9 l,1) else (.zero,2)
theorem Hc4 (pb:HP) (ro:Bool) (a:Option Addr) (c:Nat) (l:List UInt8) (hl:l.length=40) [ks:IsSl pb a ro A3 1 40 c (A0 l)]:Ct A7 Ak5 [.slice a 40 c] [pb] fun v own=>v=.tuple ⟨[.agg ⟨P3 (Q8 l).1⟩,int (Q8 l).2]⟩∧own [pb]:=by
 have hd:=(Ba9 l).len
 have hp:Du0 (l.drop 8)=l.drop 8:=D85 (by simp [hl])
 refine Ct.of Gr3 rfl fun h r=>Tr.eq (Gq5 ..) ?_;refine Je ?_
 refine Yn fun b1 h=>?_
 refine Yb (Yt rfl ?_)
 refine Tr.pcall (D90 40 pb ro a c l hl (by simp [A9])) ?_;refine Je ?_;(refine Jb ?_;unhygienic intros)
 refine Ys fun o=>(?_:Tr _ _ _ _) o;refine Je ?_
 cases hb:l.all (·==0) with
 | true =>
  (refine Ja ?_;unhygienic intros)
  refine Ys fun o=>?_
  exact ⟨by unfold Q8;rw [hb];rfl,o.sub⟩
 | false =>
  (refine Jb ?_;unhygienic intros)
  refine Yc (Gm8) ?_;rintro _ h ⟨k,rfl,o⟩<;>(refine Jg o ?_;unhygienic intros)
  refine Yc (G63 k pb ro a c l hl) ?_;rintro _ h ⟨rfl,o⟩<;>(refine Jg o ?_;unhygienic intros)
  cases hk:isP l with
  | false =>
   (refine Ja ?_;unhygienic intros)
   refine Ys fun o=>?_
   exact ⟨by unfold Q8;rw [hb,hk];rfl,o.sub⟩
  | true =>
   (refine Ja ?_;unhygienic intros)
   refine Ys fun o=>?_
   exact ⟨by unfold Q8;rw [hb,hk];rfl,o.sub⟩
theorem Hn4 (a:Option Addr) (c:Nat) (l:List UInt8) (hl:l.length=40):Ct A7 Ak5 [.slice a 40 c] [slC false A3 1 a 40 c (A0 l)] fun v own=>v=.tuple ⟨[.agg ⟨P3 (Q8 l).1⟩,int (Q8 l).2]⟩∧own [slC false A3 1 a 40 c (A0 l)]:=Hc4 (slC false A3 1 a 40 c (A0 l)) false a c l hl
structure ProcS where
 state:Int
 parent:Int
 group:Int
 code:Int
 pending:Int
 mask:Int
 ignored:Int
 caught:Int
 fds:List Int
 len:fds.length=8
abbrev Gr9:List Int:=[0,0,0,0,0,0,0,0]
abbrev ProcS.zero:ProcS:=⟨0,0,0,0,0,0,0,0,Gr9,rfl⟩
abbrev B8 (p:ProcS):List Value:=int p.state::int p.parent::int p.group::int p.code::int p.pending::int p.mask::int p.ignored::int p.caught::p.fds.map int
theorem Bv1 (p:ProcS):(B8 p).length=16:=by simp [B8,p.len]
theorem Hw1 (p:ProcS):(B8 p).all Value.oneCell=true:=by simp [B8,Value.oneCell]
instance {p:ProcS}:LenC (B8 p) 16:=⟨Bv1 p⟩
instance {p:ProcS}:PartC (B8 p) 0 16 (B8 p):=⟨Bu5 (Bv1 p)⟩
instance {p:ProcS}:PartC (B8 p) 8 8 (p.fds.map int):=⟨by
 have h:Nat.ble (8+8) (B8 p).length=true:=by rw [Bv1];rfl
 have e:((B8 p).drop 8).take 8=p.fds.map int:=by rw [show (B8 p).drop 8=p.fds.map int from rfl,List.take_of_length_le (by simp [p.len])]
 rw [B70,h,e];rfl⟩
instance {p:ProcS} {cs:List Value} [k:LenC cs 16]:SetsC cs 0 (B8 p) (B8 p):=⟨Bv2 k.ok (Bv1 p) (Hw1 p)⟩
instance {p:ProcS}:SameC (.agg ⟨B8 p⟩):=⟨Ds3 (by simp [B8])⟩
def Bo9 (n w:Int):Bool:=Ai6 .i64 n 65534==0 && D6 .i64 n w==0
def okS (p:ProcS):Bool :=
 !(decide (p.state<1) || decide (p.state>3) || decide (p.parent<0) || decide (p.parent>8) || decide (p.group<0) || decide (p.group≥8) || decide (p.code<0) || decide (p.code>255)) &&
 (!(!Bo9 p.pending 0 || !Bo9 p.mask 16896 || !Bo9 p.ignored 16896 || !Bo9 p.caught 16896 || D6 .i64 p.ignored p.caught != 0) &&
 (!(p.fds.any fun f=>decide (f<0) || decide (f>12)) &&
 (if p.state=2 then p.pending==0 && decide (p.fds=Gr9) else p.code==0)))
def hi2 (n:Int):UInt8:=if 0≤n∧n≤65535 then b8 (n / 256) else 0
def lo2 (n:Int):UInt8:=if 0≤n∧n≤65535 then b8 n else 0
abbrev put2 (n:Int):List UInt8:=[hi2 n,lo2 n]
def Eb5 (p:ProcS):List UInt8:=[b8 p.state,b8 p.parent,b8 p.group,b8 p.code]++(put2 p.pending++(put2 p.mask++(put2 p.ignored++(put2 p.caught++(p.fds.map b8++[167])))))
theorem H64 (n:Int):(put2 n).length=2:=rfl
theorem Hy7 (p:ProcS):(Eb5 p).length=21:=by simp [Eb5,H64,p.len]
def At8 (p:ProcS):List UInt8:=Eb5 p++[Bs3 (Eb5 p),0,0]
theorem Ea4 (p:ProcS):(At8 p).length=24:=by simp [At8,Hy7]
theorem Ia3 (n w:Int):CtP A7 Aj3 [int n,int w] [] (.bool (Bo9 n w)):=by
 refine CtP.of G54 rfl fun h r=>Tr.eq (Gy4 ..) ?_;refine Je ?_
 exact Jz
instance {n w:Int} {l:List HP}:PCi A7 Aj3 [.int .i64 n,.int .i64 w] l (.bool (Bo9 n w)):=PCi.of (Ia3 n w)
theorem Ic8 (f:Int):CtP A7 Bg2 [int f] [] (.bool (decide (f<0) || decide (f>12))):=by
 refine CtP.of Gs7 rfl fun h r=>Tr.eq (Gu0 ..) ?_;refine Je ?_
 exact Jz
theorem E53 (p:HP) (a:Option Addr) (ro:Bool) (c:Nat) (l:List Int) (g:FuncId) (f:Int→Bool) {e:TypeId} [ks:IsSl p a ro e 1 l.length c (l.map int)] (hl:l.length≤A9) (hf:∀ x,CtP A7 g [int x] [] (.bool (f x))):∀ (m i:Nat),l.length-i=m→i≤l.length →
  S6 E9 D2 L8 [(0,.slice a l.length c),(1,.func (.func g) ⟨[]⟩ ⟨[]⟩),(7,int l.length),(8,int i)] [p] (int (Bp4 f i (l.drop i))):=by
 intro m
 induction m with
 | zero =>
  intro i hm hi
  refine S6.of J7 fun h r=>Tr.eq (P9 ..) ?_;refine Je ?_
  refine Yf (by simp;omega) ?_
  refine Ys fun o=>?_
  rw [List.drop_eq_nil_of_le (by omega)];exact ⟨rfl,rfl⟩
 | succ m ih =>
  intro i hm hi
  have hlt:i<l.length:=by omega
  have hp:l[i]?=some l[i]:=List.getElem?_eq_getElem hlt
  have hd:l.drop i=l[i]::l.drop (i+1):=List.drop_eq_getElem_cons hlt
  generalize l[i]=x at hp hd
  have e1:IntKind.wrap .i64 ((i:Int)+1)=((i+1:Nat):Int):=by rw [A6];simp only [A9] at hl;omega
  refine S6.of J7 fun h r=>Tr.eq (P9 ..) ?_;refine Je ?_
  refine Yt (by simp;omega) ?_
  (refine Ja ?_;unhygienic intros;repeat(refine Gw ?_;rintro px rfl;refine Ja ?_;unhygienic intros))
  refine Tr.xIntS (v:=x) (by simp [hp]) ?_
  (refine Ja ?_;unhygienic intros)
  refine Tr.pcall (hf x) ?_
  cases hx:f x with
  | true =>
   (refine Ja ?_;unhygienic intros)
   refine Ys fun o=>?_
   rw [hd,Bp4,if_pos hx];exact ⟨by first|rfl|trivial,by first|rfl|trivial⟩
  | false =>
   (refine Ja ?_;unhygienic intros)
   rw [e1]
   refine W4 (ih (i+1) (by omega) (by omega)) (r:=r) (by simp) fun o=>?_
   rw [hd,Bp4,if_neg (by simp [hx])];exact ⟨by first|rfl|trivial,by first|rfl|trivial⟩
theorem E31 (p:HP) (a:Option Addr) (ro:Bool) (c:Nat) (l:List Int) (g:FuncId) (f:Int→Bool) {e:TypeId} [ks:IsSl p a ro e 1 l.length c (l.map int)] (hl:l.length≤A9) (hf:∀ x,CtP A7 g [int x] [] (.bool (f x))) :
  CtP A7 E0 [.slice a l.length c,.func (.func g) ⟨[]⟩ ⟨[]⟩] [p] (.bool (l.any f)):=by
 have j:CtP A7 D2 [.slice a l.length c,.func (.func g) ⟨[]⟩ ⟨[]⟩] [p] (int (Bp4 f 0 l)):=by
  refine CtP.of J7 rfl fun h r=>Tr.eq (A39 ..) ?_;refine Je ?_
  exact W4 (E53 p a ro c l g f hl hf _ 0 rfl (by omega)) (r:=r) (by simp) fun o=>⟨rfl,rfl⟩
 refine CtP.of At7 rfl fun h r=>Tr.eq (At6 ..) ?_;refine Je ?_
 refine Bu2 j (r:=r) (by simp) ?_
 (refine Ja ?_;unhygienic intros)
 refine Ys fun o=>?_
 rw [Ep3];exact ⟨by first|rfl|trivial,by first|rfl|trivial⟩
theorem Gy7:∀ (l m:List Int),l.length=m.length→eqs (l.map int) (m.map int)=some (decide (l=m))
 | [],[],_=>rfl
 | [],_::_,h=>by simp at h
 | _::_,[],h=>by simp at h
 | a::l,b::m,h=>by
  have ih:=Gy7 l m (by simpa using h)
  simp only [List.map_cons,eqs,eq1,decide_true,ih]
  by_cases h1:a=b<;>by_cases h2:l=m<;>simp [h1,h2]
theorem E34:∀ (l:List Int),G2 (List.replicate l.length (TypeDesc.int .i64)) (l.map int)=true
 | []=>rfl
 | a::l=>by
  have:=E34 l
  simp only [List.length_cons,List.replicate_succ,List.map_cons,G2,decide_true,this,Bool.and_self]
theorem eq8 {α:Type} (l m:List Int) (hl:l.length=8) (hm:m.length=8) (k:Bool→Option α):B71 PR Gg1 (l.map int) (m.map int) k=k (decide (l=m)):=by
 have e:Ah9 PR 8 Gg1=some (List.replicate 8 (TypeDesc.int .i64)):=by kernel_rfl
 have f1:=E34 l;have f2:=E34 m
 rw [hl] at f1;rw [hm] at f2
 rw [B71,e]
 simp only [f1,f2,Gy7 l m (by omega),Bool.and_self,ckB,cond_true,eqK]
theorem Ig1 (p:ProcS):Ct A7 Di4 [.agg ⟨B8 p⟩] [] fun v own=>v=.bool (okS p)∧own []:=by
 have h8:=p.len
 refine Ct.of Hm4 rfl fun h r=>Tr.eq (Hq1 ..) ?_;refine Je ?_
 (refine Ja ?_;unhygienic intros)
 refine Tr.cond (fun h1=>?_) fun h1=>?_
 ·refine Ys fun o=>?_
  refine ⟨?_,o.sub⟩
  unfold okS;rw [h1];rfl
 (refine Ja ?_;unhygienic intros)
 refine Tr.cond (fun h2=>?_) fun h2=>?_
 ·refine Ys fun o=>?_
  refine ⟨?_,o.sub⟩
  unfold okS;rw [h1,h2];rfl
 (refine Ja ?_;unhygienic intros)
 refine Gd5 0 rfl [int p.state,int p.parent,int p.group,int p.code,int p.pending,int p.mask,int p.ignored,int p.caught] (p.fds.map int) [] (by simp [B8]) 1 8 8 8 ⟨by simp [h8],by omega,by simp,by simp [B8],by omega,by omega⟩ ?_
 refine Je ?_
 have J:=E31 (e:=B0) (slX false B0 1 (some ⟨b,8,none⟩) p.fds.length 8 ([int p.state,int p.parent,int p.group,int p.code,int p.pending,int p.mask,int p.ignored,int p.caught],[]) (p.fds.map int)) (some ⟨b,8,none⟩) false 8 p.fds Bg2 (fun f=>decide (f<0) || decide (f>12)) (by rw [h8];simp [A9]) Ic8
 rw [h8] at J
 refine Tr.pcall (J) ?_;refine Je ?_;(refine Ja ?_;unhygienic intros)
 refine Em8 0 rfl (B8 p) (by simp [B8]) ?_
 refine Je ?_
 cases h3:p.fds.any fun f=>decide (f<0) || decide (f>12) with
 | true =>
  (refine Ja ?_;unhygienic intros)
  refine Ys fun o=>?_
  refine ⟨?_,o.sub⟩
  unfold okS;rw [h1,h2,h3];rfl
 | false =>
  (refine Ja ?_;unhygienic intros)
  have e:okS p=if p.state=2 then p.pending==0 && decide (p.fds=Gr9) else p.code==0:=by unfold okS;rw [h1,h2,h3];rfl
  rw [e]
  by_cases h4:p.state=2
  ·refine Yt (by simpa using h4) ?_
   rw [if_pos h4]
   (repeat' first|refine Gu ?_|(with_reducible first|refine Gn fun b h=>?_|apply Gx|apply Gy|rintro px rfl|apply Gw|refine fun(h:H)=>?_|intro hb)|refine Gs ?_|refine Gt ?_|exact Gz rfl|fail)
   rw [show ([int 0,int 0,int 0,int 0,int 0,int 0,int 0,int 0]:List Value)=Gr9.map int from rfl,eq8 _ _ h8 rfl]
   (repeat' first|refine Gu ?_|(with_reducible first|refine Gn fun b h=>?_|apply Gx|apply Gy|rintro px rfl|apply Gw|refine fun(h:H)=>?_|intro hb)|refine Gs ?_|refine Gt ?_|exact Gz rfl|fail)
   refine Ys fun o=>?_
   exact ⟨rfl,o.sub⟩
  ·refine Yf (by simpa using h4) ?_
   rw [if_neg h4]
   (refine Ja ?_;unhygienic intros)
   refine Ys fun o=>?_
   exact ⟨rfl,o.sub⟩
theorem Ib7 (a:Option Addr) (c:Nat) (cs:List Value) (j:Nat) (n:Int) (hj:j+2≤cs.length) (hm:cs.length≤A9):Ct A7 Bd9 [.slice a cs.length c,int j,int n] [slC false A3 1 a cs.length c cs] fun v own =>
  (∃ ok,v=.bool ok)∧own [slC false A3 1 a cs.length c (if 0≤n∧n≤65535 then (cs.set j (.int .u8 ((b8 (n / 256)).toNat:Int))).set (j+1) (.int .u8 ((b8 n).toNat:Int)) else cs)]:=by
 simp only [A9] at hm
 have e1:IntKind.wrap .i64 ((cs.length:Int)-2)=(cs.length:Int)-2:=by rw [A6];omega
 have e2:IntKind.wrap .i64 ((j:Int)+1)=((j+1:Nat):Int):=by rw [A6];omega
 refine Ct.of Gx2 rfl fun h r=>Tr.eq (Gs9 ..) ?_;refine Je ?_
 rw [e1,e2]
 (refine Ja ?_;unhygienic intros)
 by_cases h:0≤n∧n≤65535
 ·refine Yf (by simp;omega) ?_
  rw [if_pos h]
  (refine Ja ?_;unhygienic intros;repeat(refine Gw ?_;rintro px rfl;refine Ja ?_;unhygienic intros))
  rw [Int.toNat_natCast,show Int.fdiv n (2 ^ 8)=n / 256 by rw [Int.fdiv_eq_ediv_of_nonneg _ (by omega)];rfl,Be5,Be5]
  refine Je ?_
  refine Tr.xVS (cs':=cs.set j (.int .u8 ((b8 (n / 256)).toNat:Int))) ⟨by omega,rfl,rfl⟩ fun h=>?_
  (refine Ja ?_;unhygienic intros)
  rw [Int.toNat_natCast]
  refine Je ?_
  refine Tr.xVS (cs':=(cs.set j (.int .u8 ((b8 (n / 256)).toNat:Int))).set (j+1) (.int .u8 ((b8 n).toNat:Int))) ⟨by simp;omega,rfl,rfl⟩ fun h=>?_
  refine Ys fun o=>?_
  exact ⟨⟨_,rfl⟩,o.sub⟩
 ·refine Yt (by simp;omega) ?_
  rw [if_neg h]
  refine Ys fun o=>?_
  exact ⟨⟨_,rfl⟩,o.sub⟩
theorem D35 (l:List UInt8) (j:Nat) (x:UInt8):(A0 l).set j (.int .u8 (x.toNat:Int))=A0 (l.set j x):=by simp [A0,List.map_set]
theorem D51 (a:Option Addr) (c m:Nat) (l:List UInt8) (j:Nat) (n:Int) (hm:l.length=m) (hj:j+2≤m) (h1:l[j]?=some 0) (h2:l[j+1]?=some 0) (hl:m≤A9):Ct A7 Bd9 [.slice a m c,int j,int n] [slC false A3 1 a m c (A0 l)] fun v own =>
  (∃ ok,v=.bool ok)∧own [slC false A3 1 a m c (A0 ((l.set j (hi2 n)).set (j+1) (lo2 n)))]:=by
 subst hm
 have J:=Ib7 a c (A0 l) j n (by rw [S4];omega) (by rw [S4];omega)
 rw [S4] at J
 have e:(if 0≤n∧n≤65535 then ((A0 l).set j (.int .u8 ((b8 (n / 256)).toNat:Int))).set (j+1) (.int .u8 ((b8 n).toNat:Int)) else A0 l)=A0 ((l.set j (hi2 n)).set (j+1) (lo2 n)):=by
  unfold hi2 lo2
  split
  ·rw [D35,D35]
  ·rw [En0 h1,En0 h2]
 rw [e] at J
 exact J
def two (l:List UInt8) (j:Nat):Int:=byI l j*256+byI l (j+1)
theorem Ii5 (x y:UInt8):B53 .i64 (IntKind.wrap .i64 (IntKind.wrap .i64 (x.toNat:Int)*2 ^ 8)) (IntKind.wrap .i64 (y.toNat:Int))=(x.toNat:Int)*256+y.toNat:=by
 have hx:=x.toNat_lt;have hy:=y.toNat_lt
 have e1:IntKind.wrap .i64 (IntKind.wrap .i64 (x.toNat:Int)*2 ^ 8)=((x.toNat*256:Nat):Int):=by rw [Al4,A6];omega
 rw [e1,Al4]
 unfold B53
 have e0:IntKind.bits .i64=64:=rfl
 rw [e0,BitVec.ofInt_natCast,BitVec.ofInt_natCast,BitVec.toNat_or,BitVec.toNat_ofNat,BitVec.toNat_ofNat,Nat.mod_eq_of_lt (by omega),Nat.mod_eq_of_lt (by omega)]
 have e2:x.toNat*256 ||| y.toNat=x.toNat*256+y.toNat:=by
  have:=Nat.two_pow_add_eq_or_of_lt (i:=8) (b:=y.toNat) (by omega) x.toNat
  rw [show 2 ^ 8*x.toNat=x.toNat*256 by omega] at this
  exact this.symm
 rw [e2,A6];omega
theorem Es6 (a:Option Addr) (c n:Nat) (l:List UInt8) (j:Nat) (hn:l.length=n) (hj:j+2≤n) (hm:n≤A9):CtP A7 B04 [.slice a n c,int j] [slC false A3 1 a n c (A0 l)] (.tuple ⟨[int (two l j),.bool true]⟩):=by
 simp only [A9] at hm
 have e1:IntKind.wrap .i64 ((n:Int)-2)=(n:Int)-2:=by rw [A6];omega
 have e2:IntKind.wrap .i64 ((j:Int)+1)=((j+1:Nat):Int):=by rw [A6];omega
 refine CtP.of G20 rfl fun h r=>Tr.eq (Gx3 ..) ?_;refine Je ?_
 rw [e1,e2]
 (refine Ja ?_;unhygienic intros)
 refine Yf (by simp;omega) ?_
 (refine Ja ?_;unhygienic intros;repeat(refine Gw ?_;rintro px rfl;refine Ja ?_;unhygienic intros))
 rw [Int.toNat_natCast]
 refine Je ?_
 refine Tr.xIntS (v:=byI l j) (Ab4 (by omega)) ?_
 (refine Ja ?_;unhygienic intros)
 rw [Int.toNat_natCast]
 refine Je ?_
 refine Tr.xIntS (v:=byI l (j+1)) (Ab4 (by omega)) ?_
 refine Ys fun o=>?_
 rw [Ii5];exact ⟨rfl,rfl⟩
theorem Id1 (a:Option Addr) (c:Nat) (p:ProcS):Ct A7 N0 [.agg ⟨B8 p⟩,.slice a 24 c] [slC false A3 1 a 24 c (A0 (List.replicate 24 0))] fun v own=>v=.bool (okS p)∧own [slC false A3 1 a 24 c (A0 (if okS p then At8 p else List.replicate 24 0))]:=by
 refine Ct.of H0 rfl fun h r=>Tr.eq (G69 ..) ?_;refine Je ?_
 refine Yn fun b1 h=>?_
 (refine Ja ?_;unhygienic intros)
 refine Yc (Ig1 p) ?_;rintro _ h ⟨rfl,o⟩<;>(refine Jf o ?_;unhygienic intros)
 cases hk:okS p with
 | false =>
  (refine Ja ?_;unhygienic intros)
  refine Ys fun o=>?_
  rw [if_neg (by simp)]
  exact ⟨rfl,o.sub⟩
 | true =>
  simp only [if_true]
  obtain ⟨st,pa,gr,co,pe,ma,ig,ca,fds,len⟩:=p
  match fds,len with
  | [f0,f1,f2,f3,f4,f5,f6,f7],len =>
  (refine Ja ?_;unhygienic intros)
  rename_i b2 h2
  refine W5 2 rfl fun hl hc _=>?_
  simp only [List.map]
  refine Tr.jmp H0 (Tr.eq (A24 ..) ?_);(try simp only[Nr,Nl,wl,Nat.reduceAdd,Nat.reduceMul,Int.reduceToNat])
  (refine Jd ?_;unhygienic intros;repeat(refine Gw ?_;rintro px rfl;refine Jd ?_;unhygienic intros))
  refine Tr.jmp H0 (Tr.eq (A24 ..) ?_);(try simp only[Nr,Nl,wl,Nat.reduceAdd,Nat.reduceMul,Int.reduceToNat])
  (refine Jd ?_;unhygienic intros)
  refine Tr.jmp H0 (Tr.eq (A24 ..) ?_);(try simp only[Nr,Nl,wl,Nat.reduceAdd,Nat.reduceMul,Int.reduceToNat])
  (refine Jd ?_;unhygienic intros)
  refine Tr.jmp H0 (Tr.eq (A24 ..) ?_);(try simp only[Nr,Nl,wl,Nat.reduceAdd,Nat.reduceMul,Int.reduceToNat])
  (refine Jd ?_;unhygienic intros)
  refine Tr.jmp H0 (Tr.eq (A24 ..) ?_);(try simp only[Nr,Nl,wl,Nat.reduceAdd,Nat.reduceMul,Int.reduceToNat])
  (refine Jd ?_;unhygienic intros)
  simp only [Be5,D35,List.replicate,List.set_cons_zero,List.set_cons_succ,Nat.mul_one]
  refine Tr.jmp H0 (Tr.eq (A26 ..) ?_);(try simp only[Nr,Nl,wl,Nat.reduceAdd,Nat.reduceMul,Int.reduceToNat])
  (refine Jd ?_;unhygienic intros)
  refine Yc (D51 (some px) c 24 [b8 st,b8 pa,b8 gr,b8 co,0,0,0,0,0,0,0,0,0,0,0,0,0,0,0,0,0,0,0,0] 4 pe rfl (by omega) rfl rfl (by simp [A9])) ?_;rintro _ h ⟨⟨_,rfl⟩,o⟩<;>(refine Jf o ?_;unhygienic intros)
  refine Tr.jmp H0 (Tr.eq (A26 ..) ?_);(try simp only[Nr,Nl,wl,Nat.reduceAdd,Nat.reduceMul,Int.reduceToNat])
  (refine Jd ?_;unhygienic intros)
  refine Yc (D51 (some px) c 24 [b8 st,b8 pa,b8 gr,b8 co,hi2 pe,lo2 pe,0,0,0,0,0,0,0,0,0,0,0,0,0,0,0,0,0,0] 6 ma rfl (by omega) rfl rfl (by simp [A9])) ?_;rintro _ h ⟨⟨_,rfl⟩,o⟩<;>(refine Jf o ?_;unhygienic intros)
  refine Tr.jmp H0 (Tr.eq (A26 ..) ?_);(try simp only[Nr,Nl,wl,Nat.reduceAdd,Nat.reduceMul,Int.reduceToNat])
  (refine Jd ?_;unhygienic intros)
  refine Yc (D51 (some px) c 24 [b8 st,b8 pa,b8 gr,b8 co,hi2 pe,lo2 pe,hi2 ma,lo2 ma,0,0,0,0,0,0,0,0,0,0,0,0,0,0,0,0] 8 ig rfl (by omega) rfl rfl (by simp [A9])) ?_;rintro _ h ⟨⟨_,rfl⟩,o⟩<;>(refine Jf o ?_;unhygienic intros)
  refine Tr.jmp H0 (Tr.eq (A26 ..) ?_);(try simp only[Nr,Nl,wl,Nat.reduceAdd,Nat.reduceMul,Int.reduceToNat])
  (refine Jd ?_;unhygienic intros)
  refine Yc (D51 (some px) c 24 [b8 st,b8 pa,b8 gr,b8 co,hi2 pe,lo2 pe,hi2 ma,lo2 ma,hi2 ig,lo2 ig,0,0,0,0,0,0,0,0,0,0,0,0,0,0] 10 ca rfl (by omega) rfl rfl (by simp [A9])) ?_;rintro _ h ⟨⟨_,rfl⟩,o⟩<;>(refine Jf o ?_;unhygienic intros)
  refine Tr.jmp H0 (Tr.eq (A26 ..) ?_);(try simp only[Nr,Nl,wl,Nat.reduceAdd,Nat.reduceMul,Int.reduceToNat])
  (refine Jd ?_;unhygienic intros)
  refine Tr.jmp H0 (Tr.eq (V6 ..) ?_);(try simp only[Nr,Nl,wl,Nat.reduceAdd,Nat.reduceMul,Int.reduceToNat])
  (refine Jd ?_;unhygienic intros)
  refine Tr.jmp H0 (Tr.eq (V6 ..) ?_);(try simp only[Nr,Nl,wl,Nat.reduceAdd,Nat.reduceMul,Int.reduceToNat])
  (refine Jd ?_;unhygienic intros)
  refine Tr.jmp H0 (Tr.eq (V6 ..) ?_);(try simp only[Nr,Nl,wl,Nat.reduceAdd,Nat.reduceMul,Int.reduceToNat])
  (refine Jd ?_;unhygienic intros)
  refine Tr.jmp H0 (Tr.eq (V6 ..) ?_);(try simp only[Nr,Nl,wl,Nat.reduceAdd,Nat.reduceMul,Int.reduceToNat])
  (refine Jd ?_;unhygienic intros)
  refine Tr.jmp H0 (Tr.eq (V6 ..) ?_);(try simp only[Nr,Nl,wl,Nat.reduceAdd,Nat.reduceMul,Int.reduceToNat])
  (refine Jd ?_;unhygienic intros)
  refine Tr.jmp H0 (Tr.eq (V6 ..) ?_);(try simp only[Nr,Nl,wl,Nat.reduceAdd,Nat.reduceMul,Int.reduceToNat])
  (refine Jd ?_;unhygienic intros)
  refine Tr.jmp H0 (Tr.eq (V6 ..) ?_);(try simp only[Nr,Nl,wl,Nat.reduceAdd,Nat.reduceMul,Int.reduceToNat])
  (refine Jd ?_;unhygienic intros)
  refine Tr.jmp H0 (Tr.eq (V6 ..) ?_);(try simp only[Nr,Nl,wl,Nat.reduceAdd,Nat.reduceMul,Int.reduceToNat])
  (refine Jd ?_;unhygienic intros)
  refine Tr.jmp H0 (Tr.eq (V6 ..) ?_);(try simp only[Nr,Nl,wl,Nat.reduceAdd,Nat.reduceMul,Int.reduceToNat])
  (refine Jd ?_;unhygienic intros)
  simp only [Be5,D35,List.set_cons_zero,List.set_cons_succ,Nat.mul_one]
  rw [show (.int .u8 167:Value)=.int .u8 ((167:UInt8).toNat:Int) from rfl,D35]
  simp only [List.set_cons_zero,List.set_cons_succ]
  refine Tr.pcall (Ga7 (slC false A3 1 (some px) 24 c (A0 [b8 st,b8 pa,b8 gr,b8 co,hi2 pe,lo2 pe,hi2 ma,lo2 ma,hi2 ig,lo2 ig,hi2 ca,lo2 ca,b8 f0,b8 f1,b8 f2,b8 f3,b8 f4,b8 f5,b8 f6,b8 f7,167,0,0,0])) (some px) false 24 c c [b8 st,b8 pa,b8 gr,b8 co,hi2 pe,lo2 pe,hi2 ma,lo2 ma,hi2 ig,lo2 ig,hi2 ca,lo2 ca,b8 f0,b8 f1,b8 f2,b8 f3,b8 f4,b8 f5,b8 f6,b8 f7,167,0,0,0] 21 (by simp) (by simp [A9])) ?_
  refine Je ?_
  (refine Ja ?_;unhygienic intros)
  rw [Dm3]
  (refine Jd ?_;unhygienic intros)
  refine Ys fun o=>?_
  rw [D35] at o
  simp only [List.set_cons_zero,List.set_cons_succ] at o
  simp only [At8,Eb5,put2,List.map,List.cons_append,List.nil_append]
  exact ⟨trivial,o.sub⟩
abbrev E07 (k:Nat):HP:=pt k (.cells Bm0 false [int 24,.func (.func N0) ⟨[]⟩ ⟨[]⟩,.func (.func V4) ⟨[]⟩ ⟨[]⟩])
theorem G81 (k:Nat) (f:ProcS):Ct A7 S8 [P0 k,.agg ⟨B8 f⟩] [E07 k] fun v own=>(okS f=true∧∃ a,v=.tuple ⟨[.slice a 24 24,.bool true]⟩∧own [E07 k,slC false A3 1 a 24 24 (A0 (At8 f))])∨(okS f=false∧v=.tuple ⟨[.slice none 0 0,.bool false]⟩∧own [E07 k]):=by
 refine Ct.of B21 rfl fun h r=>Tr.eq (B20 ..) ?_;refine Je ?_
 (refine Ja ?_;unhygienic intros)
 refine Tr.ck ⟨by omega,by omega,by simp [A9]⟩ ?_
 refine Yn fun b1 h=>?_
 rw [show G8 (Int.toNat 24) [.int .u8 0]=A0 (List.replicate 24 0) from rfl]
 refine Ae0 0 rfl 1 24 rfl (by omega) ?_
 simp only [List.set_cons_zero]
 refine Je ?_
 (refine Jb ?_;unhygienic intros)
 refine Yb (Yf rfl ?_)
 (refine Jb ?_;unhygienic intros)
 refine Yc (Id1 (some ⟨b1,0,none⟩) 24 f) ?_;rintro _ h ⟨rfl,o⟩<;>(refine Jg o ?_;unhygienic intros)
 refine Ys fun o=>(?_:Tr _ _ _ _) o;refine Je ?_
 cases hk:okS f with
 | false =>
  (refine Ja ?_;unhygienic intros)
  refine Ys fun o=>?_
  exact .inr ⟨rfl,rfl,o.sub⟩
 | true =>
  (refine Ja ?_;unhygienic intros)
  refine Ys fun o=>?_
  simp only [if_true] at o
  exact .inl ⟨rfl,_,rfl,o.sub⟩
theorem Ic4:Ct A7 Am7 [int 24,.func (.func N0) ⟨[]⟩ ⟨[]⟩,.func (.func V4) ⟨[]⟩ ⟨[]⟩] [] fun v own=>∃ k,v=P0 k∧own [E07 k]:=by
 refine Ct.of D50 rfl fun h r=>Tr.eq (Ea7 ..) ?_;refine Je ?_
 rw [show mm2 false (mm2 true 24 0) 64=24 from rfl]
 (refine Ja ?_;unhygienic intros)
 refine Ys fun o=>?_
 exact ⟨_,rfl,o.sub⟩
theorem Gk8:Ct A7 A91 [] [] fun v own=>∃ k,v=P0 k∧own [E07 k]:=by
 refine Ct.of Gp4 rfl fun h r=>Tr.eq (Gp5 ..) ?_;refine Je ?_
 refine Yc (Ic4) ?_;rintro _ h ⟨k,rfl,o⟩<;>(refine Jf o ?_;unhygienic intros)
 refine Ys fun o=>?_
 exact ⟨_,rfl,o.sub⟩
theorem E86 (f:ProcS):Ct A7 A35 [.agg ⟨B8 f⟩] [] fun v own=>(okS f=true∧∃ a,v=.tuple ⟨[.slice a 24 24,.bool true]⟩∧own [slC false A3 1 a 24 24 (A0 (At8 f))])∨(okS f=false∧v=.tuple ⟨[.slice none 0 0,.bool false]⟩∧own []):=by
 refine Ct.of Gd9 rfl fun h r=>Tr.eq (Gi0 ..) ?_;refine Je ?_
 (refine Ja ?_;unhygienic intros)
 refine Yc (Gk8) ?_;rintro _ h ⟨k,rfl,o⟩<;>(refine Jg o ?_;unhygienic intros)
 refine Yc (G81 k f) ?_
 rintro v h (⟨hk,a,rfl,o⟩|⟨hk,rfl,o⟩)
 ·refine (?_:Tr _ _ _ _) o
  refine Je ?_
  (refine Ja ?_;unhygienic intros)
  refine Ys fun o=>?_
  exact .inl ⟨hk,a,rfl,o.sub⟩
 ·refine (?_:Tr _ _ _ _) o
  refine Je ?_
  (refine Ja ?_;unhygienic intros)
  refine Ys fun o=>?_
  exact .inr ⟨hk,rfl,o.sub⟩
def Bb2 (l:List UInt8):ProcS:=⟨byI l 0,byI l 1,byI l 2,byI l 3,two l 4,two l 6,two l 8,two l 10,[byI l 12,byI l 13,byI l 14,byI l 15,byI l 16,byI l 17,byI l 18,byI l 19],rfl⟩
def isS (l:List UInt8):Bool:=okS (Bb2 l) && decide (At8 (Bb2 l)=l)
theorem H89 (a:Option Addr) (c:Nat) (l:List UInt8) (hl:l.length=24):Ct A7 V4 [.slice a 24 c] [slC false A3 1 a 24 c (A0 l)] fun v own=>v=.tuple ⟨[.agg ⟨B8 (Bb2 l)⟩,.bool (isS l)]⟩∧own [slC false A3 1 a 24 c (A0 l)]:=by
 have key:∀ a1:Option Addr,CtP A7 D0 [.slice a1 24 24,.slice a 24 c] [slC false A3 1 a1 24 24 (A0 (At8 (Bb2 l))),slC false A3 1 a 24 c (A0 l)] (.bool (decide (At8 (Bb2 l)=l))):=fun a1=>by
  have e:=Ea4 (Bb2 l)
  have J:=Ep2 (slC false A3 1 a1 (At8 (Bb2 l)).length 24 (A0 (At8 (Bb2 l)))) (slC false A3 1 a l.length c (A0 l)) a1 false 24 a false c (At8 (Bb2 l)) l (by rw [e];simp [A9])
  rwa [hl,e] at J
 refine Ct.of N3 rfl fun h r=>Tr.eq (G99 ..) ?_;refine Je ?_
 refine Yn fun b1 h=>?_
 refine W5 1 rfl fun hl2 hc2 _=>?_
 (refine Ja ?_;unhygienic intros;repeat(refine Gw ?_;rintro px rfl;refine Ja ?_;unhygienic intros))
 refine Tr.xIntS (v:=byI l 0) (Ab4 (by omega)) ?_
 (refine Ja ?_;unhygienic intros)
 refine Tr.xIntS (v:=byI l 1) (Ab4 (by omega)) ?_
 (refine Ja ?_;unhygienic intros)
 refine Tr.xIntS (v:=byI l 2) (Ab4 (by omega)) ?_
 (refine Ja ?_;unhygienic intros)
 refine Tr.xIntS (v:=byI l 3) (Ab4 (by omega)) ?_
 (refine Ja ?_;unhygienic intros)
 simp only [byI,Al4]
 refine Tr.jmp N3 (Tr.eq (A30 ..) ?_);(try simp only[Nr,Nl,wl,Nat.reduceAdd,Nat.reduceMul,Int.reduceToNat])
 (refine Jd ?_;unhygienic intros)
 refine Tr.pcall (Es6 (some px) c 24 l 4 hl (by omega) (by simp [A9])) ?_;refine Je ?_;(refine Ja ?_;unhygienic intros)
 refine Tr.jmp N3 (Tr.eq (A30 ..) ?_);(try simp only[Nr,Nl,wl,Nat.reduceAdd,Nat.reduceMul,Int.reduceToNat])
 (refine Jd ?_;unhygienic intros)
 refine Tr.pcall (Es6 (some px) c 24 l 6 hl (by omega) (by simp [A9])) ?_;refine Je ?_;(refine Ja ?_;unhygienic intros)
 refine Tr.jmp N3 (Tr.eq (A30 ..) ?_);(try simp only[Nr,Nl,wl,Nat.reduceAdd,Nat.reduceMul,Int.reduceToNat])
 (refine Jd ?_;unhygienic intros)
 refine Tr.pcall (Es6 (some px) c 24 l 8 hl (by omega) (by simp [A9])) ?_;refine Je ?_;(refine Ja ?_;unhygienic intros)
 refine Tr.jmp N3 (Tr.eq (A30 ..) ?_);(try simp only[Nr,Nl,wl,Nat.reduceAdd,Nat.reduceMul,Int.reduceToNat])
 (refine Jd ?_;unhygienic intros)
 refine Tr.pcall (Es6 (some px) c 24 l 10 hl (by omega) (by simp [A9])) ?_;refine Je ?_;(refine Ja ?_;unhygienic intros)
 refine Tr.jmp N3 (Tr.eq (A30 ..) ?_);(try simp only[Nr,Nl,wl,Nat.reduceAdd,Nat.reduceMul,Int.reduceToNat])
 (refine Jd ?_;unhygienic intros)
 refine Tr.jmp N3 (Tr.eq (V5 ..) ?_);(try simp only[Nr,Nl,wl,Nat.reduceAdd,Nat.reduceMul,Int.reduceToNat])
 (refine Jd ?_;unhygienic intros)
 refine Tr.xIntS (v:=byI l 12) (Ab4 (by omega)) ?_
 (refine Jd ?_;unhygienic intros)
 simp only [byI,Al4]
 refine Tr.jmp N3 (Tr.eq (V5 ..) ?_);(try simp only[Nr,Nl,wl,Nat.reduceAdd,Nat.reduceMul,Int.reduceToNat])
 (refine Jd ?_;unhygienic intros)
 refine Tr.xIntS (v:=byI l 13) (Ab4 (by omega)) ?_
 (refine Jd ?_;unhygienic intros)
 simp only [byI,Al4]
 refine Tr.jmp N3 (Tr.eq (V5 ..) ?_);(try simp only[Nr,Nl,wl,Nat.reduceAdd,Nat.reduceMul,Int.reduceToNat])
 (refine Jd ?_;unhygienic intros)
 refine Tr.xIntS (v:=byI l 14) (Ab4 (by omega)) ?_
 (refine Jd ?_;unhygienic intros)
 simp only [byI,Al4]
 refine Tr.jmp N3 (Tr.eq (V5 ..) ?_);(try simp only[Nr,Nl,wl,Nat.reduceAdd,Nat.reduceMul,Int.reduceToNat])
 (refine Jd ?_;unhygienic intros)
 refine Tr.xIntS (v:=byI l 15) (Ab4 (by omega)) ?_
 (refine Jd ?_;unhygienic intros)
 simp only [byI,Al4]
 refine Tr.jmp N3 (Tr.eq (V5 ..) ?_);(try simp only[Nr,Nl,wl,Nat.reduceAdd,Nat.reduceMul,Int.reduceToNat])
 (refine Jd ?_;unhygienic intros)
 refine Tr.xIntS (v:=byI l 16) (Ab4 (by omega)) ?_
 (refine Jd ?_;unhygienic intros)
 simp only [byI,Al4]
 refine Tr.jmp N3 (Tr.eq (V5 ..) ?_);(try simp only[Nr,Nl,wl,Nat.reduceAdd,Nat.reduceMul,Int.reduceToNat])
 (refine Jd ?_;unhygienic intros)
 refine Tr.xIntS (v:=byI l 17) (Ab4 (by omega)) ?_
 (refine Jd ?_;unhygienic intros)
 simp only [byI,Al4]
 refine Tr.jmp N3 (Tr.eq (V5 ..) ?_);(try simp only[Nr,Nl,wl,Nat.reduceAdd,Nat.reduceMul,Int.reduceToNat])
 (refine Jd ?_;unhygienic intros)
 refine Tr.xIntS (v:=byI l 18) (Ab4 (by omega)) ?_
 (refine Jd ?_;unhygienic intros)
 simp only [byI,Al4]
 refine Tr.jmp N3 (Tr.eq (V5 ..) ?_);(try simp only[Nr,Nl,wl,Nat.reduceAdd,Nat.reduceMul,Int.reduceToNat])
 (refine Jd ?_;unhygienic intros)
 refine Tr.xIntS (v:=byI l 19) (Ab4 (by omega)) ?_
 (refine Jd ?_;unhygienic intros)
 simp only [byI,Al4]
 refine Tr.jmp N3 (Tr.eq (V5 ..) ?_);(try simp only[Nr,Nl,wl,Nat.reduceAdd,Nat.reduceMul,Int.reduceToNat])
 refine Yf rfl ?_
 refine Tr.xAgg (xs:=B8 (Bb2 l)) ⟨Nat.le_of_ble_eq_true rfl,rfl⟩ ?_
 refine Yc (E86 (Bb2 l)) ?_
 rintro v h (⟨hk,a1,rfl,o⟩|⟨hk,rfl,o⟩)
 ·refine (?_:Tr _ _ _ _) o
  refine Je ?_
  refine Tr.dx ?_
  refine Tr.dx ?_
  refine Tr.dx ?_
  refine Tr.xAgg (xs:=B8 (Bb2 l)) ⟨Nat.le_of_ble_eq_true rfl,rfl⟩ ?_
  refine Yb (Yt rfl ?_)
  refine Tr.pcall (key a1) ?_
  refine Tr.dx ?_
  refine Tr.xAgg (xs:=B8 (Bb2 l)) ⟨Nat.le_of_ble_eq_true rfl,rfl⟩ ?_
  (refine Ja ?_;unhygienic intros)
  refine Ys fun o=>(?_:Tr _ _ _ _) o;refine Je ?_
  (refine Ja ?_;unhygienic intros)
  refine Ys fun o=>?_
  exact ⟨by unfold isS;rw [hk,Bool.true_and],o.sub⟩
 ·refine (?_:Tr _ _ _ _) o
  refine Je ?_
  refine Tr.dx ?_
  refine Tr.dx ?_
  refine Tr.dx ?_
  refine Tr.xAgg (xs:=B8 (Bb2 l)) ⟨Nat.le_of_ble_eq_true rfl,rfl⟩ ?_
  (refine Ja ?_;unhygienic intros)
  refine Ys fun o=>?_
  exact ⟨by unfold isS;rw [hk];rfl,o.sub⟩
theorem Gw1 (k:Nat) (pb:HP) (ro:Bool) (a:Option Addr) (c:Nat) (l:List UInt8) (hl:l.length=24) [ks:IsSl pb a ro A3 1 24 c (A0 l)]:Ct A7 U3 [P0 k,.slice a 24 c] [E07 k,pb] fun v own=>v=.tuple ⟨[.agg ⟨B8 (if isS l then Bb2 l else .zero)⟩,.bool (isS l)]⟩∧own [E07 k,pb]:=by
 refine Ct.of B18 rfl fun h r=>Tr.eq (B15 ..) ?_;refine Je ?_
 (refine Ja ?_;unhygienic intros)
 refine Yf rfl ?_
 (refine Jb ?_;unhygienic intros)
 refine Yc (D79 24 pb ro a c l hl (by simp [A9])) ?_;rintro _ h ⟨a1,c1,rfl,o⟩<;>(refine Jg o ?_;unhygienic intros)
 refine Yc (H89 a1 c1 l hl) ?_;rintro _ h ⟨rfl,o⟩<;>(refine Jg o ?_;unhygienic intros)
 cases hk:isS l with
 | false =>
  (refine Ja ?_;unhygienic intros)
  refine Ys fun o=>?_
  exact ⟨rfl,o.sub⟩
 | true =>
  (refine Ja ?_;unhygienic intros)
  refine Ys fun o=>?_
  exact ⟨rfl,o.sub⟩
def Q9 (l:List UInt8):ProcS × Int:=if l.all (·==0) then (.zero,0) else if isS l then (Bb2 l,1) else (.zero,2)
theorem He2 (pb:HP) (ro:Bool) (a:Option Addr) (c:Nat) (l:List UInt8) (hl:l.length=24) [ks:IsSl pb a ro A3 1 24 c (A0 l)]:Ct A7 Aq1 [.slice a 24 c] [pb] fun v own=>v=.tuple ⟨[.agg ⟨B8 (Q9 l).1⟩,int (Q9 l).2]⟩∧own [pb]:=by
 refine Ct.of Gf1 rfl fun h r=>Tr.eq (Gf8 ..) ?_;refine Je ?_
 refine Yn fun b1 h=>?_
 refine Yb (Yt rfl ?_)
 refine Tr.pcall (D90 24 pb ro a c l hl (by simp [A9])) ?_;refine Je ?_;(refine Jb ?_;unhygienic intros)
 refine Ys fun o=>(?_:Tr _ _ _ _) o;refine Je ?_
 cases hb:l.all (·==0) with
 | true =>
  (refine Ja ?_;unhygienic intros)
  refine Ys fun o=>?_
  exact ⟨by unfold Q9;rw [hb];rfl,o.sub⟩
 | false =>
  (refine Jb ?_;unhygienic intros)
  refine Yc (Gk8) ?_;rintro _ h ⟨k,rfl,o⟩<;>(refine Jg o ?_;unhygienic intros)
  refine Yc (Gw1 k pb ro a c l hl) ?_;rintro _ h ⟨rfl,o⟩<;>(refine Jg o ?_;unhygienic intros)
  cases hk:isS l with
  | false =>
   (refine Ja ?_;unhygienic intros)
   refine Ys fun o=>?_
   exact ⟨by unfold Q9;rw [hb,hk];rfl,o.sub⟩
  | true =>
   (refine Ja ?_;unhygienic intros)
   refine Ys fun o=>?_
   exact ⟨by unfold Q9;rw [hb,hk];rfl,o.sub⟩
theorem Hm5 (a:Option Addr) (c:Nat) (l:List UInt8) (hl:l.length=24):Ct A7 Aq1 [.slice a 24 c] [slC false A3 1 a 24 c (A0 l)] fun v own=>v=.tuple ⟨[.agg ⟨B8 (Q9 l).1⟩,int (Q9 l).2]⟩∧own [slC false A3 1 a 24 c (A0 l)]:=He2 (slC false A3 1 a 24 c (A0 l)) false a c l hl
def J4 (l:List UInt8) (a:Nat) (b:List UInt8):List UInt8:=l.take a++b++l.drop (a+b.length)
theorem Ad4 {l b:List UInt8} {a:Nat} (h:a+b.length≤l.length):(J4 l a b).length=l.length:=by simp [J4];omega
theorem Bh8 {l b:List UInt8} {a:Nat} (h:a+b.length≤l.length) (i:Nat):(J4 l a b)[i]?=if a≤i∧i<a+b.length then b[i-a]? else l[i]?:=by
 unfold J4
 by_cases h1:i<a
 ·rw [if_neg (by omega),List.append_assoc,List.getElem?_append_left (by simp;omega),List.getElem?_take,if_pos h1]
 ·rw [List.append_assoc,List.getElem?_append_right (by simp;omega),List.length_take,Nat.min_eq_left (by omega)]
  by_cases h2:i<a+b.length
  ·rw [if_pos ⟨by omega,h2⟩,List.getElem?_append_left (by omega)]
  ·rw [if_neg (by omega),List.getElem?_append_right (by omega),List.getElem?_drop];congr 1;omega
def slice (l:List UInt8) (a n:Nat):List UInt8:=(l.drop a).take n
theorem Bt5 (l:List UInt8) (a n i:Nat):(slice l a n)[i]?=if i<n then l[a+i]? else none:=by
 unfold slice;rw [List.getElem?_take];split
 ·rw [List.getElem?_drop]
 ·rfl
theorem Go2 {l:List UInt8} {a n:Nat} (h:a+n≤l.length):(slice l a n).length=n:=by simp [slice];omega
abbrev Rg:=List (Nat × Nat)
def Az5:List UInt8→Rg→List (List UInt8)→List UInt8
 | l,(lo,_)::rg,x::m=>Az5 (J4 l lo x) rg m
 | l,_,_=>l
structure Fit (size:Nat) (rg:Rg) (m:List (List UInt8)):Prop where
 len:m.length=rg.length
 each:∀ (j lo n:Nat),rg[j]?=some (lo,n)→lo+n≤size∧∃ x,m[j]?=some x∧x.length=n
def RgOk (rg:Rg):Prop:=∀ (i j lo n lo' n':Nat),i≠j→rg[i]?=some (lo,n)→rg[j]?=some (lo',n')→lo+n≤lo'∨lo'+n'≤lo
theorem Fit.tail {size:Nat} {p:Nat × Nat} {rg:Rg} {x:List UInt8} {m:List (List UInt8)} (f:Fit size (p::rg) (x::m)):Fit size rg m:=⟨by simpa using f.len,fun j lo n h=>by simpa using f.each (j+1) lo n (by simpa using h)⟩
theorem Fit.head {size lo n:Nat} {rg:Rg} {x:List UInt8} {m:List (List UInt8)} (f:Fit size ((lo,n)::rg) (x::m)):lo+n≤size∧x.length=n:=by
 obtain ⟨h,y,hy,hl⟩:=f.each 0 lo n rfl
 simp at hy;subst hy;exact ⟨h,hl⟩
theorem RgOk.tail {p:Nat × Nat} {rg:Rg} (k:RgOk (p::rg)):RgOk rg:=fun i j lo n lo' n' hij hi hj=>k (i+1) (j+1) lo n lo' n' (by omega) (by simpa using hi) (by simpa using hj)
theorem Do8:∀ {rg:Rg} {m:List (List UInt8)} {l:List UInt8},Fit l.length rg m→(Az5 l rg m).length=l.length
 | [],m,l,f=>by simp [Az5]
 | (lo,n)::rg,[],l,f=>by simp [Az5]
 | (lo,n)::rg,x::m,l,f=>by
  have h:=f.head
  have e:=Ad4 (l:=l) (b:=x) (a:=lo) (by omega)
  unfold Az5
  rw [Do8 (by rw [e];exact f.tail),e]
theorem Dk2:∀ {rg:Rg} {m:List (List UInt8)} {l:List UInt8},Fit l.length rg m→∀ i,(∀ (j lo n:Nat),rg[j]?=some (lo,n)→i<lo∨lo+n≤i)→(Az5 l rg m)[i]?=l[i]?
 | [],m,l,f,i,h=>by simp [Az5]
 | (lo,n)::rg,[],l,f,i,h=>by simp [Az5]
 | (lo,n)::rg,x::m,l,f,i,h=>by
  have h0:=f.head
  have e:=Ad4 (l:=l) (b:=x) (a:=lo) (by omega)
  unfold Az5
  rw [Dk2 (by rw [e];exact f.tail) i (fun j lo' n' hj=>h (j+1) lo' n' (by simpa using hj)),Bh8 (by omega),if_neg]
  have:=h 0 lo n rfl;omega
theorem B50:∀ {rg:Rg} {m:List (List UInt8)} {l:List UInt8},Fit l.length rg m→RgOk rg→∀ (j lo n:Nat) (x:List UInt8),rg[j]?=some (lo,n)→m[j]?=some x→∀ i,i<n→(Az5 l rg m)[lo+i]?=x[i]?
 | [],m,l,f,k,j,lo,n,x,h,hx,i,hi=>by simp at h
 | (lo0,n0)::rg,[],l,f,k,j,lo,n,x,h,hx,i,hi=>by simp at hx
 | (lo0,n0)::rg,x0::m,l,f,k,j,lo,n,x,h,hx,i,hi=>by
  have h0:=f.head
  have e:=Ad4 (l:=l) (b:=x0) (a:=lo0) (by omega)
  unfold Az5
  cases j with
  | zero =>
   simp at h hx
   obtain ⟨rfl,rfl⟩:=h;subst hx
   rw [Dk2 (by rw [e];exact f.tail) (lo0+i) (fun j lo' n' hj=>by
    have:=k 0 (j+1) lo0 n0 lo' n' (by omega) rfl (by simpa using hj)
    omega),Bh8 (by omega),if_pos (by omega)]
   congr 1;omega
  | succ j=>exact B50 (by rw [e];exact f.tail) k.tail j lo n x (by simpa using h) (by simpa using hx) i hi
theorem Hi2 {rg:Rg} {m:List (List UInt8)} {l:List UInt8} (f:Fit l.length rg m) (k:RgOk rg) {j lo n:Nat} {x:List UInt8} (h:rg[j]?=some (lo,n)) (hx:m[j]?=some x) {a c:Nat} (hc:a+c≤n):slice (Az5 l rg m) (lo+a) c=slice x a c:=by
 refine List.ext_getElem? fun i=>?_
 rw [Bt5,Bt5]
 split
 ·rw [Nat.add_assoc,B50 f k j lo n x h hx (a+i) (by omega)]
 ·rfl
theorem Fit.set {size:Nat} {rg:Rg} {m:List (List UInt8)} (f:Fit size rg m) {j lo n:Nat} (h:rg[j]?=some (lo,n)) {y:List UInt8} (hy:y.length=n):Fit size rg (m.set j y):=⟨by simpa using f.len,fun i lo' n' hi=>by
 obtain ⟨h1,z,hz,hl⟩:=f.each i lo' n' hi
 refine ⟨h1,?_⟩
 by_cases hij:j=i
 ·subst hij
  rw [h] at hi;cases hi
  exact ⟨y,by simp [(List.getElem?_eq_some_iff.1 hz).1],hy⟩
 ·exact ⟨z,by rw [List.getElem?_set_ne hij];exact hz,hl⟩⟩
theorem G92 {rg:Rg} {m:List (List UInt8)} {l:List UInt8} (f:Fit l.length rg m) (k:RgOk rg) {j lo n:Nat} {x:List UInt8} (h:rg[j]?=some (lo,n)) (hx:m[j]?=some x) {a:Nat} {b:List UInt8} (hc:a+b.length≤n):J4 (Az5 l rg m) (lo+a) b=Az5 l rg (m.set j (J4 x a b)):=by
 obtain ⟨h1,y,hy,hl⟩:=f.each j lo n h
 rw [hx] at hy;cases hy
 have e:=Ad4 (l:=x) (b:=b) (a:=a) (by omega)
 have f2:=f.set h (y:=J4 x a b) (by omega)
 have lp:=Do8 f
 refine List.ext_getElem? fun i=>?_
 rw [Bh8 (by omega)]
 by_cases hi:lo≤i∧i<lo+n
 ·obtain ⟨i',rfl⟩:∃ i',i=lo+i':=⟨i-lo,by omega⟩
  rw [B50 f2 k j lo n (J4 x a b) h (by simp [(List.getElem?_eq_some_iff.1 hx).1]) i' (by omega),Bh8 (by omega),B50 f k j lo n x h hx i' (by omega)]
  by_cases h2:a≤i'∧i'<a+b.length
  ·rw [if_pos (by omega),if_pos h2];congr 1;omega
  ·rw [if_neg (by omega),if_neg h2]
 ·rw [if_neg (by omega)]
  by_cases ho:∃ (j' lo' n':Nat),rg[j']?=some (lo',n')∧lo'≤i∧i<lo'+n'
  ·obtain ⟨j',lo',n',hj',h3,h4⟩:=ho
   have hne:j≠j':=fun e=>by subst e;rw [h] at hj';cases hj';omega
   obtain ⟨_,z,hz,_⟩:=f.each j' lo' n' hj'
   obtain ⟨i',rfl⟩:∃ i',i=lo'+i':=⟨i-lo',by omega⟩
   rw [B50 f k j' lo' n' z hj' hz i' (by omega),B50 f2 k j' lo' n' z hj' (by rw [List.getElem?_set_ne hne];exact hz) i' (by omega)]
  ·have hall:∀ (j' lo' n':Nat),rg[j']?=some (lo',n')→i<lo'∨lo'+n'≤i:=fun j' lo' n' hj'=>by
    by_cases hh:lo'≤i∧i<lo'+n'
    ·exact absurd ⟨j',lo',n',hj',hh.1,hh.2⟩ ho
    ·omega
   rw [Dk2 f i hall,Dk2 f2 i hall]
structure RecS where
 kind:Int
 index:Int
deriving DecidableEq
abbrev W2 (r:RecS):List Value:=[int r.kind,int r.index]
structure Fr where
 S:KS
 N:Nat
 env:Int
 caps:List Int
 rg:Rg
structure FrOk (F:Fr):Prop where
 ok:KOk F.N F.S
 hN:F.N+1<1000000000
 ne:0<F.caps.length
 small:F.caps.length≤40
 len:F.rg.length=F.caps.length
 env:¬ (F.env<0∨F.env≥(F.S.envs.length:Int))
 pl:∀ (j:Nat) (cap:Int) (lo n:Nat),F.caps[j]?=some cap→F.rg[j]?=some (lo,n)→∀ (a m:Nat) (right:Int),right=1∨right=2→a+m≤n→O5 F.S.tabs F.S.regs F.env cap right a m=(((lo+a:Nat):Int),0)
 dj:RgOk F.rg
 own:∃ lo,F.rg[0]?=some (lo,492)
 brs:∀ (j lo n:Nat),0<j→F.rg[j]?=some (lo,n)→n=40
def Fr.at (F:Fr) (m:List (List UInt8)):KS:=Bm6 F.S (Az5 F.S.mem F.rg m)
structure CX where
 m:List (List UInt8)
 bad:List RecS
def Ae8:Nat→List RecS→List MapEntry
 | _,[]=>[]
 | i,r::l=>{ key:=.agg ⟨W2 r⟩,val:=int 1,born:=i }::Ae8 (i+1) l
abbrev Ii3 (c k:Nat) (env:Int) (caps:List Int) (bad:List RecS) (x:Option Addr × Nat × Nat):List HP :=
 [pt c (.cells De2 false [P0 k,int env,.slice x.1 caps.length x.2.1,.map (some x.2.2)]),slC false B3 1 x.1 caps.length x.2.1 (caps.map int),pt x.2.2 (.map (Ae8 0 bad) bad.length)]
def U4 (c k:Nat) (env:Int) (caps:List Int) (bad:List RecS):HP:=hex fun x=>sl (Ii3 c k env caps bad x)
instance {c k:Nat} {env:Int} {caps:List Int} {bad:List RecS}:Chk (U4 c k env caps bad) (Ii3 c k env caps bad):=⟨rfl⟩
abbrev cmF (c k:Nat) (F:Fr) (x:CX):List HP:=[D7 k (F.at x.m),U4 c k F.env F.caps x.bad,pu (Fit F.S.mem.length F.rg x.m)]
def cmC (c k:Nat) (F:Fr) (x:CX):HP:=hex fun _:Unit=>sl (cmF c k F x)
instance {c k:Nat} {F:Fr} {x:CX}:Chk (cmC c k F x) (fun _:Unit=>cmF c k F x):=⟨rfl⟩
def W7 (nc:Nat) (kind:Int):Int:=if kind=1 then 8 else if kind=2 then 12 else if kind=3 then 3+nc else 1
def G9 (nc:Nat) (r:RecS):Option (Nat × Nat × Nat) :=
 if r.index<0∨r.index≥W7 nc r.kind then none
 else if r.kind=1 then some (0,24*r.index.toNat,24)
 else if r.kind=2 then some (0,192+8*r.index.toNat,8)
 else if r.kind=3 then if r.index<4 then some (0,288+40*r.index.toNat,40) else some (r.index.toNat-3,0,40)
 else if r.kind=4 then some (0,448,40)
 else some (0,488,4)
def G04 (caps:List Int):Option (Nat × Nat × Nat)→List Value
 | some (j,a,n)=>[int (caps.getD j 0),int a,int n]
 | none=>[int 0,int 0,int 0]
theorem Gu4 (c k:Nat) (env:Int) (caps:List Int) (bad:List RecS) (kind:Int) (hs:caps.length≤40):CtP A7 Y5 [P0 c,int kind] [U4 c k env caps bad] (int (W7 caps.length kind)):=by
 have e:IntKind.wrap .i64 (IntKind.wrap .i64 (4+(caps.length:Int))-1)=3+(caps.length:Int):=by rw [A6,A6];omega
 refine CtP.of Dx2 rfl fun h r=>Tr.eq (Dz5 ..) ?_;refine Je ?_
 refine B4 (U4 c k env caps bad) fun ⟨a,n,mb⟩=>?_;refine Je ?_
 unfold W7
 by_cases h1:kind=1
 ·refine Yt (by simpa using h1) ?_
  rw [if_pos h1];exact Jz
 refine Yf (by simpa using h1) ?_
 rw [if_neg h1]
 by_cases h2:kind=2
 ·refine Yt (by simpa using h2) ?_
  rw [if_pos h2];exact Jz
 refine Yf (by simpa using h2) ?_
 rw [if_neg h2]
 by_cases h3:kind=3
 ·refine Yt (by simpa using h3) ?_
  rw [if_pos h3];(refine Ja ?_;unhygienic intros)
  refine Ys fun o=>?_
  rw [e];exact ⟨by first|rfl|trivial,by first|rfl|trivial⟩
 refine Yf (by simpa using h3) ?_
 rw [if_neg h3];exact Jz
theorem Em5 (c k:Nat) (env:Int) (caps:List Int) (bad:List RecS) (rc:RecS) (hs:caps.length≤40) (hn:0<caps.length):Ct A7 P1 [P0 c,.agg ⟨W2 rc⟩] [U4 c k env caps bad] fun v own =>
  v=.tuple ⟨[.agg ⟨G04 caps (G9 caps.length rc)⟩,.bool (G9 caps.length rc).isSome]⟩∧own [U4 c k env caps bad]:=by
 have hg:∀ j,j<caps.length→(caps.map int)[j]?=some (int (caps.getD j 0)):=fun j hj=>by rw [List.getElem?_map,M9 0 hj];rfl
 refine Ct.of Dq2 rfl fun h r=>Tr.eq (Dq5 ..) ?_;refine Je ?_
 (refine Jb ?_;unhygienic intros)
 refine Tr.orG (c:=decide (rc.index≥W7 caps.length rc.kind)) (fun hb=>?_) ?_
 ·(refine Ja ?_;unhygienic intros)
  refine Tr.pcall (Gu4 c k env caps bad rc.kind hs) ?_;refine Je ?_;exact Jz
 by_cases hi:rc.index<0∨rc.index≥W7 caps.length rc.kind
 ·refine Yt (by simp only [Bool.or_eq_true,decide_eq_true_eq];exact hi) ?_
  have e:G9 caps.length rc=none:=by unfold G9;rw [if_pos hi]
  rw [e]
  (refine Ja ?_;unhygienic intros)
  refine Ys fun o=>?_
  exact ⟨rfl,o.sub⟩
 refine Yf (by simp only [Bool.or_eq_false_iff,decide_eq_false_iff_not];omega) ?_
 refine B4 (U4 c k env caps bad) fun ⟨a,n,mb⟩=>?_;refine Je ?_
 (refine Ja ?_;unhygienic intros;repeat(refine Gw ?_;rintro px rfl;refine Ja ?_;unhygienic intros))
 refine Tr.xIntS (v:=caps.getD 0 0) (hg 0 hn) ?_
 (refine Ja ?_;unhygienic intros)
 by_cases h1:rc.kind=1
 ·refine Yt (by simpa using h1) ?_
  have e:G9 caps.length rc=some (0,24*rc.index.toNat,24):=by unfold G9;rw [if_neg hi,if_pos h1]
  have hm:W7 caps.length rc.kind=8:=by unfold W7;rw [if_pos h1]
  have e1:IntKind.wrap .i64 (24*rc.index)=((24*rc.index.toNat:Nat):Int):=by rw [A6];omega
  rw [e,e1]
  (refine Ja ?_;unhygienic intros)
  refine B1 (U4 c k env caps bad) ⟨some px,n,mb⟩ ?_;refine Je ?_
  refine Ys fun o=>?_
  exact ⟨rfl,o.sub⟩
 refine Yf (by simpa using h1) ?_
 by_cases h2:rc.kind=2
 ·(refine Ja ?_;unhygienic intros)
  refine Yt (by simpa using h2) ?_
  have e:G9 caps.length rc=some (0,192+8*rc.index.toNat,8):=by unfold G9;rw [if_neg hi,if_neg h1,if_pos h2]
  have hm:W7 caps.length rc.kind=12:=by unfold W7;rw [if_neg h1,if_pos h2]
  have e1:IntKind.wrap .i64 (192+IntKind.wrap .i64 (8*rc.index))=((192+8*rc.index.toNat:Nat):Int):=by rw [A6,A6];omega
  rw [e,e1]
  (refine Ja ?_;unhygienic intros)
  refine B1 (U4 c k env caps bad) ⟨some px,n,mb⟩ ?_;refine Je ?_
  refine Ys fun o=>?_
  exact ⟨rfl,o.sub⟩
 (refine Ja ?_;unhygienic intros)
 refine Yf (by simpa using h2) ?_
 (refine Jb ?_;unhygienic intros)
 refine Tr.andG (c:=decide (rc.index<4)) (fun hb=>?_) ?_
 ·exact Jz
 by_cases h3:rc.kind=3
 ·have hm:W7 caps.length rc.kind=3+caps.length:=by unfold W7;rw [if_neg h1,if_neg h2,if_pos h3]
  by_cases h4:rc.index<4
  ·refine Yt (by simp [h3,h4]) ?_
   have e:G9 caps.length rc=some (0,288+40*rc.index.toNat,40):=by unfold G9;rw [if_neg hi,if_neg h1,if_neg h2,if_pos h3,if_pos h4]
   have e1:IntKind.wrap .i64 (288+IntKind.wrap .i64 (40*rc.index))=((288+40*rc.index.toNat:Nat):Int):=by rw [A6,A6];omega
   rw [e,e1]
   (refine Ja ?_;unhygienic intros)
   refine B1 (U4 c k env caps bad) ⟨some px,n,mb⟩ ?_;refine Je ?_
   refine Ys fun o=>?_
   exact ⟨rfl,o.sub⟩
  ·refine Yf (by simp [h4]) ?_
   have e:G9 caps.length rc=some (rc.index.toNat-3,0,40):=by unfold G9;rw [if_neg hi,if_neg h1,if_neg h2,if_pos h3,if_neg h4]
   have e1:IntKind.wrap .i64 (IntKind.wrap .i64 (rc.index-4)+1)=((rc.index.toNat-3:Nat):Int):=by rw [A6,A6];omega
   rw [e,e1]
   (refine Ja ?_;unhygienic intros)
   refine Yt (by simpa using h3) ?_
   (refine Ja ?_;unhygienic intros)
   rw [Int.toNat_natCast]
   refine Je ?_
   refine Tr.xIntS (v:=caps.getD (rc.index.toNat-3) 0) (hg _ (by omega)) ?_
   (refine Ja ?_;unhygienic intros)
   refine B1 (U4 c k env caps bad) ⟨some px,n,mb⟩ ?_;refine Je ?_
   refine Ys fun o=>?_
   exact ⟨rfl,o.sub⟩
 refine Yf (by simp [h3]) ?_
 (refine Ja ?_;unhygienic intros)
 refine Yf (by simpa using h3) ?_
 (refine Ja ?_;unhygienic intros)
 by_cases h4:rc.kind=4
 ·refine Yt (by simpa using h4) ?_
  have e:G9 caps.length rc=some (0,448,40):=by unfold G9;rw [if_neg hi,if_neg h1,if_neg h2,if_neg h3,if_pos h4]
  rw [e]
  (refine Ja ?_;unhygienic intros)
  refine B1 (U4 c k env caps bad) ⟨some px,n,mb⟩ ?_;refine Je ?_
  refine Ys fun o=>?_
  exact ⟨rfl,o.sub⟩
 refine Yf (by simpa using h4) ?_
 have e:G9 caps.length rc=some (0,488,4):=by unfold G9;rw [if_neg hi,if_neg h1,if_neg h2,if_neg h3,if_neg h4]
 rw [e]
 (refine Ja ?_;unhygienic intros)
 refine B1 (U4 c k env caps bad) ⟨some px,n,mb⟩ ?_;refine Je ?_
 refine Ys fun o=>?_
 exact ⟨rfl,o.sub⟩
theorem Hx1:Ah9 PR 8 D3=some [TypeDesc.int .i64,TypeDesc.int .i64]:=by kernel_rfl
theorem Id5:Ea0 PR D3=some true:=by kernel_rfl
instance {a b:Int}:KeyC PR D3 (.agg ⟨[.int .i64 a,.int .i64 b]⟩):=⟨fun x=>by
 unfold NN.keyN;rw [Hx1,Id5];rfl⟩
theorem Ej6 (r:RecS):∀ (l:List RecS) (i j:Nat),Af6 (.agg ⟨W2 r⟩) (Ae8 j l) i=some (if r ∈ l then some (i+l.idxOf r) else none)
 | [],i,j=>by simp [Ae8,Af6]
 | q::l,i,j=>by
  have ih:=Ej6 r l (i+1) (j+1)
  obtain ⟨qk,qi⟩:=q
  obtain ⟨rk,ri⟩:=r
  simp only [Ae8,Af6,Bc2,W2,eqs,eq1,decide_true,List.mem_cons] at ih ⊢
  by_cases h:rk=qk∧ri=qi
  ·obtain ⟨rfl,rfl⟩:=h
   simp
  ·have e:(rk==qk && (ri==qi && true))=false:=by
    rw [Bool.and_eq_false_iff]
    by_cases h1:rk=qk
    ·right;simp;intro h2;exact h ⟨h1,h2⟩
    ·left;simpa using h1
   have hne:¬ (({ kind:=rk,index:=ri }:RecS)={ kind:=qk,index:=qi }):=fun e=>by
    rw [RecS.mk.injEq] at e;exact h e
   rw [e]
   simp only [hne,false_or]
   rw [ih,List.idxOf_cons]
   have:(({ kind:=qk,index:=qi }:RecS)=={ kind:=rk,index:=ri })=false:=by
    rw [beq_eq_false_iff_ne];exact fun e=>hne e.symm
   rw [this,cond_false]
   split<;>simp;omega
theorem Dl4:∀ (l:List RecS) (j:Nat),(Ae8 j l).length=l.length
 | [],_=>rfl
 | _::l,j=>by simp [Ae8,Dl4 l]
theorem G05:∀ (l:List RecS) (j i:Nat) (r:RecS),l[i]?=some r→(Ae8 j l)[i]?=some { key:=.agg ⟨W2 r⟩,val:=int 1,born:=j+i }
 | [],_,i,r,h=>by simp at h
 | q::l,j,0,r,h=>by simp at h;subst h;rfl
 | q::l,j,i+1,r,h=>by
  have:=G05 l (j+1) i r (by simpa using h)
  rw [Ae8,List.getElem?_cons_succ,this];congr 2;omega
theorem Bu1 (r:RecS) (l:List RecS):Aj8 (int 0) (.agg ⟨W2 r⟩) (Ae8 0 l)=some (if r ∈ l then (int 1,true) else (int 0,false)):=by
 unfold Aj8
 rw [Ej6]
 by_cases h:r ∈ l
 ·rw [if_pos h,if_pos h]
  have hi:=List.idxOf_lt_length_of_mem h
  have hg:l[l.idxOf r]?=some r:=by rw [List.getElem?_eq_getElem hi,List.getElem_idxOf]
  simp only [Nat.zero_add]
  rw [G05 l 0 _ r hg]
 ·rw [if_neg h,if_neg h]
theorem Gx9:∀ (l m:List RecS) (j:Nat),Ae8 j (l++m)=Ae8 j l++Ae8 (j+l.length) m
 | [],m,j=>by simp [Ae8]
 | q::l,m,j=>by simp only [List.cons_append,Ae8,Gx9 l m (j+1),List.length_cons];congr 2;congr 1;omega
theorem Ea3 {r:RecS} {l:List RecS} (h:¬ r ∈ l):Dz7 (int 0) (.agg ⟨W2 r⟩) (Ae8 0 l) l.length=some (int 0,l.length,.map (Ae8 0 l++[{ key:=.agg ⟨W2 r⟩,val:=int 0,born:=l.length }]) (l.length+1)):=by
 unfold Dz7;rw [Ej6,if_neg h]
theorem Gl1 (r:RecS) (e:MapEntry):∀ (l:List RecS) (i j:Nat),¬ r ∈ l→Af6 (.agg ⟨W2 r⟩) (Ae8 j l++[e]) i=Af6 (.agg ⟨W2 r⟩) [e] (i+l.length)
 | [],i,j,h=>by simp [Ae8]
 | q::l,i,j,h=>by
  have ih:=Gl1 r e l (i+1) (j+1) (fun hm=>h (List.mem_cons_of_mem _ hm))
  have hq:Bc2 (.agg ⟨W2 r⟩) (.agg ⟨W2 q⟩)=some false:=by
   obtain ⟨qk,qi⟩:=q
   obtain ⟨rk,ri⟩:=r
   simp only [Bc2,W2,eqs,eq1,decide_true]
   congr 1
   rw [Bool.and_eq_false_iff]
   by_cases h1:rk=qk
   ·right;simp;intro h2;exact h (by subst h1 h2;exact List.mem_cons_self ..)
   ·left;simpa using h1
  show (match Bc2 (.agg ⟨W2 r⟩) (.agg ⟨W2 q⟩) with
   | some true=>some (some i)
   | some false=>Af6 (.agg ⟨W2 r⟩) (Ae8 (j+1) l++[e]) (i+1)
   | none=>none)=_
  rw [hq]
  simp only
  rw [ih];congr 1;simp;omega
theorem Du6 {r:RecS} {l:List RecS} (h:¬ r ∈ l):Aj8 (int 0) (.agg ⟨W2 r⟩) (Ae8 0 l++[{ key:=.agg ⟨W2 r⟩,val:=int 0,born:=l.length }])=some (int 0,true):=by
 unfold Aj8
 rw [Gl1 r _ l 0 0 h]
 obtain ⟨rk,ri⟩:=r
 simp only [Af6,Bc2,W2,eqs,eq1,decide_true,BEq.rfl,Bool.and_self,Nat.zero_add]
 rw [List.getElem?_append_right (by rw [Dl4];exact Nat.le_refl _),Dl4];simp
theorem Da6:∀ (l:List RecS) (j:Nat) (n:Nat) (e:MapEntry) (i:Nat),e.born=n→j+l.length≤n→Bi8 (n:Int) (Ae8 j l++[e]) i=some (i+l.length)
 | [],j,n,e,i,h,hl=>by simp [Ae8,Bi8,h]
 | q::l,j,n,e,i,h,hl=>by
  have ih:=Da6 l (j+1) n e (i+1) h (by simp at hl;omega)
  simp only [Ae8,List.cons_append,Bi8]
  have:(((j:Nat):Int)==(n:Int))=false:=by simp at hl ⊢;omega
  rw [this,cond_false,ih];congr 1;simp;omega
theorem Gk6 (f:MapEntry→MapEntry) (e:MapEntry):∀ (l:List MapEntry),modN f l.length (l++[e])=l++[f e]
 | []=>rfl
 | q::l=>by simp [modN,Gk6 f e l]
theorem D74 (r:RecS) (l:List RecS):modN (fun e=>{ e with val:=int (IntKind.wrap .i64 (0+1)) }) l.length (Ae8 0 l++[{ key:=.agg ⟨W2 r⟩,val:=int 0,born:=l.length }])=Ae8 0 (l++[r]):=by
 rw [show l.length=(Ae8 0 l).length from (Dl4 l 0).symm,Gk6,Gx9]
 simp [Ae8,Dl4];decide
theorem Fr.mem_at (F:Fr) (m:List (List UInt8)):(F.at m).mem=Az5 F.S.mem F.rg m:=rfl
theorem Fr.at_ok {F:Fr} (k:FrOk F) {m:List (List UInt8)} (f:Fit F.S.mem.length F.rg m):KOk F.N (F.at m):=by
 have:=k.ok
 exact ⟨this.envs,this.tabs,this.space,this.quota,by rw [Fr.mem_at,Do8 f];exact this.mem,this.regs,this.may,this.mayl,this.nsect,this.sects,this.now⟩
theorem H08 {F:Fr} (k:FrOk F) {r:RecS} {j a n:Nat} (h:G9 F.caps.length r=some (j,a,n)):∃ lo z,F.rg[j]?=some (lo,z)∧a+n≤z∧j<F.caps.length:=by
 obtain ⟨lo0,h0⟩:=k.own
 have hl:=k.len;have hn:=k.ne
 unfold G9 at h
 split at h;· cases h
 rename_i hi
 split at h
 ·rename_i h1
  have hm:W7 F.caps.length r.kind=8:=by unfold W7;rw [if_pos h1]
  cases h;exact ⟨lo0,492,h0,by omega,hn⟩
 rename_i h1
 split at h
 ·rename_i h2
  have hm:W7 F.caps.length r.kind=12:=by unfold W7;rw [if_neg h1,if_pos h2]
  cases h;exact ⟨lo0,492,h0,by omega,hn⟩
 rename_i h2
 split at h
 ·rename_i h3
  have hm:W7 F.caps.length r.kind=3+F.caps.length:=by unfold W7;rw [if_neg h1,if_neg h2,if_pos h3]
  split at h
  ·cases h;exact ⟨lo0,492,h0,by omega,hn⟩
  ·cases h
   have hlt:r.index.toNat-3<F.rg.length:=by omega
   have hg:=List.getElem?_eq_getElem hlt
   generalize hx:F.rg[r.index.toNat-3]=x at hg
   obtain ⟨lo,z⟩:=x
   have:=k.brs _ lo z (by omega) hg
   exact ⟨lo,z,hg,by omega,by omega⟩
 split at h<;>(cases h;exact ⟨lo0,492,h0,by omega,hn⟩)
def P2 (kind:Int):Nat:=if kind=1 then 24 else if kind=2 then 8 else if kind=3 then 40 else if kind=4 then 40 else 4
theorem De9 {nc:Nat} {r:RecS} {j a n:Nat} (h:G9 nc r=some (j,a,n)):n=P2 r.kind:=by
 unfold G9 at h;unfold P2
 split at h;· cases h
 split at h
 ·rename_i h1;cases h;rw [if_pos h1]
 rename_i h1
 rw [if_neg h1]
 split at h
 ·rename_i h2;cases h;rw [if_pos h2]
 rename_i h2
 rw [if_neg h2]
 split at h
 ·rename_i h3;rw [if_pos h3];split at h<;>(cases h;rfl)
 rename_i h3
 rw [if_neg h3]
 split at h
 ·rename_i h4;cases h;rw [if_pos h4]
 ·rename_i h4;cases h;rw [if_neg h4]
def rdX (X:CX) (r:RecS):Option (List UInt8) :=
 match G9 X.m.length r with
 | some (j,a,n)=>if r ∈ X.bad then none else some (slice (X.m.getD j []) a n)
 | none=>none
def wrX (X:CX) (r:RecS) (b:List UInt8) (ok:Bool):Bool × CX :=
 match G9 X.m.length r with
 | some (j,a,n)=>if ok=true∧¬ r ∈ X.bad then (true,{ X with m:=X.m.set j (J4 (X.m.getD j []) a b) }) else (false,X)
 | none=>(false,X)
theorem Fit.mlen {F:Fr} (k:FrOk F) {m:List (List UInt8)} (f:Fit F.S.mem.length F.rg m):m.length=F.caps.length:=by rw [f.len,k.len]
theorem D47 {F:Fr} (k:FrOk F) {m:List (List UInt8)} (f:Fit F.S.mem.length F.rg m) {r:RecS} {j a n:Nat} (h:G9 F.caps.length r=some (j,a,n)) :
  ∃ lo z cap,F.caps[j]?=some cap∧F.rg[j]?=some (lo,z)∧a+n≤z∧m[j]?=some (m.getD j [])∧(m.getD j []).length=z∧lo+z≤F.S.mem.length∧cap=F.caps.getD j 0:=by
 obtain ⟨lo,z,hr,ha,hj⟩:=H08 k h
 obtain ⟨h1,x,hx,hl⟩:=f.each j lo z hr
 have e:m.getD j []=x:=by rw [List.getD_eq_getElem?_getD,hx];rfl
 exact ⟨lo,z,F.caps.getD j 0,M9 0 hj,hr,ha,by rw [e];exact hx,by rw [e];exact hl,h1,rfl⟩
theorem Id4 {F:Fr} (k:FrOk F) {X:CX} (f:Fit F.S.mem.length F.rg X.m) {r:RecS} {l:List UInt8} (h:rdX X r=some l):l.length=P2 r.kind:=by
 unfold rdX at h
 rw [f.mlen k] at h
 cases hp:G9 F.caps.length r with
 | none=>rw [hp] at h;cases h
 | some p =>
  obtain ⟨j,a,n⟩:=p
  rw [hp] at h
  obtain ⟨lo,z,cap,_,_,ha,hx,hl,_⟩:=D47 k f hp
  simp only at h
  split at h
  ·cases h
  ·cases h;rw [Go2 (by omega),De9 hp]
theorem Ij9 {F:Fr} (k:FrOk F) {m:List (List UInt8)} (f:Fit F.S.mem.length F.rg m) {r:RecS} {j a n:Nat} (h:G9 F.caps.length r=some (j,a,n)) :
  W1 (F.at m) F.env ⟨1,F.caps.getD j 0,(a:Int),(n:Int),0,0,[]⟩=((0,0,slice (m.getD j []) a n),F.at m):=by
 obtain ⟨lo,z,cap,hc,hr,ha,hx,hl,hz,rfl⟩:=D47 k f h
 have hp:=k.pl j _ lo z hc hr a n 1 (.inl rfl) ha
 have lp:=Do8 f
 have hb:Dr9 (Az5 F.S.mem F.rg m) ((lo+a:Nat):Int) (n:Int)=some (slice (m.getD j []) a n):=by
  unfold Dr9
  rw [if_pos (by rw [lp];omega),Int.toNat_natCast,Int.toNat_natCast]
  rw [← Hi2 f k.dj hr hx ha];rfl
 have e:Am9 (F.at m).tabs (F.at m).regs (F.at m).mem F.env (F.caps.getD j 0) (a:Int) (n:Int)=(slice (m.getD j []) a n,0):=by
  unfold Am9
  rw [show O5 (F.at m).tabs (F.at m).regs F.env (F.caps.getD j 0) 1 (a:Int) (n:Int)=(((lo+a:Nat):Int),0) from hp]
  rw [if_neg (by simp),show Dr9 (F.at m).mem _ _=_ from hb]
 unfold W1
 rw [if_neg (show ¬ (F.env<0∨F.env≥((F.at m).envs.length:Int)) from k.env)]
 unfold kDo
 rw [if_pos rfl,e]
theorem Ie3 {F:Fr} (k:FrOk F) {m:List (List UInt8)} (f:Fit F.S.mem.length F.rg m) {r:RecS} {j a n:Nat} (h:G9 F.caps.length r=some (j,a,n)) {b:List UInt8} (hb:b.length=n) :
  W1 (F.at m) F.env ⟨2,F.caps.getD j 0,(a:Int),0,0,0,b⟩=((0,0,[]),F.at (m.set j (J4 (m.getD j []) a b))):=by
 obtain ⟨lo,z,cap,hc,hr,ha,hx,hl,hz,rfl⟩:=D47 k f h
 have hp:=k.pl j _ lo z hc hr a n 2 (.inr rfl) ha
 have lp:=Do8 f
 have hs:A97 (Az5 F.S.mem F.rg m) ((lo+a:Nat):Int) b=some (Az5 F.S.mem F.rg (m.set j (J4 (m.getD j []) a b))):=by
  unfold A97
  rw [if_pos (by rw [lp];omega),Int.toNat_natCast]
  rw [← G92 f k.dj hr hx (by omega)];rfl
 have e:Aj4 (F.at m).tabs (F.at m).regs (F.at m).mem F.env (F.caps.getD j 0) (a:Int) b=(0,Az5 F.S.mem F.rg (m.set j (J4 (m.getD j []) a b))):=by
  unfold Aj4
  rw [hb,show O5 (F.at m).tabs (F.at m).regs F.env (F.caps.getD j 0) 2 (a:Int) (n:Int)=(((lo+a:Nat):Int),0) from hp]
  rw [if_neg (by simp),show A97 (F.at m).mem _ _=_ from hs]
 unfold W1
 rw [if_neg (show ¬ (F.env<0∨F.env≥((F.at m).envs.length:Int)) from k.env)]
 unfold kDo
 rw [if_neg (show ¬ ((2:Int)=1) by decide),if_pos rfl,e];rfl
theorem H90 {F:Fr} (k:FrOk F) {X:CX} (f:Fit F.S.mem.length F.rg X.m) {r:RecS} {b:List UInt8} {ok:Bool} (hb:ok=true→b.length=P2 r.kind):Fit F.S.mem.length F.rg (wrX X r b ok).2.m:=by
 unfold wrX
 rw [f.mlen k]
 cases hp:G9 F.caps.length r with
 | none=>exact f
 | some p =>
  obtain ⟨j,a,n⟩:=p
  obtain ⟨lo,z,cap,hc,hr,ha,hx,hl,hz,_⟩:=D47 k f hp
  simp only
  split
  ·rename_i hk
   exact f.set hr (by rw [Ad4 (by rw [hb hk.1,← De9 hp];omega)];exact hl)
  ·exact f
instance {caps:List Int} {o:Option (Nat × Nat × Nat)}:LenC (G04 caps o) 3:=⟨by cases o<;>rfl⟩
theorem H02 (caps:List Int) (o:Option (Nat × Nat × Nat)):(G04 caps o).all Value.oneCell=true:=by cases o<;>rfl
instance {caps:List Int} {o:Option (Nat × Nat × Nat)} {cs:List Value} [k:LenC cs 3]:SetsC cs 0 (G04 caps o) (G04 caps o):=⟨Bv2 k.ok LenC.ok (H02 caps o)⟩
instance {rc:RecS}:PartC (W2 rc) 0 2 (W2 rc):=⟨rfl⟩
theorem He6 (r:RecS) (l:List RecS):(if r ∈ l then (int 1,true) else (int 0,false))=(int (if r ∈ l then 1 else 0),decide (r ∈ l)):=by split<;>simp [*]
theorem Hf3 (r:RecS) (l:List RecS):decide ((if r ∈ l then (1:Int) else 0)>0)=decide (r ∈ l):=by split<;>simp [*]
theorem D45 (k:Nat) (S:KS) (N:Nat) (ok:KOk N S) (hN:N+1<1000000000) (env:Int) (c:CallS) (ba:Option Addr) (bc:Nat) (ro:Bool) (h5:c.op≠5) :
  Ct A7 Q1 [P0 k,int env,.agg ⟨Bi3 c ba bc⟩] [D7 k S,slC ro A3 1 ba c.b.length bc (A0 c.b)] fun v own=>∃ x d,v=.agg ⟨[int (W1 S env c).1.1,int (W1 S env c).1.2.1,.slice x (W1 S env c).1.2.2.length d]⟩ ∧
    own [slC false A3 1 x (W1 S env c).1.2.2.length d (A0 (W1 S env c).1.2.2),D7 k (W1 S env c).2,slC ro A3 1 ba c.b.length bc (A0 c.b)]:=by
 intro h r o
 obtain ⟨pq,o1⟩:=Own.ex (f:=fun pq=>slX ro A3 1 ba c.b.length bc pq (A0 c.b)) (o.perm (.swap _ _ _))
 obtain ⟨v,h',e,x,d,rfl,o2⟩:=Hs8 k S N ok hN env c ba bc ro pq h5 h r (o1.perm (.swap _ _ _))
 refine ⟨_,h',e,x,d,rfl,?_⟩
 have o3:=o2.picks [2] rfl
 exact (Own.inex (f:=fun pq=>slX ro A3 1 ba c.b.length bc pq (A0 c.b)) pq o3).picks [1,1,0] rfl
theorem Ea1 (c k:Nat) (F:Fr) (X:CX) (rc:RecS) (ok:FrOk F):Ct A7 N1 [P0 c,.agg ⟨W2 rc⟩] [cmC c k F X] fun v own =>
  (∃ l a cp,rdX X rc=some l∧l.length=P2 rc.kind∧v=.tuple ⟨[.slice a l.length cp,.bool true]⟩∧own [slC false A3 1 a l.length cp (A0 l),cmC c k F X]) ∨
  (rdX X rc=none∧v=.tuple ⟨[.slice none 0 0,.bool false]⟩∧own [cmC c k F X]):=by
 refine Ct.of Dz2 rfl fun h r=>Tr.eq (Dy5 ..) ?_;refine Je ?_
 refine B4 (cmC c k F X) fun u=>?_;refine Je ?_
 refine O2 2 rfl fun f=>?_
 (refine Ja ?_;unhygienic intros)
 refine Yc (Em5 c k F.env F.caps X.bad rc ok.small ok.ne) ?_;rintro _ h ⟨rfl,o⟩<;>(refine Jg o ?_;unhygienic intros)
 have em:=f.mlen ok
 cases hp:G9 F.caps.length rc with
 | none =>
  (refine Jb ?_;unhygienic intros)
  refine Yb (Yt rfl ?_)
  refine Ys fun o=>(?_:Tr _ _ _ _) o;refine Je ?_
  (refine Ja ?_;unhygienic intros)
  refine B1 (cmC c k F X) () ?_;refine Je ?_
  refine Ys fun o=>?_
  exact .inr ⟨by unfold rdX;rw [em,hp],rfl,o.sub⟩
 | some p =>
  obtain ⟨j,a,n⟩:=p
  refine B4 (U4 c k F.env F.caps X.bad) fun ⟨ca,cn,mb⟩=>?_;refine Je ?_
  (refine Jb ?_;unhygienic intros)
  refine Tr.orG (c:=decide (rc ∈ X.bad)) (fun _=>?_) ?_
  ·(refine Ja ?_;unhygienic intros)
   rw [Bu1,He6]
   (refine Ja ?_;unhygienic intros)
   refine Ys fun o=>?_
   rw [Hf3];exact ⟨by first|rfl|trivial,by first|rfl|trivial⟩
  by_cases hb:rc ∈ X.bad
  ·rw [decide_eq_true hb]
   (refine Ja ?_;unhygienic intros)
   refine B1 (U4 c k F.env F.caps X.bad) ⟨ca,cn,mb⟩ ?_;refine Je ?_
   refine B1 (cmC c k F X) () ?_;refine Je ?_
   refine Ys fun o=>?_
   exact .inr ⟨by unfold rdX;rw [em,hp];exact if_pos hb,rfl,o.sub⟩
  ·rw [decide_eq_false hb]
   refine Yf rfl ?_
   (refine Ja ?_;unhygienic intros)
   refine B1 (U4 c k F.env F.caps X.bad) ⟨ca,cn,mb⟩ ?_;refine Je ?_
   have J:=Ib0 k (F.at X.m) F.N (F.at_ok ok f) ok.hN F.env 1 (F.caps.getD j 0) (a:Int) (n:Int) 0 0 (by decide)
   rw [Ij9 ok f hp] at J
   refine Yc (J) ?_;rintro _ h ⟨y,d,rfl,o⟩<;>(refine Jf o ?_;unhygienic intros)
   refine Yf rfl ?_
   (refine Ja ?_;unhygienic intros)
   refine B1 (cmC c k F X) () ?_;refine Je ?_
   refine Ys fun o=>?_
   have e:rdX X rc=some (slice (X.m.getD j []) a n):=by unfold rdX;rw [em,hp];exact if_neg hb
   exact .inl ⟨_,y,d,e,Id4 ok f e,rfl,o.sub⟩
theorem B91 (c k:Nat) (F:Fr) (X:CX) (rc:RecS) (ok:FrOk F) (bs:List UInt8) (g:Bool) (ba:Option Addr) (bc:Nat) (hb:g=true→bs.length=P2 rc.kind) :
  Ct A7 L9 [P0 c,.agg ⟨W2 rc⟩,.slice ba bs.length bc,.bool g] [cmC c k F X,slC false A3 1 ba bs.length bc (A0 bs)] fun v own =>
   v=.bool (wrX X rc bs g).1∧own [cmC c k F (wrX X rc bs g).2,slC false A3 1 ba bs.length bc (A0 bs)]:=by
 refine Ct.of Dq0 rfl fun h r=>Tr.eq (Dq1 ..) ?_;refine Je ?_
 refine B4 (cmC c k F X) fun u=>?_;refine Je ?_
 refine O2 2 rfl fun f=>?_
 (refine Ja ?_;unhygienic intros)
 refine Yc (Em5 c k F.env F.caps X.bad rc ok.small ok.ne) ?_;rintro _ h ⟨rfl,o⟩<;>(refine Jg o ?_;unhygienic intros)
 have em:=f.mlen ok
 cases hp:G9 F.caps.length rc with
 | none =>
  (refine Jb ?_;unhygienic intros)
  refine Yb (Yt rfl ?_)
  refine Ys fun o=>(?_:Tr _ _ _ _) o;refine Je ?_
  refine Yb (Yt rfl ?_)
  refine Ys fun o=>(?_:Tr _ _ _ _) o;refine Je ?_
  (refine Ja ?_;unhygienic intros)
  refine B1 (cmC c k F X) () ?_;refine Je ?_
  refine Ys fun o=>?_
  have e:wrX X rc bs g=(false,X):=by unfold wrX;rw [em,hp]
  rw [e]
  exact ⟨by first|rfl|trivial,o.sub⟩
 | some p =>
  obtain ⟨j,a,n⟩:=p
  refine B4 (U4 c k F.env F.caps X.bad) fun ⟨ca,cn,mb⟩=>?_;refine Je ?_
  (refine Jb ?_;unhygienic intros)
  refine Yb (Yf rfl ?_)
  refine Ys fun o=>(?_:Tr _ _ _ _) o;refine Je ?_
  (refine Jb ?_;unhygienic intros)
  refine Tr.orG (c:=decide (rc ∈ X.bad)) (fun _=>?_) ?_
  ·(refine Ja ?_;unhygienic intros)
   rw [Bu1,He6]
   (refine Ja ?_;unhygienic intros)
   refine Ys fun o=>?_
   rw [Hf3];exact ⟨by first|rfl|trivial,by first|rfl|trivial⟩
  by_cases hg:g=true∧¬ rc ∈ X.bad
  ·have e:wrX X rc bs g=(true,{ X with m:=X.m.set j (J4 (X.m.getD j []) a bs) }):=by unfold wrX;rw [em,hp];exact if_pos hg
   have f2:=H90 (r:=rc) (b:=bs) (ok:=g) ok f hb
   rw [e] at f2
   obtain ⟨rfl,hg2⟩:=hg
   rw [e,decide_eq_false hg2]
   refine Yf rfl ?_
   (refine Ja ?_;unhygienic intros)
   refine B1 (U4 c k F.env F.caps X.bad) ⟨ca,cn,mb⟩ ?_;refine Je ?_
   have hl:bs.length=n:=by rw [hb rfl,De9 hp]
   have J:=D45 k (F.at X.m) F.N (F.at_ok ok f) ok.hN F.env ⟨2,F.caps.getD j 0,(a:Int),0,0,0,bs⟩ ba bc false (show ((2:Int)≠5) by decide)
   rw [Ie3 ok f hp hl] at J
   refine Yc (J) ?_;rintro _ h ⟨y,d,rfl,o⟩<;>(refine Jf o ?_;unhygienic intros)
   refine Ao4 (show Fit F.S.mem.length F.rg (X.m.set j (J4 (X.m.getD j []) a bs)) from f2) ?_
   refine B1 (cmC c k F { X with m:=X.m.set j (J4 (X.m.getD j []) a bs) }) () ?_;refine Je ?_
   refine Ys fun o=>?_
   exact ⟨rfl,o.sub⟩
  ·have e:wrX X rc bs g=(false,X):=by unfold wrX;rw [em,hp];exact if_neg hg
   rw [e]
   refine Yt ?_ ?_
   ·cases g with
    | false=>rfl
    | true=>simpa using hg
   refine B1 (U4 c k F.env F.caps X.bad) ⟨ca,cn,mb⟩ ?_;refine Je ?_
   refine B1 (cmC c k F X) () ?_;refine Je ?_
   refine Ys fun o=>?_
   exact ⟨by first|rfl|trivial,o.sub⟩
def V3 {α:Type} (dec:List UInt8→α × Int) (z:α) (X:CX) (rc:RecS):(α × Int) × CX :=
 match rdX X rc with
 | some l=>(dec l,if (dec l).2=2 then { X with bad:=X.bad++[rc] } else X)
 | none=>((z,2),X)
theorem D67 {X:CX} {rc:RecS} {l:List UInt8} (h:rdX X rc=some l):¬ rc ∈ X.bad:=by
 unfold rdX at h
 split at h
 ·split at h
  ·cases h
  ·assumption
 ·cases h
theorem Hq9 (l:List UInt8) (h:(Q9 l).2≠1):(Q9 l).1=.zero:=by
 unfold Q9 at *;split<;>first|rfl|(split<;>first|rfl|(simp_all;done))
theorem Hs1 (l:List UInt8) (h:(U9 l).2≠1):(U9 l).1=.zero:=by
 unfold U9 at *;split<;>first|rfl|(split<;>first|rfl|(simp_all;done))
theorem Hu3 (l:List UInt8) (h:(Q8 l).2≠1):(Q8 l).1=.zero:=by
 unfold Q8 at *;split<;>first|rfl|(split<;>first|rfl|(simp_all;done))
theorem Id8 (c k:Nat) (F:Fr) (X:CX) (rc:RecS) (ok:FrOk F) (hk:P2 rc.kind=24):Ct A7 I8 [P0 c,.agg ⟨W2 rc⟩,.func (.func Aq1) ⟨[]⟩ ⟨[]⟩] [cmC c k F X] fun v own =>
  v=.tuple ⟨[.agg ⟨B8 (V3 Q9 .zero X rc).1.1⟩,int (V3 Q9 .zero X rc).1.2]⟩∧own [cmC c k F (V3 Q9 .zero X rc).2]:=by
 refine Ct.of Am2 rfl fun h r=>Tr.eq (Dh7 ..) ?_;refine Je ?_
 (refine Ja ?_;unhygienic intros)
 refine Yc (Ea1 c k F X rc ok) ?_
 rintro v h (⟨l,a,cp,hr,hl,rfl,o⟩|⟨hr,rfl,o⟩)
 ·refine (?_:Tr _ _ _ _) o
  refine Je ?_
  have e:V3 Q9 .zero X rc=(Q9 l,if (Q9 l).2=2 then { X with bad:=X.bad++[rc] } else X):=by unfold V3;rw [hr]
  have hb:=D67 hr
  rw [e]
  rw [hk] at hl
  rw [hl]
  (refine Ja ?_;unhygienic intros)
  refine Yc (Hm5 a cp l hl) ?_;rintro _ h ⟨rfl,o⟩<;>(refine Jf o ?_;unhygienic intros)
  by_cases h2:(Q9 l).2=2
  ·refine Yt (by simpa using h2) ?_
   have hz:=Hq9 l (by omega)
   simp only [if_pos h2]
   refine B4 (cmC c k F X) fun u=>?_;refine Je ?_
   refine B4 (U4 c k F.env F.caps X.bad) fun ⟨ca,cn,mb⟩=>?_;refine Je ?_
   (refine Ja ?_;unhygienic intros)
   rw [Bu1,if_neg hb]
   (refine Ja ?_;unhygienic intros)
   rw [Ea3 hb]
   (refine Ja ?_;unhygienic intros)
   rw [Du6 hb]
   (refine Ja ?_;unhygienic intros)
   rw [Da6 X.bad 0 X.bad.length _ 0 rfl (by omega),Nat.zero_add]
   (refine Ja ?_;unhygienic intros)
   rw [D74]
   refine Tr.jmp Am2 (Tr.eq (A27 ..) ?_);(try simp only[Nr,Nl,wl,Nat.reduceAdd,Nat.reduceMul,Int.reduceToNat])
   refine Yt (by rw [bne_iff_ne];omega) ?_
   (refine Ja ?_;unhygienic intros)
   rw [show X.bad.length+1=(X.bad++[rc]).length by simp]
   refine B1 (U4 c k F.env F.caps (X.bad++[rc])) ⟨ca,cn,mb⟩ ?_;refine Je ?_
   refine B1 (cmC c k F { X with bad:=X.bad++[rc] }) () ?_;refine Je ?_
   refine Ys fun o=>?_
   exact ⟨by rw [hz]<;>rfl,o.sub⟩
  ·refine Yf (by simpa using h2) ?_
   simp only [if_neg h2]
   refine Tr.jmp Am2 (Tr.eq (A27 ..) ?_);(try simp only[Nr,Nl,wl,Nat.reduceAdd,Nat.reduceMul,Int.reduceToNat])
   by_cases h1:(Q9 l).2=1
   ·refine Yf (by simpa using h1) ?_
    (refine Ja ?_;unhygienic intros)
    refine Ys fun o=>?_
    exact ⟨rfl,o.sub⟩
   ·refine Yt (by simpa using h1) ?_
    (refine Ja ?_;unhygienic intros)
    refine Ys fun o=>?_
    exact ⟨by rw [Hq9 l h1]<;>rfl,o.sub⟩
 ·refine (?_:Tr _ _ _ _) o
  refine Je ?_
  have e:V3 Q9 .zero X rc=((.zero,2),X):=by unfold V3;rw [hr]
  rw [e]
  (refine Ja ?_;unhygienic intros)
  refine Ys fun o=>?_
  exact ⟨rfl,o.sub⟩
theorem Ia0 (c k:Nat) (F:Fr) (X:CX) (rc:RecS) (ok:FrOk F) (hk:P2 rc.kind=8):Ct A7 I6 [P0 c,.agg ⟨W2 rc⟩,.func (.func Aq8) ⟨[]⟩ ⟨[]⟩] [cmC c k F X] fun v own =>
  v=.tuple ⟨[.agg ⟨Bo6 (V3 U9 .zero X rc).1.1⟩,int (V3 U9 .zero X rc).1.2]⟩∧own [cmC c k F (V3 U9 .zero X rc).2]:=by
 refine Ct.of An8 rfl fun h r=>Tr.eq (Dg4 ..) ?_;refine Je ?_
 (refine Ja ?_;unhygienic intros)
 refine Yc (Ea1 c k F X rc ok) ?_
 rintro v h (⟨l,a,cp,hr,hl,rfl,o⟩|⟨hr,rfl,o⟩)
 ·refine (?_:Tr _ _ _ _) o
  refine Je ?_
  have e:V3 U9 .zero X rc=(U9 l,if (U9 l).2=2 then { X with bad:=X.bad++[rc] } else X):=by unfold V3;rw [hr]
  have hb:=D67 hr
  rw [e]
  rw [hk] at hl
  rw [hl]
  (refine Ja ?_;unhygienic intros)
  refine Yc (Hn8 a cp l hl) ?_;rintro _ h ⟨rfl,o⟩<;>(refine Jf o ?_;unhygienic intros)
  by_cases h2:(U9 l).2=2
  ·refine Yt (by simpa using h2) ?_
   have hz:=Hs1 l (by omega)
   simp only [if_pos h2]
   refine B4 (cmC c k F X) fun u=>?_;refine Je ?_
   refine B4 (U4 c k F.env F.caps X.bad) fun ⟨ca,cn,mb⟩=>?_;refine Je ?_
   (refine Ja ?_;unhygienic intros)
   rw [Bu1,if_neg hb]
   (refine Ja ?_;unhygienic intros)
   rw [Ea3 hb]
   (refine Ja ?_;unhygienic intros)
   rw [Du6 hb]
   (refine Ja ?_;unhygienic intros)
   rw [Da6 X.bad 0 X.bad.length _ 0 rfl (by omega),Nat.zero_add]
   (refine Ja ?_;unhygienic intros)
   rw [D74]
   refine Tr.jmp An8 (Tr.eq (A33 ..) ?_);(try simp only[Nr,Nl,wl,Nat.reduceAdd,Nat.reduceMul,Int.reduceToNat])
   refine Yt (by rw [bne_iff_ne];omega) ?_
   (refine Ja ?_;unhygienic intros)
   rw [show X.bad.length+1=(X.bad++[rc]).length by simp]
   refine B1 (U4 c k F.env F.caps (X.bad++[rc])) ⟨ca,cn,mb⟩ ?_;refine Je ?_
   refine B1 (cmC c k F { X with bad:=X.bad++[rc] }) () ?_;refine Je ?_
   refine Ys fun o=>?_
   exact ⟨by rw [hz]<;>rfl,o.sub⟩
  ·refine Yf (by simpa using h2) ?_
   simp only [if_neg h2]
   refine Tr.jmp An8 (Tr.eq (A33 ..) ?_);(try simp only[Nr,Nl,wl,Nat.reduceAdd,Nat.reduceMul,Int.reduceToNat])
   by_cases h1:(U9 l).2=1
   ·refine Yf (by simpa using h1) ?_
    (refine Ja ?_;unhygienic intros)
    refine Ys fun o=>?_
    exact ⟨rfl,o.sub⟩
   ·refine Yt (by simpa using h1) ?_
    (refine Ja ?_;unhygienic intros)
    refine Ys fun o=>?_
    exact ⟨by rw [Hs1 l h1]<;>rfl,o.sub⟩
 ·refine (?_:Tr _ _ _ _) o
  refine Je ?_
  have e:V3 U9 .zero X rc=((.zero,2),X):=by unfold V3;rw [hr]
  rw [e]
  (refine Ja ?_;unhygienic intros)
  refine Ys fun o=>?_
  exact ⟨rfl,o.sub⟩
theorem He9 (c k:Nat) (F:Fr) (X:CX) (rc:RecS) (ok:FrOk F) (hk:P2 rc.kind=40):Ct A7 H5 [P0 c,.agg ⟨W2 rc⟩,.func (.func Ak5) ⟨[]⟩ ⟨[]⟩] [cmC c k F X] fun v own =>
  v=.tuple ⟨[.agg ⟨P3 (V3 Q8 .zero X rc).1.1⟩,int (V3 Q8 .zero X rc).1.2]⟩∧own [cmC c k F (V3 Q8 .zero X rc).2]:=by
 refine Ct.of An0 rfl fun h r=>Tr.eq (Dg7 ..) ?_;refine Je ?_
 (refine Ja ?_;unhygienic intros)
 refine Yc (Ea1 c k F X rc ok) ?_
 rintro v h (⟨l,a,cp,hr,hl,rfl,o⟩|⟨hr,rfl,o⟩)
 ·refine (?_:Tr _ _ _ _) o
  refine Je ?_
  have e:V3 Q8 .zero X rc=(Q8 l,if (Q8 l).2=2 then { X with bad:=X.bad++[rc] } else X):=by unfold V3;rw [hr]
  have hb:=D67 hr
  rw [e]
  rw [hk] at hl
  rw [hl]
  (refine Ja ?_;unhygienic intros)
  refine Yc (Hn4 a cp l hl) ?_;rintro _ h ⟨rfl,o⟩<;>(refine Jf o ?_;unhygienic intros)
  by_cases h2:(Q8 l).2=2
  ·refine Yt (by simpa using h2) ?_
   have hz:=Hu3 l (by omega)
   simp only [if_pos h2]
   refine B4 (cmC c k F X) fun u=>?_;refine Je ?_
   refine B4 (U4 c k F.env F.caps X.bad) fun ⟨ca,cn,mb⟩=>?_;refine Je ?_
   (refine Ja ?_;unhygienic intros)
   rw [Bu1,if_neg hb]
   (refine Ja ?_;unhygienic intros)
   rw [Ea3 hb]
   (refine Ja ?_;unhygienic intros)
   rw [Du6 hb]
   (refine Ja ?_;unhygienic intros)
   rw [Da6 X.bad 0 X.bad.length _ 0 rfl (by omega),Nat.zero_add]
   (refine Ja ?_;unhygienic intros)
   rw [D74]
   refine Tr.jmp An0 (Tr.eq (A17 ..) ?_);(try simp only[Nr,Nl,wl,Nat.reduceAdd,Nat.reduceMul,Int.reduceToNat])
   refine Yt (by rw [bne_iff_ne];omega) ?_
   (refine Ja ?_;unhygienic intros)
   rw [show X.bad.length+1=(X.bad++[rc]).length by simp]
   refine B1 (U4 c k F.env F.caps (X.bad++[rc])) ⟨ca,cn,mb⟩ ?_;refine Je ?_
   refine B1 (cmC c k F { X with bad:=X.bad++[rc] }) () ?_;refine Je ?_
   refine Ys fun o=>?_
   exact ⟨by rw [hz]<;>rfl,o.sub⟩
  ·refine Yf (by simpa using h2) ?_
   simp only [if_neg h2]
   refine Tr.jmp An0 (Tr.eq (A17 ..) ?_);(try simp only[Nr,Nl,wl,Nat.reduceAdd,Nat.reduceMul,Int.reduceToNat])
   by_cases h1:(Q8 l).2=1
   ·refine Yf (by simpa using h1) ?_
    (refine Ja ?_;unhygienic intros)
    refine Ys fun o=>?_
    exact ⟨rfl,o.sub⟩
   ·refine Yt (by simpa using h1) ?_
    (refine Ja ?_;unhygienic intros)
    refine Ys fun o=>?_
    exact ⟨by rw [Hu3 l h1]<;>rfl,o.sub⟩
 ·refine (?_:Tr _ _ _ _) o
  refine Je ?_
  have e:V3 Q8 .zero X rc=((.zero,2),X):=by unfold V3;rw [hr]
  rw [e]
  (refine Ja ?_;unhygienic intros)
  refine Ys fun o=>?_
  exact ⟨rfl,o.sub⟩
def Ga5 (g:Int):List UInt8:=[b8 g,211,Bs3 [b8 g,211],0]
def Ak6 (l:List UInt8):Int × Int:=if byI l 0<8∧Ga5 (byI l 0)=l then (byI l 0,1) else (0,2)
theorem Gq2 (g:Int):Ct A7 An7 [int g] [] fun v own =>
  (0≤g∧g<8∧∃ a c,v=.tuple ⟨[.slice a 4 c,.bool true]⟩∧own [slC false A3 1 a 4 c (A0 (Ga5 g))])∨(¬ (0≤g∧g<8)∧v=.tuple ⟨[.slice none 0 0,.bool false]⟩∧own []):=by
 refine Ct.of D97 rfl fun h r=>Tr.eq (D52 ..) ?_;refine Je ?_
 (refine Ja ?_;unhygienic intros)
 by_cases hg:0≤g∧g<8
 ·refine Yf (by simp;omega) ?_
  rw [Be5]
  refine Yn fun b h=>?_
  rw [show ([.int .u8 ((b8 g).toNat:Int),.int .u8 211]:List Value)=A0 [b8 g,211] from rfl]
  refine Ae0 0 rfl 1 2 rfl (by omega) ?_
  refine Je ?_
  refine Tr.pcall (Ga7 (slC false A3 1 (some ⟨b,0,none⟩) 2 2 (A0 [b8 g,211])) (some ⟨b,0,none⟩) false 2 2 2 [b8 g,211] 2 (by simp) (by simp [A9])) ?_
  (refine Ja ?_;unhygienic intros)
  rw [show List.take 2 [b8 g,211]=[b8 g,211] from rfl,Dm3]
  refine Tr.xApd ⟨rfl,rfl,by simp [A9]⟩ fun a' c' h'=>?_
  refine Je ?_
  refine Ys fun o=>?_
  exact .inl ⟨hg.1,hg.2,a',c',rfl,(show Own h' (_::slC false A3 1 a' 4 c' (A0 (Ga5 g))::_) from o).sub⟩
 ·refine Yt (by simp;omega) ?_
  refine Ys fun o=>?_
  exact .inr ⟨hg,rfl,o.sub⟩
theorem Ib3 (l:List UInt8):∀ (m i:Nat) (r:List UInt8),l.length-i=m→ByteArray.toList.loop ⟨⟨l⟩⟩ i r=r.reverse++l.drop i:=by
 intro m
 induction m with
 | zero =>
  intro i r hm
  unfold ByteArray.toList.loop
  rw [if_neg (show ¬ i<(ByteArray.mk ⟨l⟩).size by show ¬ i<l.length;omega),List.drop_eq_nil_of_le (by omega)];simp
 | succ m ih =>
  intro i r hm
  have hlt:i<l.length:=by omega
  unfold ByteArray.toList.loop
  rw [if_pos (show i<(ByteArray.mk ⟨l⟩).size from hlt),ih (i+1) _ (by omega),List.drop_eq_getElem_cons hlt]
  have:(ByteArray.mk ⟨l⟩).get! i=l[i]:=by
   show (Array.mk l)[i]! = l[i]
   simp [hlt]
  rw [this];simp
theorem Gn7 (l:List UInt8):(ByteArray.mk ⟨l⟩).toList=l:=by
 unfold ByteArray.toList
 rw [Ib3 l _ 0 [] rfl];simp
theorem He3 (pb:HP) (ro:Bool) (a:Option Addr) (c:Nat) (l:List UInt8) (hl:l.length=4) [ks:IsSl pb a ro A3 1 4 c (A0 l)]:Ct A7 Ad8 [.slice a 4 c] [pb] fun v own=>v=.tuple ⟨[int (Ak6 l).1,int (Ak6 l).2]⟩∧own [pb]:=by
 refine Ct.of Ev9 rfl fun h r=>Tr.eq (Eu1 ..) ?_;refine Je ?_
 refine Yf rfl ?_
 (refine Ja ?_;unhygienic intros;repeat(refine Gw ?_;rintro px rfl;refine Ja ?_;unhygienic intros))
 refine Tr.xIntS (v:=byI l 0) (Ab4 (by omega)) ?_
 simp only [byI,Al4]
 refine Yc (Gq2 (byI l 0)) ?_
 rintro v h (⟨h1,h2,a1,c1,rfl,o⟩|⟨hn,rfl,o⟩)
 ·refine (?_:Tr _ _ _ _) o
  refine Je ?_
  (refine Ja ?_;unhygienic intros)
  rw [Gn7,Gn7]
  by_cases he:Ga5 (byI l 0)=l
  ·have e:Ak6 l=(byI l 0,1):=by unfold Ak6;rw [if_pos ⟨h2,he⟩]
   refine Yf (by simp [he]) ?_
   (refine Ja ?_;unhygienic intros)
   refine Tr.xIntS (v:=byI l 0) (Ab4 (by omega)) ?_
   refine Ys fun o=>?_
   rw [e];exact ⟨by simp only [byI,Al4],o.sub⟩
  ·have e:Ak6 l=(0,2):=by unfold Ak6;rw [if_neg (fun hh=>he hh.2)]
   refine Yt (by simp [he]) ?_
   refine Ys fun o=>?_
   rw [e];exact ⟨rfl,o.sub⟩
 ·refine (?_:Tr _ _ _ _) o
  refine Je ?_
  (refine Jb ?_;unhygienic intros)
  refine Yb (Yt rfl ?_)
  refine Ys fun o=>(?_:Tr _ _ _ _) o;refine Je ?_
  (refine Ja ?_;unhygienic intros)
  refine Ys fun o=>?_
  exact ⟨by unfold Ak6;rw [if_neg (by simp only [byI] at *;omega)],o.sub⟩
theorem Hj1 (a:Option Addr) (c:Nat) (l:List UInt8) (hl:l.length=4):Ct A7 Ad8 [.slice a 4 c] [slC false A3 1 a 4 c (A0 l)] fun v own=>v=.tuple ⟨[int (Ak6 l).1,int (Ak6 l).2]⟩∧own [slC false A3 1 a 4 c (A0 l)]:=He3 (slC false A3 1 a 4 c (A0 l)) false a c l hl
theorem Ht2 (l:List UInt8) (h:(Ak6 l).2≠1):(Ak6 l).1=0:=by
 unfold Ak6 at *;split<;>simp_all
theorem Ie0 (c k:Nat) (F:Fr) (X:CX) (rc:RecS) (ok:FrOk F) (hk:P2 rc.kind=4):Ct A7 P5 [P0 c,.agg ⟨W2 rc⟩,.func (.func Ad8) ⟨[]⟩ ⟨[]⟩] [cmC c k F X] fun v own =>
  v=.tuple ⟨[int (V3 Ak6 0 X rc).1.1,int (V3 Ak6 0 X rc).1.2]⟩∧own [cmC c k F (V3 Ak6 0 X rc).2]:=by
 refine Ct.of A54 rfl fun h r=>Tr.eq (D49 ..) ?_;refine Je ?_
 (refine Ja ?_;unhygienic intros)
 refine Yc (Ea1 c k F X rc ok) ?_
 rintro v h (⟨l,a,cp,hr,hl,rfl,o⟩|⟨hr,rfl,o⟩)
 ·refine (?_:Tr _ _ _ _) o
  refine Je ?_
  have e:V3 Ak6 0 X rc=(Ak6 l,if (Ak6 l).2=2 then { X with bad:=X.bad++[rc] } else X):=by unfold V3;rw [hr]
  have hb:=D67 hr
  rw [e]
  rw [hk] at hl
  rw [hl]
  (refine Ja ?_;unhygienic intros)
  refine Yc (Hj1 a cp l hl) ?_;rintro _ h ⟨rfl,o⟩<;>(refine Jf o ?_;unhygienic intros)
  by_cases h2:(Ak6 l).2=2
  ·refine Yt (by simpa using h2) ?_
   have hz:=Ht2 l (by omega)
   simp only [if_pos h2]
   refine B4 (cmC c k F X) fun u=>?_;refine Je ?_
   refine B4 (U4 c k F.env F.caps X.bad) fun ⟨ca,cn,mb⟩=>?_;refine Je ?_
   (refine Ja ?_;unhygienic intros)
   rw [Bu1,if_neg hb]
   (refine Ja ?_;unhygienic intros)
   rw [Ea3 hb]
   (refine Ja ?_;unhygienic intros)
   rw [Du6 hb]
   (refine Ja ?_;unhygienic intros)
   rw [Da6 X.bad 0 X.bad.length _ 0 rfl (by omega),Nat.zero_add]
   (refine Ja ?_;unhygienic intros)
   rw [D74]
   refine Tr.jmp A54 (Tr.eq (Bj8 ..) ?_);(try simp only[Nr,Nl,wl,Nat.reduceAdd,Nat.reduceMul,Int.reduceToNat])
   refine Yt (by rw [bne_iff_ne];omega) ?_
   rw [show X.bad.length+1=(X.bad++[rc]).length by simp]
   refine B1 (U4 c k F.env F.caps (X.bad++[rc])) ⟨ca,cn,mb⟩ ?_;refine Je ?_
   refine B1 (cmC c k F { X with bad:=X.bad++[rc] }) () ?_;refine Je ?_
   refine Ys fun o=>?_
   exact ⟨by rw [hz],o.sub⟩
  ·refine Yf (by simpa using h2) ?_
   simp only [if_neg h2]
   refine Tr.jmp A54 (Tr.eq (Bj8 ..) ?_);(try simp only[Nr,Nl,wl,Nat.reduceAdd,Nat.reduceMul,Int.reduceToNat])
   by_cases h1:(Ak6 l).2=1
   ·refine Yf (by simpa using h1) ?_
    refine Ys fun o=>?_
    exact ⟨rfl,o.sub⟩
   ·refine Yt (by simpa using h1) ?_
    refine Ys fun o=>?_
    exact ⟨by rw [Ht2 l h1],o.sub⟩
 ·refine (?_:Tr _ _ _ _) o
  refine Je ?_
  have e:V3 Ak6 0 X rc=((0,2),X):=by unfold V3;rw [hr]
  rw [e]
  (refine Ja ?_;unhygienic intros)
  refine Ys fun o=>?_
  exact ⟨rfl,o.sub⟩
abbrev Eb6 (X:CX) (i:Int):(ProcS × Int) × CX:=V3 Q9 .zero X ⟨1,i⟩
abbrev D76 (X:CX) (i:Int):(FileS × Int) × CX:=V3 U9 .zero X ⟨2,i⟩
abbrev D96 (X:CX) (i:Int):(PipeS × Int) × CX:=V3 Q8 .zero X ⟨3,i⟩
abbrev Er1 (X:CX):(PipeS × Int) × CX:=V3 Q8 .zero X ⟨4,0⟩
abbrev Ep0 (X:CX):(Int × Int) × CX:=V3 Ak6 0 X ⟨5,0⟩
abbrev Bs0 (X:CX) (i:Int) (p:ProcS):Bool × CX:=wrX X ⟨1,i⟩ (At8 p) (okS p)
abbrev Bg1 (X:CX) (i:Int) (p:FileS):Bool × CX:=wrX X ⟨2,i⟩ (Ag7 p) (okF p)
abbrev E38 (X:CX) (i:Int) (p:PipeS):Bool × CX:=wrX X ⟨3,i⟩ (I5 p) (okP p)
abbrev Df8 (X:CX) (rc:RecS):Bool × CX:=wrX X rc (List.replicate (P2 rc.kind) 0) true
theorem Eo5 (X:CX) (rc:RecS) (b:List UInt8):wrX X rc b false=(false,X):=by
 unfold wrX;split<;>simp
theorem Hv0 (c k:Nat) (F:Fr) (X:CX) (rc:RecS) (ok:FrOk F):Ct A7 Ag0 [P0 c,.agg ⟨W2 rc⟩] [cmC c k F X] fun v own =>
  v=.bool (Df8 X rc).1∧own [cmC c k F (Df8 X rc).2]:=by
 refine Ct.of Dq3 rfl fun h r=>Tr.eq (Dq7 ..) ?_;refine Je ?_
 refine B4 (cmC c k F X) fun u=>?_;refine Je ?_
 refine O2 2 rfl fun f=>?_
 (repeat' first|refine Gu ?_|(with_reducible first|refine Gn fun b h=>?_|apply Gx|apply Gy|rintro px rfl|apply Gw|refine fun(h:H)=>?_|intro hb)|refine Gs ?_|refine Gt ?_|exact Gz rfl|fail)
 refine Yc (Em5 c k F.env F.caps X.bad rc ok.small ok.ne) ?_;rintro _ h ⟨rfl,o⟩<;>(refine (?_:Tr _ _ _ _) o;refine Je ?_;(repeat' first|refine Gu ?_|(with_reducible first|refine Gn fun b h=>?_|apply Gx|apply Gy|rintro px rfl|apply Gw|refine fun(h:H)=>?_|intro hb)|refine Gs ?_|refine Gt ?_|exact Gz rfl|fail))
 have em:=f.mlen ok
 cases hp:G9 F.caps.length rc with
 | none =>
  (repeat' first|refine Gu ?_|(with_reducible first|refine Gn fun b h=>?_|apply Gx|apply Gy|rintro px rfl|apply Gw|refine fun(h:H)=>?_|intro hb)|refine Gs ?_|refine Gt ?_|exact Gz rfl|fail)
  rw [show G8 (Int.toNat 0) [.int .u8 0]=A0 [] from rfl]
  refine Ae0 0 rfl 1 0 rfl (by omega) ?_
  refine Je ?_
  refine B1 (cmC c k F X) () ?_;refine Je ?_
  refine Yc (B91 c k F X rc ok [] false (some ⟨b,0,none⟩) 0 (by simp)) ?_;rintro _ h ⟨rfl,o⟩<;>(refine (?_:Tr _ _ _ _) o;refine Je ?_;(repeat' first|refine Gu ?_|(with_reducible first|refine Gn fun b h=>?_|apply Gx|apply Gy|rintro px rfl|apply Gw|refine fun(h:H)=>?_|intro hb)|refine Gs ?_|refine Gt ?_|exact Gz rfl|fail))
  refine Ys fun o=>?_
  have e:Df8 X rc=(false,X):=by unfold Df8 wrX;rw [em,hp]
  rw [Eo5] at o
  rw [e,Eo5]
  exact ⟨by first|rfl|trivial,o.sub⟩
 | some p =>
  obtain ⟨j,a,n⟩:=p
  have hn:=De9 hp
  subst hn
  have h40:P2 rc.kind≤40:=by unfold P2;(repeat' split)<;>omega
  (repeat' first|refine Gu ?_|(with_reducible first|refine Gn fun b h=>?_|apply Gx|apply Gy|rintro px rfl|apply Gw|refine fun(h:H)=>?_|intro hb)|refine Gs ?_|refine Gt ?_|exact Gz rfl|fail)
  refine Tr.ck ⟨by omega,by omega,by simp only [A9];omega⟩ ?_
  refine Yn fun b1 h=>?_
  rw [Int.toNat_natCast,show G8 (P2 rc.kind) [.int .u8 0]=A0 (List.replicate (P2 rc.kind) 0) by simp [G8,A0]]
  refine Ae0 0 rfl 1 (P2 rc.kind) (by simp [A0]) (by omega) ?_
  refine Je ?_
  refine B1 (cmC c k F X) () ?_;refine Je ?_
  have J:=B91 c k F X rc ok (List.replicate (P2 rc.kind) 0) true (some ⟨b1,0,none⟩) (P2 rc.kind) (by simp)
  rw [List.length_replicate] at J
  refine Yc (J) ?_;rintro _ h ⟨rfl,o⟩<;>(refine (?_:Tr _ _ _ _) o;refine Je ?_;(repeat' first|refine Gu ?_|(with_reducible first|refine Gn fun b h=>?_|apply Gx|apply Gy|rintro px rfl|apply Gw|refine fun(h:H)=>?_|intro hb)|refine Gs ?_|refine Gt ?_|exact Gz rfl|fail))
  refine Ys fun o=>?_
  exact ⟨rfl,o.sub⟩
theorem E73 (c k:Nat) (F:Fr) (X:CX) (rc:RecS) (ok:FrOk F):Ct A7 L9 [P0 c,.agg ⟨W2 rc⟩,.slice none 0 0,.bool false] [cmC c k F X] fun v own=>v=.bool false∧own [cmC c k F X]:=by
 intro h r o
 have o1:Own h (slC false A3 1 none 0 0 (A0 [])::cmC c k F X::r):=o.slNil false A3 (by omega)
 obtain ⟨v,h',e,rfl,o2⟩:=B91 c k F X rc ok [] false none 0 (by simp) h r (o1.perm (.swap _ _ _))
 rw [Eo5] at e o2
 exact ⟨_,h',e,rfl,o2.sub⟩
theorem D48 (i:Int):Ct A7 Aq3 [int i] [] fun v own=>v=.agg ⟨W2 ⟨1,i⟩⟩∧own []:=by
 refine Ct.of Gi6 rfl fun h r=>Tr.eq (Gi5 ..) ?_;refine Je ?_
 (refine Ja ?_;unhygienic intros)
 refine Ys fun o=>?_
 exact ⟨rfl,o.sub⟩
theorem E52 (i:Int):Ct A7 A37 [int i] [] fun v own=>v=.agg ⟨W2 ⟨2,i⟩⟩∧own []:=by
 refine Ct.of Ge0 rfl fun h r=>Tr.eq (Gg3 ..) ?_;refine Je ?_
 (refine Ja ?_;unhygienic intros)
 refine Ys fun o=>?_
 exact ⟨rfl,o.sub⟩
theorem H58 (i:Int):Ct A7 Bh4 [int i] [] fun v own=>v=.agg ⟨W2 ⟨3,i⟩⟩∧own []:=by
 refine Ct.of Ge4 rfl fun h r=>Tr.eq (Ge6 ..) ?_;refine Je ?_
 (refine Ja ?_;unhygienic intros)
 refine Ys fun o=>?_
 exact ⟨rfl,o.sub⟩
theorem Br0 (c k:Nat) (F:Fr) (X:CX) (ok:FrOk F) (i:Int):Ct A7 G5 [P0 c,int i] [cmC c k F X] fun v own=>v=.tuple ⟨[.agg ⟨B8 (Eb6 X i).1.1⟩,int (Eb6 X i).1.2]⟩∧own [cmC c k F (Eb6 X i).2]:=by
 refine Ct.of Dx5 rfl fun h r=>Tr.eq (Dv4 ..) ?_;refine Je ?_
 (refine Ja ?_;unhygienic intros)
 refine Yc (D48 i) ?_;rintro _ h ⟨rfl,o⟩<;>(refine Jf o ?_;unhygienic intros)
 refine Yc (Id8 c k F X ⟨1,i⟩ ok rfl) ?_;rintro _ h ⟨rfl,o⟩<;>(refine Jf o ?_;unhygienic intros)
 refine Ys fun o=>?_
 exact ⟨rfl,o.sub⟩
theorem Ez6 (c k:Nat) (F:Fr) (X:CX) (ok:FrOk F) (i:Int):Ct A7 Q2 [P0 c,int i] [cmC c k F X] fun v own=>v=.tuple ⟨[.agg ⟨Bo6 (D76 X i).1.1⟩,int (D76 X i).1.2]⟩∧own [cmC c k F (D76 X i).2]:=by
 refine Ct.of Dy0 rfl fun h r=>Tr.eq (Dx8 ..) ?_;refine Je ?_
 (refine Ja ?_;unhygienic intros)
 refine Yc (E52 i) ?_;rintro _ h ⟨rfl,o⟩<;>(refine Jf o ?_;unhygienic intros)
 refine Yc (Ia0 c k F X ⟨2,i⟩ ok rfl) ?_;rintro _ h ⟨rfl,o⟩<;>(refine Jf o ?_;unhygienic intros)
 refine Ys fun o=>?_
 exact ⟨rfl,o.sub⟩
theorem H61 (c k:Nat) (F:Fr) (X:CX) (ok:FrOk F) (i:Int):Ct A7 Ah6 [P0 c,int i] [cmC c k F X] fun v own=>v=.tuple ⟨[.agg ⟨P3 (D96 X i).1.1⟩,int (D96 X i).1.2]⟩∧own [cmC c k F (D96 X i).2]:=by
 refine Ct.of Dx1 rfl fun h r=>Tr.eq (Dw7 ..) ?_;refine Je ?_
 (refine Ja ?_;unhygienic intros)
 refine Yc (H58 i) ?_;rintro _ h ⟨rfl,o⟩<;>(refine Jf o ?_;unhygienic intros)
 refine Yc (He9 c k F X ⟨3,i⟩ ok rfl) ?_;rintro _ h ⟨rfl,o⟩<;>(refine Jf o ?_;unhygienic intros)
 refine Ys fun o=>?_
 exact ⟨rfl,o.sub⟩
theorem H70 (c k:Nat) (F:Fr) (X:CX) (ok:FrOk F):Ct A7 Ah8 [P0 c] [cmC c k F X] fun v own=>v=.tuple ⟨[.agg ⟨P3 (Er1 X).1.1⟩,int (Er1 X).1.2]⟩∧own [cmC c k F (Er1 X).2]:=by
 refine Ct.of Dw6 rfl fun h r=>Tr.eq (Dv9 ..) ?_;refine Je ?_
 (refine Ja ?_;unhygienic intros)
 refine Yc (He9 c k F X ⟨4,0⟩ ok rfl) ?_;rintro _ h ⟨rfl,o⟩<;>(refine Jf o ?_;unhygienic intros)
 refine Ys fun o=>?_
 exact ⟨rfl,o.sub⟩
theorem Hs4 (c k:Nat) (F:Fr) (X:CX) (ok:FrOk F):Ct A7 Af9 [P0 c] [cmC c k F X] fun v own=>v=.tuple ⟨[int (Ep0 X).1.1,.bool ((Ep0 X).1.2==1)]⟩∧own [cmC c k F (Ep0 X).2]:=by
 refine Ct.of Dq6 rfl fun h r=>Tr.eq (Dq4 ..) ?_;refine Je ?_
 (refine Ja ?_;unhygienic intros)
 refine Yc (Ie0 c k F X ⟨5,0⟩ ok rfl) ?_;rintro _ h ⟨rfl,o⟩<;>(refine Jf o ?_;unhygienic intros)
 refine Ys fun o=>?_
 exact ⟨rfl,o.sub⟩
theorem Dj9 (f:FileS):(Ag7 f).length=8:=rfl
theorem Dx4 (c k:Nat) (F:Fr) (X:CX) (ok:FrOk F) (i:Int) (p:ProcS):Ct A7 N6 [P0 c,int i,.agg ⟨B8 p⟩] [cmC c k F X] fun v own=>v=.bool (Bs0 X i p).1∧own [cmC c k F (Bs0 X i p).2]:=by
 refine Ct.of Dh9 rfl fun h r=>Tr.eq (Dh0 ..) ?_;refine Je ?_
 (refine Ja ?_;unhygienic intros)
 refine Yc (E86 p) ?_
 rintro v h (⟨hk,a,rfl,o⟩|⟨hk,rfl,o⟩)
 ·refine (?_:Tr _ _ _ _) o
  refine Je ?_
  (refine Ja ?_;unhygienic intros)
  refine Yc (D48 i) ?_;rintro _ h ⟨rfl,o⟩<;>(refine Jf o ?_;unhygienic intros)
  have J:=B91 c k F X ⟨1,i⟩ ok (At8 p) true a 24 (fun _=>Ea4 p)
  rw [Ea4] at J
  refine Yc (J) ?_;rintro _ h ⟨rfl,o⟩<;>(refine Jf o ?_;unhygienic intros)
  refine Ys fun o=>?_
  unfold Bs0;rw [hk]
  exact ⟨rfl,o.sub⟩
 ·refine (?_:Tr _ _ _ _) o
  refine Je ?_
  (refine Ja ?_;unhygienic intros)
  refine Yc (D48 i) ?_;rintro _ h ⟨rfl,o⟩<;>(refine Jf o ?_;unhygienic intros)
  refine Yc (E73 c k F X ⟨1,i⟩ ok) ?_;rintro _ h ⟨rfl,o⟩<;>(refine Jf o ?_;unhygienic intros)
  refine Ys fun o=>?_
  unfold Bs0;rw [hk,Eo5]
  exact ⟨rfl,o.sub⟩
theorem G82 (c k:Nat) (F:Fr) (X:CX) (ok:FrOk F) (i:Int) (p:FileS):Ct A7 Ab2 [P0 c,int i,.agg ⟨Bo6 p⟩] [cmC c k F X] fun v own=>v=.bool (Bg1 X i p).1∧own [cmC c k F (Bg1 X i p).2]:=by
 refine Ct.of Dh5 rfl fun h r=>Tr.eq (Dh4 ..) ?_;refine Je ?_
 (refine Ja ?_;unhygienic intros)
 refine Yc (E65 p) ?_
 rintro v h (⟨hk,a,rfl,o⟩|⟨hk,rfl,o⟩)
 ·refine (?_:Tr _ _ _ _) o
  refine Je ?_
  (refine Ja ?_;unhygienic intros)
  refine Yc (E52 i) ?_;rintro _ h ⟨rfl,o⟩<;>(refine Jf o ?_;unhygienic intros)
  have J:=B91 c k F X ⟨2,i⟩ ok (Ag7 p) true a 8 (fun _=>Dj9 p)
  rw [Dj9] at J
  refine Yc (J) ?_;rintro _ h ⟨rfl,o⟩<;>(refine Jf o ?_;unhygienic intros)
  refine Ys fun o=>?_
  unfold Bg1;rw [hk]
  exact ⟨rfl,o.sub⟩
 ·refine (?_:Tr _ _ _ _) o
  refine Je ?_
  (refine Ja ?_;unhygienic intros)
  refine Yc (E52 i) ?_;rintro _ h ⟨rfl,o⟩<;>(refine Jf o ?_;unhygienic intros)
  refine Yc (E73 c k F X ⟨2,i⟩ ok) ?_;rintro _ h ⟨rfl,o⟩<;>(refine Jf o ?_;unhygienic intros)
  refine Ys fun o=>?_
  unfold Bg1;rw [hk,Eo5]
  exact ⟨rfl,o.sub⟩
theorem G15 (c k:Nat) (F:Fr) (X:CX) (ok:FrOk F) (i:Int):Ct A7 Z4 [P0 c,int i] [cmC c k F X] fun v own=>v=.bool (Df8 X ⟨1,i⟩).1∧own [cmC c k F (Df8 X ⟨1,i⟩).2]:=by
 refine Ct.of Dc3 rfl fun h r=>Tr.eq (Db3 ..) ?_;refine Je ?_
 refine Yc (D48 i) ?_;rintro _ h ⟨rfl,o⟩<;>(refine Jf o ?_;unhygienic intros)
 refine Yc (Hv0 c k F X ⟨1,i⟩ ok) ?_;rintro _ h ⟨rfl,o⟩<;>(refine Jf o ?_;unhygienic intros)
 refine Ys fun o=>?_
 exact ⟨rfl,o.sub⟩
def Dh8 (f:CX→Int→CX):Nat→Int→CX→CX
 | 0,_,X=>X
 | m+1,i,X=>Dh8 f m (i+1) (f X i)
def Gb3 (X:CX):CX:=(Ep0 (Er1 X).2).2
def Gw9 (nc:Nat) (X:CX):CX:=Gb3 (Dh8 (fun X i=>(D96 X i).2) (3+nc) 0 X)
def Gw0 (nc:Nat) (X:CX):CX:=Gw9 nc (Dh8 (fun X i=>(D76 X i).2) 12 0 X)
def lookN (nc:Nat) (X:CX):CX:=Gw0 nc (Dh8 (fun X i=>(Eb6 X i).2) 8 0 X)
def Gb6 (X:CX):CX:=lookN X.m.length X
theorem Hk1 (c k:Nat) (F:Fr) (ok:FrOk F):∀ (m:Nat) (i:Int) (X:CX),0≤i→i+m=3+F.caps.length →
  CtJ E9 B9 Ab7 [(0,P0 c),(20,int (3+F.caps.length)),(21,int i)] [cmC c k F X] fun v own=>v=.tuple ⟨[]⟩∧own [cmC c k F (Gb3 (Dh8 (fun X i=>(D96 X i).2) m i X))]:=by
 have hs:=ok.small
 intro m
 induction m with
 | zero =>
  intro i X h0 hi
  refine CtJ.of N4 fun h r=>Tr.eq (Bd4 ..) ?_;refine Je ?_
  refine Yf (by simp;omega) ?_
  refine Yc (H70 c k F X ok) ?_;rintro _ h ⟨rfl,o⟩<;>(refine Jf o ?_;unhygienic intros)
  refine Yc (Hs4 c k F (Er1 X).2 ok) ?_;rintro _ h ⟨rfl,o⟩<;>(refine Jf o ?_;unhygienic intros)
  refine Ys fun o=>?_
  exact ⟨rfl,o⟩
 | succ m ih =>
  intro i X h0 hi
  have e1:IntKind.wrap .i64 (i+1)=i+1:=by rw [A6];omega
  refine CtJ.of N4 fun h r=>Tr.eq (Bd4 ..) ?_;refine Je ?_
  refine Yt (by simp;omega) ?_
  refine Yc (H61 c k F X ok i) ?_;rintro _ h ⟨rfl,o⟩<;>(refine Jf o ?_;unhygienic intros)
  rw [e1]
  refine Yr (ih (i+1) (D96 X i).2 (by omega) (by omega)) ?_
  rintro _ h ⟨rfl,o⟩
  exact ⟨rfl,o⟩
theorem Hm7 (c k:Nat) (F:Fr) (ok:FrOk F):∀ (m:Nat) (i:Int) (X:CX),0≤i→i+m=12 →
  CtJ E9 B9 Aa9 [(0,P0 c),(12,int i)] [cmC c k F X] fun v own=>v=.tuple ⟨[]⟩∧own [cmC c k F (Gw9 F.caps.length (Dh8 (fun X i=>(D76 X i).2) m i X))]:=by
 have hs:=ok.small
 intro m
 induction m with
 | zero =>
  intro i X h0 hi
  refine CtJ.of N4 fun h r=>Tr.eq (Bb9 ..) ?_;refine Je ?_
  refine Yf (by simp;omega) ?_
  refine B4 (cmC c k F X) fun u=>?_;refine Je ?_
  refine Tr.pcall (Gu4 c k F.env F.caps X.bad 3 ok.small) ?_;refine Je ?_;(refine Ja ?_;unhygienic intros)
  refine B1 (cmC c k F X) () ?_;refine Je ?_
  refine Yr (Hk1 c k F ok (3+F.caps.length) 0 X (by omega) (by omega)) ?_
  rintro _ h ⟨rfl,o⟩
  exact ⟨rfl,o⟩
 | succ m ih =>
  intro i X h0 hi
  have e1:IntKind.wrap .i64 (i+1)=i+1:=by rw [A6];omega
  refine CtJ.of N4 fun h r=>Tr.eq (Bb9 ..) ?_;refine Je ?_
  refine Yt (by simp;omega) ?_
  refine Yc (Ez6 c k F X ok i) ?_;rintro _ h ⟨rfl,o⟩<;>(refine Jf o ?_;unhygienic intros)
  rw [e1]
  refine Yr (ih (i+1) (D76 X i).2 (by omega) (by omega)) ?_
  rintro _ h ⟨rfl,o⟩
  exact ⟨rfl,o⟩
theorem Hl3 (c k:Nat) (F:Fr) (ok:FrOk F):∀ (m:Nat) (i:Int) (X:CX),0≤i→i+m=8 →
  CtJ E9 B9 Ab5 [(0,P0 c),(5,int i)] [cmC c k F X] fun v own=>v=.tuple ⟨[]⟩∧own [cmC c k F (Gw0 F.caps.length (Dh8 (fun X i=>(Eb6 X i).2) m i X))]:=by
 intro m
 induction m with
 | zero =>
  intro i X h0 hi
  refine CtJ.of N4 fun h r=>Tr.eq (Bd1 ..) ?_;refine Je ?_
  refine Yf (by simp;omega) ?_
  refine Yr (Hm7 c k F ok 12 0 X (by omega) (by omega)) ?_
  rintro _ h ⟨rfl,o⟩
  exact ⟨rfl,o⟩
 | succ m ih =>
  intro i X h0 hi
  have e1:IntKind.wrap .i64 (i+1)=i+1:=by rw [A6];omega
  refine CtJ.of N4 fun h r=>Tr.eq (Bd1 ..) ?_;refine Je ?_
  refine Yt (by simp;omega) ?_
  refine Yc (Br0 c k F X ok i) ?_;rintro _ h ⟨rfl,o⟩<;>(refine Jf o ?_;unhygienic intros)
  rw [e1]
  refine Yr (ih (i+1) (Eb6 X i).2 (by omega) (by omega)) ?_
  rintro _ h ⟨rfl,o⟩
  exact ⟨rfl,o⟩
theorem Ib5 (c k:Nat) (F:Fr) (X:CX) (ok:FrOk F):Ct A7 B9 [P0 c] [cmC c k F X] fun v own=>v=.tuple ⟨[]⟩∧own [cmC c k F (Gb6 X)]:=by
 refine Ct.of N4 rfl fun h r=>Tr.eq (Dz4 ..) ?_;refine Je ?_
 intro o
 obtain ⟨u,o1⟩:=Own.unfold (cmC c k F X) o
 have f:=(Own.front o1 (i:=2) rfl).pure
 have e:Gb6 X=lookN F.caps.length X:=by unfold Gb6;rw [f.mlen ok]
 rw [e]
 refine (?_:Tr _ _ _ _) o
 refine Yr (Hl3 c k F ok 8 0 X (by omega) (by omega)) ?_
 rintro _ h ⟨rfl,o⟩
 exact ⟨rfl,o⟩
end Go.EQ
