/- What is doubled is one file: closed as often as it was doubled it is gone, not sooner; a double to itself does nothing; no conditions. -/
import Derived.Test.YthhmplobccgeiaaGreatMe
set_option linter.all false
set_option maxRecDepth 10000
namespace Go.EQ
open Go Go.NN
theorem S8 (l:List UInt8):(A0 l).length=l.length:=by simp [A0]
theorem Dz3 {l:List UInt8} {i:Nat} {x:UInt8} (h:l[i]?=some x):(A0 l)[i]?=some (.int .u8 x.toNat):=by
 unfold A0;rw [List.getElem?_map,h];rfl
def D79 (n:Int) (l:List UInt8):Int:=l.foldl (fun n c=>IntKind.wrap .u8 (n+c.toNat)) n
def Ge9 (l:List UInt8):Int:=D79 (IntKind.wrap .u8 l.length) l
theorem Hx5 (p:HP) (a:Option Addr) (ro:Bool) (n c d:Nat) (l:List UInt8) [ks:IsSl p a ro A3 1 n c (A0 l)] (x:Nat) (hx:x≤l.length) (hl:l.length≤A8):∀ (m i:Nat) (acc:Int),x-i=m→i≤x →
  U1 G2 Z6 Bj3 [(3,.int .u8 acc),(9,.slice a x d),(10,int x),(11,int i)] [p] (.int .u8 (D79 acc ((l.take x).drop i))):=by
 intro m
 induction m with
 | zero =>
  intro i acc hm hi
  refine U1.of Dy1 fun h r=>Tr.eq (Dy7 ..) ?_;refine Je ?_
  refine Yf (by simp;omega) ?_
  refine Ys fun o=>?_
  rw [List.drop_eq_nil_of_le (by simp;omega)];exact ⟨rfl,rfl⟩
 | succ m ih =>
  intro i acc hm hi
  have hlt:i<(l.take x).length:=by rw [List.length_take];omega
  have hp:l[i]?=some (l.take x)[i]:=by
   rw [List.getElem_take];exact List.getElem?_eq_getElem (by omega)
  have hd:(l.take x).drop i=(l.take x)[i]::(l.take x).drop (i+1):=List.drop_eq_getElem_cons hlt
  generalize (l.take x)[i]=y at hp hd
  have e1:IntKind.wrap .i64 ((i:Int)+1)=((i+1:Nat):Int):=by rw [A6];simp only [A8] at hl;omega
  refine U1.of Dy1 fun h r=>Tr.eq (Dy7 ..) ?_;refine Je ?_
  refine Yt (by simp;omega) ?_
  refine Ab5 0 rfl fun h1 h2 h3=>?_
  rw [S8] at h1
  (refine Ja ?_;unhygienic intros;repeat(refine Gw ?_;rintro px rfl;refine Ja ?_;unhygienic intros))
  refine Tr.xIntS (v:=y.toNat) (by simpa using Dz3 hp) ?_
  rw [e1,hd]
  exact W9 (ih (i+1) _ (by omega) (by omega)) (r:=r) (by simp) fun o=>⟨rfl,rfl⟩
theorem E56 (p:HP) (a:Option Addr) (ro:Bool) (n c d:Nat) (l:List UInt8) [ks:IsSl p a ro A3 1 n c (A0 l)] (x:Nat) (hx:x≤l.length) (hl:l.length≤A8) :
  CtP A7 Z6 [.slice a x d] [p] (.int .u8 (Ge9 (l.take x))):=by
 refine CtP.of Dy1 rfl fun h r=>Tr.eq (G89 ..) ?_;refine Je ?_
 have e:(l.take x).length=x:=by rw [List.length_take];omega
 have J:=Hx5 p a ro n c d l x hx hl _ 0 (IntKind.wrap .u8 x) rfl (by omega)
 rw [List.drop_zero] at J
 refine W9 J (r:=r) (by simp) fun o=>⟨?_,rfl⟩
 unfold Ge9;rw [e]
def Dt8:Nat→List UInt8→Int
 | _,[]=>-1
 | i,x::l=>if x≠0 then i else Dt8 (i+1) l
theorem Gm1:∀ (l:List UInt8) (i:Nat),decide (Dt8 i l≥0)=!l.all (·==0)
 | [],i=>by simp [Dt8]
 | x::l,i=>by
  unfold Dt8
  by_cases h:x=0
  ·rw [if_neg (by simp [h]),Gm1 l (i+1)];simp [h]
  ·rw [if_pos h];simp [h]
theorem Ih4 (x:UInt8):CtP A7 Ad8 [.int .u8 x.toNat] [] (.bool (x != 0)):=by
 refine CtP.of E39 rfl fun h r=>Tr.eq (E67 ..) ?_;refine Je ?_
 refine Ys fun o=>?_
 refine ⟨?_,rfl⟩
 congr 1
 have:((x.toNat:Int)=0)↔x=0:=by
  constructor
  ·intro h;exact UInt8.toNat.inj (by simpa using (show x.toNat=0 by omega))
  ·rintro rfl;rfl
 by_cases h:x=0
 ·subst h;rfl
 ·rw [bne_iff_ne.2 h,bne_iff_ne];intro h2;exact h (this.1 h2)
theorem E32 (p:HP) (a:Option Addr) (ro:Bool) (c:Nat) (l:List UInt8) [ks:IsSl p a ro A3 1 l.length c (A0 l)] (hl:l.length≤A8):∀ (m i:Nat),l.length-i=m→i≤l.length →
  U1 G2 E4 P4 [(0,.slice a l.length c),(1,.func (.func Ad8) ⟨[]⟩ ⟨[]⟩),(7,int l.length),(8,int i)] [p] (int (Dt8 i (l.drop i))):=by
 intro m
 induction m with
 | zero =>
  intro i hm hi
  refine U1.of Ad4 fun h r=>Tr.eq (Ap2 ..) ?_;refine Je ?_
  refine Yf (by simp;omega) ?_
  refine Ys fun o=>?_
  rw [List.drop_eq_nil_of_le (by omega)];exact ⟨rfl,rfl⟩
 | succ m ih =>
  intro i hm hi
  have hlt:i<l.length:=by omega
  have hp:l[i]?=some l[i]:=List.getElem?_eq_getElem hlt
  have hd:l.drop i=l[i]::l.drop (i+1):=List.drop_eq_getElem_cons hlt
  generalize l[i]=x at hp hd
  have e1:IntKind.wrap .i64 ((i:Int)+1)=((i+1:Nat):Int):=by rw [A6];simp only [A8] at hl;omega
  refine U1.of Ad4 fun h r=>Tr.eq (Ap2 ..) ?_;refine Je ?_
  refine Yt (by simp;omega) ?_
  (refine Ja ?_;unhygienic intros;repeat(refine Gw ?_;rintro px rfl;refine Ja ?_;unhygienic intros))
  refine Tr.xIntS (v:=x.toNat) (by simpa using Dz3 hp) ?_
  (refine Ja ?_;unhygienic intros)
  refine Bu4 (Ih4 x) (r:=p::r) (by simp) ?_
  by_cases hx:x=0
  ·have:(x != 0)=false:=by simp [hx]
   rw [this]
   (refine Ja ?_;unhygienic intros)
   rw [e1]
   refine W9 (ih (i+1) (by omega) (by omega)) (r:=r) (by simp) fun o=>?_
   rw [hd,Dt8,if_neg (by simp [hx])];exact ⟨by first|rfl|trivial,by first|rfl|trivial⟩
  ·have:(x != 0)=true:=by simp [hx]
   rw [this]
   (refine Ja ?_;unhygienic intros)
   refine Ys fun o=>?_
   rw [hd,Dt8,if_pos hx];exact ⟨by first|rfl|trivial,by first|rfl|trivial⟩
theorem H46 (p:HP) (a:Option Addr) (ro:Bool) (c:Nat) (l:List UInt8) [ks:IsSl p a ro A3 1 l.length c (A0 l)] (hl:l.length≤A8) :
  CtP A7 Aj9 [.slice a l.length c] [p] (.bool (l.all (·==0))):=by
 have j:CtP A7 E4 [.slice a l.length c,.func (.func Ad8) ⟨[]⟩ ⟨[]⟩] [p] (int (Dt8 0 l)):=by
  refine CtP.of Ad4 rfl fun h r=>Tr.eq (B04 ..) ?_;refine Je ?_
  exact W9 (E32 p a ro c l hl _ 0 rfl (by omega)) (r:=r) (by simp) fun o=>⟨rfl,rfl⟩
 have j2:CtP A7 P5 [.slice a l.length c,.func (.func Ad8) ⟨[]⟩ ⟨[]⟩] [p] (.bool (!l.all (·==0))):=by
  refine CtP.of Bm7 rfl fun h r=>Tr.eq (Bn8 ..) ?_;refine Je ?_
  refine Bu4 j (r:=r) (by simp) ?_
  (refine Ja ?_;unhygienic intros)
  refine Ys fun o=>?_
  rw [Gm1];exact ⟨by first|rfl|trivial,by first|rfl|trivial⟩
 refine CtP.of Gm8 rfl fun h r=>Tr.eq (Gp4 ..) ?_;refine Je ?_
 refine Bu4 j2 (r:=r) (by simp) ?_
 (refine Ja ?_;unhygienic intros)
 refine Ys fun o=>?_
 exact ⟨by simp,rfl⟩
theorem Gw4 (p q:HP) (a:Option Addr) (ro:Bool) (c:Nat) (a2:Option Addr) (ro2:Bool) (c2:Nat) (l m:List UInt8) [ks:IsSl p a ro A3 1 l.length c (A0 l)] [ks2:IsSl q a2 ro2 A3 1 m.length c2 (A0 m)] (hl:l.length≤A8) (hlm:m.length=l.length):∀ (k i:Nat),l.length-i=k→i≤l.length →
  U1 G2 B8 U7 [(0,.slice a l.length c),(1,.slice a2 m.length c2),(12,int l.length),(13,int i)] [p,q] (.bool (decide (l.drop i=m.drop i))):=by
 intro k
 induction k with
 | zero =>
  intro i hm hi
  refine U1.of Ak4 fun h r=>Tr.eq (Ay9 ..) ?_;refine Je ?_
  refine Yf (by simp;omega) ?_
  refine Ys fun o=>?_
  rw [List.drop_eq_nil_of_le (by omega),List.drop_eq_nil_of_le (by omega)];exact ⟨rfl,rfl⟩
 | succ k ih =>
  intro i hm hi
  have hlt:i<l.length:=by omega
  have hp:l[i]?=some l[i]:=List.getElem?_eq_getElem hlt
  have hd:l.drop i=l[i]::l.drop (i+1):=List.drop_eq_getElem_cons hlt
  have hlt2:i<m.length:=by omega
  have hp2:m[i]?=some m[i]:=List.getElem?_eq_getElem hlt2
  have hd2:m.drop i=m[i]::m.drop (i+1):=List.drop_eq_getElem_cons hlt2
  generalize l[i]=x at hp hd
  generalize m[i]=y at hp2 hd2
  have e1:IntKind.wrap .i64 ((i:Int)+1)=((i+1:Nat):Int):=by rw [A6];simp only [A8] at hl;omega
  refine U1.of Ak4 fun h r=>Tr.eq (Ay9 ..) ?_;refine Je ?_
  refine Yt (by simp;omega) ?_
  (refine Ja ?_;unhygienic intros;repeat(refine Gw ?_;rintro px rfl;refine Ja ?_;unhygienic intros))
  refine Tr.xIntS (v:=x.toNat) (by simpa using Dz3 hp) ?_
  (refine Ja ?_;unhygienic intros;repeat(refine Gw ?_;rintro px rfl;refine Ja ?_;unhygienic intros))
  refine Tr.xIntS (v:=y.toNat) (by simpa using Dz3 hp2) ?_
  by_cases hx:x=y
  ·subst hx
   refine Yf (by simp) ?_
   rw [e1]
   refine W9 (ih (i+1) (by omega) (by omega)) (r:=r) (by simp) fun o=>?_
   rw [hd,hd2];exact ⟨by simp,rfl⟩
  ·refine Yt (by rw [bne_iff_ne];intro h2;exact hx (UInt8.toNat.inj (by omega))) ?_
   refine Ys fun o=>?_
   rw [hd,hd2];exact ⟨by simp [hx],rfl⟩
theorem Ee8 (p q:HP) (a:Option Addr) (ro:Bool) (c:Nat) (a2:Option Addr) (ro2:Bool) (c2:Nat) (l m:List UInt8) [ks:IsSl p a ro A3 1 l.length c (A0 l)] [ks2:IsSl q a2 ro2 A3 1 m.length c2 (A0 m)] (hl:l.length≤A8) :
  CtP A7 B8 [.slice a l.length c,.slice a2 m.length c2] [p,q] (.bool (decide (l=m))):=by
 refine CtP.of Ak4 rfl fun h r=>Tr.eq (Db1 ..) ?_;refine Je ?_
 by_cases h:m.length=l.length
 ·refine Yf (by simp [h]) ?_
  have J:=Gw4 p q a ro c a2 ro2 c2 l m hl h _ 0 rfl (by omega)
  simp only [List.drop_zero] at J
  exact W9 J (r:=r) (by simp) fun o=>⟨rfl,rfl⟩
 ·refine Yt (by rw [bne_iff_ne];omega) ?_
  refine Ys fun o=>?_
  exact ⟨by rw [decide_eq_false (fun e=>h (by rw [e]))],rfl⟩
theorem Hp8 (p:HP) (ro:Bool) (a:Option Addr) (c:Nat) (l:List UInt8) [ks:IsSl p a ro A3 1 l.length c (A0 l)] (hn:l.length≤A8) :
  Ct A7 E8 [.slice a l.length c] [p] fun v own=>∃ a' c',v=.slice a' l.length c'∧own [slC false A3 1 a' l.length c' (A0 l),p]:=by
 refine Ct.of A95 rfl fun h r=>Tr.eq (A85 ..) ?_;refine Je ?_
 refine Ab5 0 rfl fun hl hc _=>?_
 refine Tr.cond (fun hb=>?_) fun hb=>?_
 ·obtain rfl:a=none:=by simpa using hb
  refine G9 false A3 1 (by omega) ?_
  intro o
  have o1:=(o.tail.head ks.en).slNone
  obtain rfl:l=[]:=by
   have:=o1.2.2.1
   cases l with
   | nil=>rfl
   | cons x l=>simp [A0] at this
  obtain rfl:c=0:=o1.2.1
  exact ⟨_,_,rfl,none,0,rfl,o⟩
 ·(refine Ja ?_;unhygienic intros)
  refine Ah2 0 rfl 1 0 rfl (by omega) ?_;refine Je ?_
  (refine Ja ?_;unhygienic intros)
  refine Tr.xApd ⟨by simp [A0],by simp [A0,Value.oneCell],by omega⟩ fun a' c' h'=>?_
  refine Je ?_
  refine Ys fun o=>⟨a',c',by simp,by simpa using o⟩
end Go.EQ
namespace Go.NN
section
variable {l:List HP} {h:H} {α:Type} {Q:α→H→Prop} {ro:Bool} {e:TypeId} {cs:List Value}
instance {f:Fn} {a c:Array Value} {k:Option α}:Dx (one (.func f a c) k) k:=⟨rfl⟩
theorem Tr.xPCells {a:Option Addr} {n c sz:Nat} {vs cs':List Value} {l':List HP} {k:H→Option (α × H)} [k1:LkO l a false e sz n c cs] (hn:0<n) (hj:vs≠[]∧vs.length≤cs.length∧vs.all Value.oneCell=true∧vs++cs.drop vs.length=cs') [k2:UpO l a (slC false e sz a n c cs') e sz n c cs l'] (t:∀ h',Tr l' h' (k h') Q):Tr l h (NN.pCells a vs h k) Q:=fun ow=>by
 obtain ⟨i,p,hi,hp⟩:=k1.ix
 obtain ⟨y,rfl⟩:=((ow.front hi).head hp).slSome hn
 have:NN.pCells (Option.some y) vs h k=NN.pAgg ((A9 y).add 0) vs h k:=by
  show NN.pAgg (A9 y) vs h k=_
  congr 1
 rw [this]
 exact Tr.xPAggS (k1:=k1) ⟨hj.1,by omega,hj.2.2.1,by simpa using hj.2.2.2⟩ (k2:=k2) t ow
end
end Go.NN

set_option maxRecDepth 10000
namespace Go.EQ
open Go Go.NN
def b8 (x:Int):UInt8:=UInt8.ofNat (x%256).toNat
theorem Dh9 (x:Int):IntKind.wrap .u8 x=x%256:=H41 x
theorem Bf0 (x:Int):IntKind.wrap .u8 x=((b8 x).toNat:Int):=by
 rw [Dh9,b8,UInt8.toNat_ofNat']
 omega
def Bt1 (l:List UInt8):UInt8:=b8 (Ge9 l)
theorem G25:∀ (l:List UInt8) (n:Int),0≤n∧n<256→0≤D79 n l∧D79 n l<256
 | [],n,h=>h
 | x::l,n,h=>G25 l _ (by show 0≤IntKind.wrap .u8 (n+x.toNat)∧IntKind.wrap .u8 (n+x.toNat)<256;rw [Dh9];omega)
theorem Dl0 (l:List UInt8):Ge9 l=((Bt1 l).toNat:Int):=by
 have:=G25 l (IntKind.wrap .u8 l.length) (by rw [Dh9];omega)
 unfold Bt1
 rw [← Bf0,Dh9]
 unfold Ge9 at *;omega
structure FileS where
 kind:Int
 pipe:Int
 refs:Int
 flags:Int
abbrev FileS.zero:FileS:=⟨0,0,0,0⟩
abbrev Bc3 (f:FileS):List Value:=[int f.kind,int f.pipe,int f.refs,int f.flags]
def okF (f:FileS):Bool:=decide (f.kind≥1) && decide (f.kind≤3) && decide (f.pipe≥0) && decide (f.pipe≤7) && (f.kind != 3 || f.pipe==0) && decide (f.refs≥1) && decide (f.refs≤64) && (f.flags==0 || f.flags==1)
def A72 (f:FileS):List UInt8:=[b8 f.kind,b8 f.pipe,b8 f.refs,b8 f.flags,179]
def Ag6 (f:FileS):List UInt8:=A72 f++[Bt1 (A72 f),0,0]
theorem Ic4 (f:FileS):Ct A7 Dh6 [.agg ⟨Bc3 f⟩] [] fun v own=>v=.bool (okF f)∧own []:=by
 refine Ct.of Hg1 rfl fun h r=>Tr.eq (Hl9 ..) ?_;refine Je ?_
 (refine Ja ?_;unhygienic intros)
 refine Ys fun o=>?_
 refine ⟨?_,o.sub⟩
 rfl
theorem Ib3 (a:Option Addr) (c:Nat) (f:FileS):Ct A7 Ao7 [.agg ⟨Bc3 f⟩,.slice a 8 c] [slC false A3 1 a 8 c (A0 (List.replicate 8 0))] fun v own=>v=.bool (okF f)∧own [slC false A3 1 a 8 c (A0 (if okF f then Ag6 f else List.replicate 8 0))]:=by
 refine Ct.of G65 rfl fun h r=>Tr.eq (G64 ..) ?_;refine Je ?_
 (refine Ja ?_;unhygienic intros)
 refine Yc (Ic4 f) ?_;rintro _ h ⟨rfl,o⟩<;>(refine Jf o ?_;unhygienic intros)
 cases hk:okF f with
 | false =>
  (refine Ja ?_;unhygienic intros)
  refine Ys fun o=>?_
  rw [if_neg (by simp)]
  exact ⟨rfl,o.sub⟩
 | true =>
  (refine Ja ?_;unhygienic intros)
  simp only [Bf0,List.drop_zero,List.take]
  refine Ab5 2 rfl fun hl hc _=>?_
  refine Tr.xPCells (cs':=A0 (A72 f++[0,0,0])) (by omega) ⟨by simp,by simp [A0],by simp [Value.oneCell],rfl⟩ fun h=>?_
  (refine Ja ?_;unhygienic intros)
  refine Tr.pcall (E56 (slC false A3 1 a 8 c (A0 (A72 f++[0,0,0]))) a false 8 c c (A72 f++[0,0,0]) 5 (by simp [A72]) (by simp [A72,A8])) ?_
  refine Je ?_
  (refine Ja ?_;unhygienic intros;repeat(refine Gw ?_;rintro px rfl;refine Ja ?_;unhygienic intros))
  rw [show List.take 5 (A72 f++[0,0,0]:List UInt8)=A72 f from rfl,Dl0]
  refine Tr.xVS (cs':=A0 (Ag6 f)) ⟨by simp [A0,A72],rfl,rfl⟩ fun h=>?_
  refine Ys fun o=>?_
  simp only [if_true]
  exact ⟨trivial,o.sub⟩
theorem Dr4 {l:List Value} (h:l.all (fun v=>match v with|.int _ _=>true|_=>false)=true):Am9 (.agg ⟨l⟩) (.agg ⟨l⟩)=true:=by
 show Bp7 l l=true
 induction l with
 | nil=>rfl
 | cons v l ih =>
  simp only [List.all_cons,Bool.and_eq_true] at h
  show (Az9 v v && Bp7 l l)=true
  rw [ih h.2,Bool.and_true]
  cases v<;>first|(simp [Az9];done)|exact absurd h.1 (by simp)
abbrev G40 (k:Nat):HP:=pt k (.cells Ai0 false [int 8,.func (.func Ao7) ⟨[]⟩ ⟨[]⟩,.func (.func Ao9) ⟨[]⟩ ⟨[]⟩])
theorem Ha5 (k:Nat) (f:FileS):Ct A7 U8 [P0 k,.agg ⟨Bc3 f⟩] [G40 k] fun v own=>(okF f=true∧∃ a,v=.tuple ⟨[.slice a 8 8,.bool true]⟩∧own [G40 k,slC false A3 1 a 8 8 (A0 (Ag6 f))])∨(okF f=false∧v=.tuple ⟨[.slice none 0 0,.bool false]⟩∧own [G40 k]):=by
 refine Ct.of B16 rfl fun h r=>Tr.eq (B12 ..) ?_;refine Je ?_
 (refine Ja ?_;unhygienic intros)
 refine Tr.ck ⟨by omega,by omega,by simp [A8]⟩ ?_
 refine Yn fun b1 h=>?_
 rw [show G7 (Int.toNat 8) [.int .u8 0]=A0 (List.replicate 8 0) from rfl]
 refine Ah2 0 rfl 1 8 rfl (by omega) ?_
 simp only [List.set_cons_zero]
 refine Je ?_
 (refine Jb ?_;unhygienic intros)
 refine Yb (Yf rfl ?_)
 (refine Jb ?_;unhygienic intros)
 refine Yc (Ib3 (some ⟨b1,0,none⟩) 8 f) ?_;rintro _ h ⟨rfl,o⟩<;>(refine Jg o ?_;unhygienic intros)
 refine Ys fun o=>(?_:Tr _ _ _ _) o;refine Je ?_
 cases hk:okF f with
 | false =>
  (refine Ja ?_;unhygienic intros)
  refine Ys fun o=>?_
  exact .inr ⟨rfl,rfl,o.sub⟩
 | true =>
  (refine Ja ?_;unhygienic intros)
  refine Ys fun o=>?_
  simp only [if_true] at o
  exact .inl ⟨rfl,_,rfl,o.sub⟩
theorem H71:Ct A7 An4 [int 8,.func (.func Ao7) ⟨[]⟩ ⟨[]⟩,.func (.func Ao9) ⟨[]⟩ ⟨[]⟩] [] fun v own=>∃ k,v=P0 k∧own [pt k (.cells Ai0 false [int 8,.func (.func Ao7) ⟨[]⟩ ⟨[]⟩,.func (.func Ao9) ⟨[]⟩ ⟨[]⟩])]:=by
 refine Ct.of D88 rfl fun h r=>Tr.eq (D70 ..) ?_;refine Je ?_
 rw [show mm2 false (mm2 true 8 0) 64=8 from rfl]
 (refine Ja ?_;unhygienic intros)
 refine Ys fun o=>?_
 exact ⟨_,rfl,o.sub⟩
theorem Gk3:Ct A7 A80 [] [] fun v own=>∃ k,v=P0 k∧own [pt k (.cells Ai0 false [int 8,.func (.func Ao7) ⟨[]⟩ ⟨[]⟩,.func (.func Ao9) ⟨[]⟩ ⟨[]⟩])]:=by
 refine Ct.of Gp9 rfl fun h r=>Tr.eq (Gn4 ..) ?_;refine Je ?_
 refine Yc (H71) ?_;rintro _ h ⟨k,rfl,o⟩<;>(refine Jf o ?_;unhygienic intros)
 refine Ys fun o=>?_
 exact ⟨_,rfl,o.sub⟩
theorem E99 (f:FileS):Ct A7 A19 [.agg ⟨Bc3 f⟩] [] fun v own=>(okF f=true∧∃ a,v=.tuple ⟨[.slice a 8 8,.bool true]⟩∧own [slC false A3 1 a 8 8 (A0 (Ag6 f))])∨(okF f=false∧v=.tuple ⟨[.slice none 0 0,.bool false]⟩∧own []):=by
 refine Ct.of Gh0 rfl fun h r=>Tr.eq (Ge4 ..) ?_;refine Je ?_
 (refine Ja ?_;unhygienic intros)
 refine Yc (Gk3) ?_;rintro _ h ⟨k,rfl,o⟩<;>(refine Jf o ?_;unhygienic intros)
 refine Tr.same (Dr4 rfl) ?_
 refine Yc (Ha5 k f) ?_
 rintro v h (⟨hk,a,rfl,o⟩|⟨hk,rfl,o⟩)
 ·refine (?_:Tr _ _ _ _) o
  refine Je ?_
  (refine Ja ?_;unhygienic intros)
  refine Ys fun o=>?_
  exact .inl ⟨hk,a,rfl,o.sub⟩
 ·refine (?_:Tr _ _ _ _) o
  refine Je ?_
  (refine Ja ?_;unhygienic intros)
  refine Ys fun o=>?_
  exact .inr ⟨hk,rfl,o.sub⟩
theorem Ab7 {l:List UInt8} {i:Nat} (h:i<l.length):(A0 l)[i]?=some (.int .u8 ((l.getD i 0).toNat:Int)):=by
 rw [List.getD_eq_getElem?_getD,List.getElem?_eq_getElem h];exact Dz3 (List.getElem?_eq_getElem h)
theorem Al3 (x:UInt8):IntKind.wrap .i64 (x.toNat:Int)=(x.toNat:Int):=by
 have:=x.toNat_lt;rw [A6];omega
abbrev byI (l:List UInt8) (i:Nat):Int:=((l.getD i 0).toNat:Int)
def B34 (l:List UInt8):FileS:=⟨byI l 0,byI l 1,byI l 2,byI l 3⟩
def isF (l:List UInt8):Bool:=okF (B34 l) && decide (Ag6 (B34 l)=l)
theorem H99 (a:Option Addr) (c:Nat) (l:List UInt8) (hl:l.length=8):Ct A7 Ao9 [.slice a 8 c] [slC false A3 1 a 8 c (A0 l)] fun v own=>v=.tuple ⟨[.agg ⟨Bc3 (B34 l)⟩,.bool (isF l)]⟩∧own [slC false A3 1 a 8 c (A0 l)]:=by
 have key:∀ a1:Option Addr,CtP A7 B8 [.slice a1 8 8,.slice a 8 c] [slC false A3 1 a1 8 8 (A0 (Ag6 (B34 l))),slC false A3 1 a 8 c (A0 l)] (.bool (decide (Ag6 (B34 l)=l))):=fun a1=>by
  have J:=Ee8 (slC false A3 1 a1 8 8 (A0 (Ag6 (B34 l)))) (slC false A3 1 a l.length c (A0 l)) a1 false 8 a false c (Ag6 (B34 l)) l (by simp [Ag6,A72,A8])
  rwa [hl,show (Ag6 (B34 l)).length=8 from rfl] at J
 refine Ct.of G53 rfl fun h r=>Tr.eq (G67 ..) ?_;refine Je ?_
 refine Yn fun b1 h=>?_
 (refine Ja ?_;unhygienic intros;repeat(refine Gw ?_;rintro px rfl;refine Ja ?_;unhygienic intros))
 refine Tr.xIntS (v:=byI l 0) (Ab7 (by omega)) ?_
 (refine Ja ?_;unhygienic intros)
 refine Tr.xIntS (v:=byI l 1) (Ab7 (by omega)) ?_
 (refine Ja ?_;unhygienic intros)
 refine Tr.xIntS (v:=byI l 2) (Ab7 (by omega)) ?_
 (refine Ja ?_;unhygienic intros)
 refine Tr.xIntS (v:=byI l 3) (Ab7 (by omega)) ?_
 simp only [byI,Al3]
 refine Yn fun b2 h=>?_
 (refine Jb ?_;unhygienic intros)
 refine Yc (E99 (B34 l)) ?_
 rintro v h (⟨hk,a1,rfl,o⟩|⟨hk,rfl,o⟩)
 ·refine (?_:Tr _ _ _ _) o
  refine Je ?_
  (refine Jb ?_;unhygienic intros)
  refine Yb (Yt rfl ?_)
  refine Tr.pcall (key a1) ?_;refine Je ?_;(refine Jb ?_;unhygienic intros)
  refine Tr.same (Dr4 rfl) ?_
  refine Ys fun o=>(?_:Tr _ _ _ _) o;refine Je ?_
  (refine Ja ?_;unhygienic intros)
  refine Ys fun o=>?_
  exact ⟨by unfold isF;rw [hk,Bool.true_and];rfl,o.sub⟩
 ·refine (?_:Tr _ _ _ _) o
  refine Je ?_
  (refine Ja ?_;unhygienic intros)
  refine Ys fun o=>?_
  exact ⟨by unfold isF;rw [hk];rfl,o.sub⟩
theorem Em8 (n:Nat) (a:Option Addr) (c:Nat) (l:List UInt8) (hl:l.length=n) (hn:n≤A8):Ct A7 E8 [.slice a n c] [slC false A3 1 a n c (A0 l)] fun v own=>∃ a' c',v=.slice a' n c'∧own [slC false A3 1 a' n c' (A0 l),slC false A3 1 a n c (A0 l)]:=by
 subst hl;exact Hp8 (slC false A3 1 a l.length c (A0 l)) false a c l hn
theorem Ef0 (n:Nat) (a:Option Addr) (c:Nat) (l:List UInt8) (hl:l.length=n) (hn:n≤A8):CtP A7 Aj9 [.slice a n c] [slC false A3 1 a n c (A0 l)] (.bool (l.all (·==0))):=by
 subst hl;exact H46 (slC false A3 1 a l.length c (A0 l)) a false c l hn
theorem G87 (k:Nat) (a:Option Addr) (c:Nat) (l:List UInt8) (hl:l.length=8):Ct A7 U2 [P0 k,.slice a 8 c] [G40 k,slC false A3 1 a 8 c (A0 l)] fun v own=>v=.tuple ⟨[.agg ⟨Bc3 (if isF l then B34 l else .zero)⟩,.bool (isF l)]⟩∧own [G40 k,slC false A3 1 a 8 c (A0 l)]:=by
 refine Ct.of B17 rfl fun h r=>Tr.eq (B13 ..) ?_;refine Je ?_
 (refine Ja ?_;unhygienic intros)
 refine Yf rfl ?_
 (refine Jb ?_;unhygienic intros)
 refine Yc (Em8 8 a c l hl (by simp [A8])) ?_;rintro _ h ⟨a1,c1,rfl,o⟩<;>(refine Jg o ?_;unhygienic intros)
 refine Yc (H99 a1 c1 l hl) ?_;rintro _ h ⟨rfl,o⟩<;>(refine Jg o ?_;unhygienic intros)
 cases hk:isF l with
 | false =>
  (refine Ja ?_;unhygienic intros)
  refine Ys fun o=>?_
  exact ⟨rfl,o.sub⟩
 | true =>
  (refine Ja ?_;unhygienic intros)
  refine Ys fun o=>?_
  exact ⟨rfl,o.sub⟩
def Z4 (l:List UInt8):FileS × Int:=if l.all (·==0) then (.zero,0) else if isF l then (B34 l,1) else (.zero,2)
theorem Hl0 (a:Option Addr) (c:Nat) (l:List UInt8) (hl:l.length=8):Ct A7 A20 [.slice a 8 c] [slC false A3 1 a 8 c (A0 l)] fun v own=>v=.tuple ⟨[.agg ⟨Bc3 (Z4 l).1⟩,int (Z4 l).2]⟩∧own [slC false A3 1 a 8 c (A0 l)]:=by
 refine Ct.of Gc0 rfl fun h r=>Tr.eq (Ge7 ..) ?_;refine Je ?_
 refine Yn fun b1 h=>?_
 refine Yb (Yt rfl ?_)
 refine Tr.pcall (Ef0 8 a c l hl (by simp [A8])) ?_;refine Je ?_;(refine Jb ?_;unhygienic intros)
 refine Ys fun o=>(?_:Tr _ _ _ _) o;refine Je ?_
 cases hb:l.all (·==0) with
 | true =>
  (refine Ja ?_;unhygienic intros)
  refine Ys fun o=>?_
  exact ⟨by unfold Z4;rw [hb];rfl,o.sub⟩
 | false =>
  (refine Jb ?_;unhygienic intros)
  refine Yc (Gk3) ?_;rintro _ h ⟨k,rfl,o⟩<;>(refine Jg o ?_;unhygienic intros)
  refine Yc (G87 k a c l hl) ?_;rintro _ h ⟨rfl,o⟩<;>(refine Jg o ?_;unhygienic intros)
  cases hk:isF l with
  | false =>
   (refine Ja ?_;unhygienic intros)
   refine Ys fun o=>?_
   exact ⟨by unfold Z4;rw [hb,hk];rfl,o.sub⟩
  | true =>
   (refine Ja ?_;unhygienic intros)
   refine Ys fun o=>?_
   exact ⟨by unfold Z4;rw [hb,hk];rfl,o.sub⟩
structure PipeS where
 head:Int
 count:Int
 readers:Int
 writers:Int
 data:List UInt8
 len:data.length=32
abbrev PipeS.zero:PipeS:=⟨0,0,0,0,List.replicate 32 0,rfl⟩
abbrev M7 (p:PipeS):List Value:=int p.head::int p.count::int p.readers::int p.writers::A0 p.data
theorem Dq9 {p:PipeS} (hd:p.data.length=32):(M7 p).length=36:=by simp [M7,S8,hd]
theorem Hj2 {p:PipeS} (hd:p.data.length=32):4+32≤(M7 p).length∧((M7 p).drop 4).take 32=A0 p.data:=⟨by rw [Dq9 hd];exact Nat.le_refl _,by
 rw [show (M7 p).drop 4=A0 p.data from rfl,List.take_of_length_le (by rw [S8,hd];exact Nat.le_refl _)]⟩
theorem Hs5 (p:PipeS):(M7 p).all Value.oneCell=true:=by simp [M7,Ae7,Value.oneCell]
theorem Hh2 (p:PipeS):Am9 (.agg ⟨M7 p⟩) (.agg ⟨M7 p⟩)=true:=Dr4 (by simp [M7,A0])
instance {p:PipeS}:LenC (M7 p) 36:=⟨Dq9 p.len⟩
instance {p:PipeS}:PartC (M7 p) 0 36 (M7 p):=⟨Dr3 (Dq9 p.len)⟩
instance {p:PipeS} {cs:List Value} [k:LenC cs 36]:SetsC cs 0 (M7 p) (M7 p):=⟨Bt7 k.ok (Dq9 p.len) (Hs5 p)⟩
instance {p:PipeS}:SameC (.agg ⟨M7 p⟩):=⟨Hh2 p⟩
def okP (p:PipeS):Bool:=decide (0≤p.head∧p.head≤31) && decide (0≤p.count∧p.count≤32) && decide (0≤p.readers∧p.readers≤8) && decide (0≤p.writers∧p.writers≤8)
def Af9 (p:PipeS):List UInt8:=[1,b8 p.head,b8 p.count,b8 p.readers,b8 p.writers,197]
def I8 (p:PipeS):List UInt8:=Af9 p++Bt1 (Af9 p)::0::p.data
theorem Br6 {p:PipeS} (hd:p.data.length=32):(I8 p).length=40:=by simp [I8,Af9,hd]
theorem Id4 (n m:Int):CtP A7 Ap5 [int n,int m] [] (.bool (decide (0≤n∧n≤m))):=by
 refine CtP.of Ha8 rfl fun h r=>Tr.eq (G71 ..) ?_;refine Je ?_
 (refine Ja ?_;unhygienic intros)
 refine Ys fun o=>?_
 refine ⟨?_,rfl⟩
 refine congrArg Value.bool ?_;rw [Bool.eq_iff_iff];simp only [Bool.and_eq_true,Bool.or_eq_true,Bool.not_eq_true',Bool.not_eq_false',decide_eq_true_eq,decide_eq_false_iff_not,bne_iff_ne,beq_iff_eq,ne_eq,A6,W1,Q7,ge_iff_le,gt_iff_lt];first|done|omega
instance {n m:Int} {l:List HP}:PCi A7 Ap5 [.int .i64 n,.int .i64 m] l (.bool (decide (0≤n∧n≤m))):=PCi.of (Id4 n m)
theorem Ic8 (p:PipeS):Ct A7 Dr5 [.agg ⟨M7 p⟩] [] fun v own=>v=.bool (okP p)∧own []:=by
 refine Ct.of Hu3 rfl fun h r=>Tr.eq (Ht9 ..) ?_;refine Je ?_
 (refine Ja ?_;unhygienic intros)
 refine Ys fun o=>?_
 exact ⟨rfl,o.sub⟩
theorem H70 (a:Option Addr) (c:Nat) (p:PipeS):Ct A7 Bi9 [.agg ⟨M7 p⟩,.slice a 40 c] [slC false A3 1 a 40 c (A0 (List.replicate 40 0))] fun v own=>v=.bool (okP p)∧own [slC false A3 1 a 40 c (A0 (if okP p then I8 p else List.replicate 40 0))]:=by
 have hd:=p.len
 refine Ct.of Hm3 rfl fun h r=>Tr.eq (Hk0 ..) ?_;refine Je ?_
 refine Yn fun b1 h=>?_
 (refine Ja ?_;unhygienic intros)
 refine Yc (Ic8 p) ?_;rintro _ h ⟨rfl,o⟩<;>(refine Jg o ?_;unhygienic intros)
 cases hk:okP p with
 | false =>
  (refine Ja ?_;unhygienic intros)
  refine Ys fun o=>?_
  rw [if_neg (by simp)]
  exact ⟨rfl,o.sub⟩
 | true =>
  (refine Ja ?_;unhygienic intros)
  simp only [Bf0,List.drop_zero,List.take]
  refine Ab5 2 rfl fun hl hc _=>?_
  refine Tr.xPCells (cs':=A0 (Af9 p++List.replicate 34 0)) (by omega) ⟨by simp,by simp [A0],by simp [Value.oneCell],rfl⟩ fun h=>?_
  (refine Ja ?_;unhygienic intros)
  refine Tr.pcall (E56 (slC false A3 1 a 40 c (A0 (Af9 p++List.replicate 34 0))) a false 40 c c (Af9 p++List.replicate 34 0) 6 (by simp [Af9]) (by simp [Af9,A8])) ?_
  refine Je ?_
  (refine Ja ?_;unhygienic intros;repeat(refine Gw ?_;rintro px rfl;refine Ja ?_;unhygienic intros))
  rw [show List.take 6 (Af9 p++List.replicate 34 0:List UInt8)=Af9 p from rfl,Dl0]
  refine Tr.xVS (cs':=A0 (Af9 p++Bt1 (Af9 p)::List.replicate 33 0)) ⟨by simp [A0,Af9],rfl,rfl⟩ fun h=>?_
  (refine Ja ?_;unhygienic intros)
  refine Tr.xCellsB (xs:=A0 p.data) (Hj2 p.len) ?_
  rw [Gg9 (by omega),Eh3]
  refine Tr.xPAggS (cs':=A0 (I8 p)) ⟨?_,?_,Ae7 _,?_⟩ fun h=>?_
  ·intro e;have:=congrArg List.length e;simp [A0,hd] at this
  ·simp [A0,hd,Af9]
  ·rw [S8,hd]
   simp [A0,I8,Af9]
  refine Ys fun o=>?_
  simp only [if_true]
  exact ⟨trivial,o.sub⟩
abbrev Ez9 (k:Nat):HP:=pt k (.cells Bm9 false [int 40,.func (.func Bi9) ⟨[]⟩ ⟨[]⟩,.func (.func Bh2) ⟨[]⟩ ⟨[]⟩])
theorem G62 (k:Nat) (f:PipeS):Ct A7 U3 [P0 k,.agg ⟨M7 f⟩] [Ez9 k] fun v own=>(okP f=true∧∃ a,v=.tuple ⟨[.slice a 40 40,.bool true]⟩∧own [Ez9 k,slC false A3 1 a 40 40 (A0 (I8 f))])∨(okP f=false∧v=.tuple ⟨[.slice none 0 0,.bool false]⟩∧own [Ez9 k]):=by
 refine Ct.of B14 rfl fun h r=>Tr.eq (B10 ..) ?_;refine Je ?_
 (refine Ja ?_;unhygienic intros)
 refine Tr.ck ⟨by omega,by omega,by simp [A8]⟩ ?_
 refine Yn fun b1 h=>?_
 rw [show G7 (Int.toNat 40) [.int .u8 0]=A0 (List.replicate 40 0) from rfl]
 refine Ah2 0 rfl 1 40 rfl (by omega) ?_
 simp only [List.set_cons_zero]
 refine Je ?_
 (refine Jb ?_;unhygienic intros)
 refine Yb (Yf rfl ?_)
 (refine Jb ?_;unhygienic intros)
 refine Yc (H70 (some ⟨b1,0,none⟩) 40 f) ?_;rintro _ h ⟨rfl,o⟩<;>(refine Jg o ?_;unhygienic intros)
 refine Ys fun o=>(?_:Tr _ _ _ _) o;refine Je ?_
 cases hk:okP f with
 | false =>
  (refine Ja ?_;unhygienic intros)
  refine Ys fun o=>?_
  exact .inr ⟨rfl,rfl,o.sub⟩
 | true =>
  (refine Ja ?_;unhygienic intros)
  refine Ys fun o=>?_
  simp only [if_true] at o
  exact .inl ⟨rfl,_,rfl,o.sub⟩
theorem H96:Ct A7 Am3 [int 40,.func (.func Bi9) ⟨[]⟩ ⟨[]⟩,.func (.func Bh2) ⟨[]⟩ ⟨[]⟩] [] fun v own=>∃ k,v=P0 k∧own [Ez9 k]:=by
 refine Ct.of D95 rfl fun h r=>Tr.eq (D99 ..) ?_;refine Je ?_
 rw [show mm2 false (mm2 true 40 0) 64=40 from rfl]
 (refine Ja ?_;unhygienic intros)
 refine Ys fun o=>?_
 exact ⟨_,rfl,o.sub⟩
theorem Gi5:Ct A7 Bg1 [] [] fun v own=>∃ k,v=P0 k∧own [Ez9 k]:=by
 refine Ct.of Gu3 rfl fun h r=>Tr.eq (G31 ..) ?_;refine Je ?_
 refine Yc (H96) ?_;rintro _ h ⟨k,rfl,o⟩<;>(refine Jf o ?_;unhygienic intros)
 refine Ys fun o=>?_
 exact ⟨_,rfl,o.sub⟩
theorem Ga7 (f:PipeS):Ct A7 A81 [.agg ⟨M7 f⟩] [] fun v own=>(okP f=true∧∃ a,v=.tuple ⟨[.slice a 40 40,.bool true]⟩∧own [slC false A3 1 a 40 40 (A0 (I8 f))])∨(okP f=false∧v=.tuple ⟨[.slice none 0 0,.bool false]⟩∧own []):=by
 refine Ct.of Gp6 rfl fun h r=>Tr.eq (Gq0 ..) ?_;refine Je ?_
 refine Yn fun b1 h=>?_
 (refine Ja ?_;unhygienic intros)
 refine Yc (Gi5) ?_;rintro _ h ⟨k,rfl,o⟩<;>(refine Jg o ?_;unhygienic intros)
 (refine Ja ?_;unhygienic intros)
 refine Yc (G62 k f) ?_
 rintro v h (⟨hk,a,rfl,o⟩|⟨hk,rfl,o⟩)
 ·refine (?_:Tr _ _ _ _) o
  refine Je ?_
  (refine Ja ?_;unhygienic intros)
  refine Ys fun o=>?_
  exact .inl ⟨hk,a,rfl,o.sub⟩
 ·refine (?_:Tr _ _ _ _) o
  refine Je ?_
  (refine Ja ?_;unhygienic intros)
  refine Ys fun o=>?_
  exact .inr ⟨hk,rfl,o.sub⟩
def Dq1 (l:List UInt8):List UInt8:=(l++List.replicate 32 0).take 32
theorem Hs0 (l:List UInt8):(Dq1 l).length=32:=by simp [Dq1]
theorem D42 {l:List UInt8} (h:l.length=32):Dq1 l=l:=by simp [Dq1,← h]
def Ba6 (l:List UInt8):PipeS:=⟨byI l 1,byI l 2,byI l 3,byI l 4,Dq1 (l.drop 8),Hs0 _⟩
def isP (l:List UInt8):Bool:=okP (Ba6 l) && decide (I8 (Ba6 l)=l)
theorem H84 (a:Option Addr) (c:Nat) (l:List UInt8) (hl:l.length=40):Ct A7 Bh2 [.slice a 40 c] [slC false A3 1 a 40 c (A0 l)] fun v own=>v=.tuple ⟨[.agg ⟨M7 (Ba6 l)⟩,.bool (isP l)]⟩∧own [slC false A3 1 a 40 c (A0 l)]:=by
 have hd:=(Ba6 l).len
 have hp:Dq1 (l.drop 8)=l.drop 8:=D42 (by simp [hl])
 have key:∀ a1:Option Addr,CtP A7 B8 [.slice a1 40 40,.slice a 40 c] [slC false A3 1 a1 40 40 (A0 (I8 (Ba6 l))),slC false A3 1 a 40 c (A0 l)] (.bool (decide (I8 (Ba6 l)=l))):=fun a1=>by
  have e:=Br6 hd
  have J:=Ee8 (slC false A3 1 a1 (I8 (Ba6 l)).length 40 (A0 (I8 (Ba6 l)))) (slC false A3 1 a l.length c (A0 l)) a1 false 40 a false c (I8 (Ba6 l)) l (by rw [e];simp [A8])
  rwa [hl,e] at J
 refine Ct.of Hm6 rfl fun h r=>Tr.eq (Hm4 ..) ?_;refine Je ?_
 refine Yn fun b1 h=>?_
 refine Ab5 1 rfl fun hl2 hc2 _=>?_
 (refine Ja ?_;unhygienic intros;repeat(refine Gw ?_;rintro px rfl;refine Ja ?_;unhygienic intros))
 refine Tr.xIntS (v:=byI l 1) (Ab7 (by omega)) ?_
 (refine Ja ?_;unhygienic intros)
 refine Tr.xIntS (v:=byI l 2) (Ab7 (by omega)) ?_
 (refine Ja ?_;unhygienic intros)
 refine Tr.xIntS (v:=byI l 3) (Ab7 (by omega)) ?_
 (refine Ja ?_;unhygienic intros)
 refine Tr.xIntS (v:=byI l 4) (Ab7 (by omega)) ?_
 simp only [byI,Al3]
 refine Yn fun b2 h=>?_
 (refine Jb ?_;unhygienic intros)
 rw [Gg9 (show 8<c by omega),G26]
 refine Tr.xAggS (xs:=A0 (l.drop 8)) ⟨by omega,by simp [S8,hl],?_⟩ ?_
 ·rw [B53,List.take_of_length_le (by simp [S8,hl])]
 rw [show pCells (some (⟨b2,4,none⟩:Addr))=pAgg ⟨b2,4,none⟩ from rfl]
 refine Tr.xPAgg (cs':=M7 (Ba6 l)) ⟨by simp [S8,hl],Ae7 _,by simp [M7,Ba6,byI,S8,hl,hp]⟩ fun h=>?_
 (refine Ja ?_;unhygienic intros)
 refine Yc (Ga7 (Ba6 l)) ?_
 rintro v h (⟨hk,a1,rfl,o⟩|⟨hk,rfl,o⟩)
 ·refine (?_:Tr _ _ _ _) o
  refine Je ?_
  (refine Jb ?_;unhygienic intros)
  refine Yb (Yt rfl ?_)
  refine Tr.pcall (key a1) ?_;refine Je ?_;(refine Jb ?_;unhygienic intros)
  refine Ys fun o=>(?_:Tr _ _ _ _) o;refine Je ?_
  (refine Ja ?_;unhygienic intros)
  refine Ys fun o=>?_
  exact ⟨by unfold isP;rw [hk,Bool.true_and],o.sub⟩
 ·refine (?_:Tr _ _ _ _) o
  refine Je ?_
  (refine Ja ?_;unhygienic intros)
  refine Ys fun o=>?_
  exact ⟨by unfold isP;rw [hk];rfl,o.sub⟩
theorem G85 (k:Nat) (a:Option Addr) (c:Nat) (l:List UInt8) (hl:l.length=40):Ct A7 U4 [P0 k,.slice a 40 c] [Ez9 k,slC false A3 1 a 40 c (A0 l)] fun v own=>v=.tuple ⟨[.agg ⟨M7 (if isP l then Ba6 l else .zero)⟩,.bool (isP l)]⟩∧own [Ez9 k,slC false A3 1 a 40 c (A0 l)]:=by
 have hd:=(Ba6 l).len
 have hp:Dq1 (l.drop 8)=l.drop 8:=D42 (by simp [hl])
 refine Ct.of B07 rfl fun h r=>Tr.eq (B11 ..) ?_;refine Je ?_
 (refine Ja ?_;unhygienic intros)
 refine Yf rfl ?_
 (refine Jb ?_;unhygienic intros)
 refine Yc (Em8 40 a c l hl (by simp [A8])) ?_;rintro _ h ⟨a1,c1,rfl,o⟩<;>(refine Jg o ?_;unhygienic intros)
 refine Yc (H84 a1 c1 l hl) ?_;rintro _ h ⟨rfl,o⟩<;>(refine Jg o ?_;unhygienic intros)
 cases hk:isP l with
 | false =>
  (refine Ja ?_;unhygienic intros)
  refine Ys fun o=>?_
  exact ⟨rfl,o.sub⟩
 | true =>
  (refine Ja ?_;unhygienic intros)
  refine Ys fun o=>?_
  exact ⟨rfl,o.sub⟩
def V7 (l:List UInt8):PipeS × Int:=if l.all (·==0) then (.zero,0) else if isP l then (Ba6 l,1) else (.zero,2)
theorem Hf2 (a:Option Addr) (c:Nat) (l:List UInt8) (hl:l.length=40):Ct A7 At5 [.slice a 40 c] [slC false A3 1 a 40 c (A0 l)] fun v own=>v=.tuple ⟨[.agg ⟨M7 (V7 l).1⟩,int (V7 l).2]⟩∧own [slC false A3 1 a 40 c (A0 l)]:=by
 have hd:=(Ba6 l).len
 have hp:Dq1 (l.drop 8)=l.drop 8:=D42 (by simp [hl])
 refine Ct.of Go4 rfl fun h r=>Tr.eq (Go0 ..) ?_;refine Je ?_
 refine Yn fun b1 h=>?_
 refine Yb (Yt rfl ?_)
 refine Tr.pcall (Ef0 40 a c l hl (by simp [A8])) ?_;refine Je ?_;(refine Jb ?_;unhygienic intros)
 refine Ys fun o=>(?_:Tr _ _ _ _) o;refine Je ?_
 cases hb:l.all (·==0) with
 | true =>
  (refine Ja ?_;unhygienic intros)
  refine Ys fun o=>?_
  exact ⟨by unfold V7;rw [hb];rfl,o.sub⟩
 | false =>
  (refine Jb ?_;unhygienic intros)
  refine Yc (Gi5) ?_;rintro _ h ⟨k,rfl,o⟩<;>(refine Jg o ?_;unhygienic intros)
  refine Yc (G85 k a c l hl) ?_;rintro _ h ⟨rfl,o⟩<;>(refine Jg o ?_;unhygienic intros)
  cases hk:isP l with
  | false =>
   (refine Ja ?_;unhygienic intros)
   refine Ys fun o=>?_
   exact ⟨by unfold V7;rw [hb,hk];rfl,o.sub⟩
  | true =>
   (refine Ja ?_;unhygienic intros)
   refine Ys fun o=>?_
   exact ⟨by unfold V7;rw [hb,hk];rfl,o.sub⟩
structure ProcS where
 state:Int
 parent:Int
 group:Int
 code:Int
 pending:Int
 mask:Int
 ignored:Int
 caught:Int
 fds:List Int
 len:fds.length=8
abbrev Gq8:List Int:=[0,0,0,0,0,0,0,0]
abbrev ProcS.zero:ProcS:=⟨0,0,0,0,0,0,0,0,Gq8,rfl⟩
abbrev D6 (p:ProcS):List Value:=int p.state::int p.parent::int p.group::int p.code::int p.pending::int p.mask::int p.ignored::int p.caught::p.fds.map int
theorem Bt6 (p:ProcS):(D6 p).length=16:=by simp [D6,p.len]
theorem Ht8 (p:ProcS):(D6 p).all Value.oneCell=true:=by simp [D6,Value.oneCell]
instance {p:ProcS}:LenC (D6 p) 16:=⟨Bt6 p⟩
instance {p:ProcS}:PartC (D6 p) 0 16 (D6 p):=⟨Dr3 (Bt6 p)⟩
instance {p:ProcS}:PartC (D6 p) 8 8 (p.fds.map int):=⟨by
 have h:Nat.ble (8+8) (D6 p).length=true:=by rw [Bt6];rfl
 have e:((D6 p).drop 8).take 8=p.fds.map int:=by rw [show (D6 p).drop 8=p.fds.map int from rfl,List.take_of_length_le (by simp [p.len])]
 rw [Dq0,h,e];rfl⟩
instance {p:ProcS} {cs:List Value} [k:LenC cs 16]:SetsC cs 0 (D6 p) (D6 p):=⟨Bt7 k.ok (Bt6 p) (Ht8 p)⟩
instance {p:ProcS}:SameC (.agg ⟨D6 p⟩):=⟨Dr4 (by simp [D6])⟩
def Er9 (n w:Int):Bool:=Eh2 .i64 n 65534==0 && B4 .i64 n w==0
def okS (p:ProcS):Bool :=
 !(decide (p.state<1) || decide (p.state>3) || decide (p.parent<0) || decide (p.parent>8) || decide (p.group<0) || decide (p.group≥8) || decide (p.code<0) || decide (p.code>255)) &&
 (!(!Er9 p.pending 0 || !Er9 p.mask 16896 || !Er9 p.ignored 16896 || !Er9 p.caught 16896 || B4 .i64 p.ignored p.caught != 0) &&
 (!(p.fds.any fun f=>decide (f<0) || decide (f>12)) &&
 (if p.state=2 then p.pending==0 && decide (p.fds=Gq8) else p.code==0)))
def hi2 (n:Int):UInt8:=if 0≤n∧n≤65535 then b8 (n / 256) else 0
def lo2 (n:Int):UInt8:=if 0≤n∧n≤65535 then b8 n else 0
abbrev put2 (n:Int):List UInt8:=[hi2 n,lo2 n]
def D37 (p:ProcS):List UInt8:=[b8 p.state,b8 p.parent,b8 p.group,b8 p.code]++(put2 p.pending++(put2 p.mask++(put2 p.ignored++(put2 p.caught++(p.fds.map b8++[167])))))
theorem H21 (n:Int):(put2 n).length=2:=rfl
theorem Hw2 (p:ProcS):(D37 p).length=21:=by simp [D37,H21,p.len]
def At4 (p:ProcS):List UInt8:=D37 p++[Bt1 (D37 p),0,0]
theorem D93 (p:ProcS):(At4 p).length=24:=by simp [At4,Hw2]
theorem Ib0 (n w:Int):CtP A7 Ai7 [int n,int w] [] (.bool (Er9 n w)):=by
 refine CtP.of Gz0 rfl fun h r=>Tr.eq (G10 ..) ?_;refine Je ?_
 exact Jz
instance {n w:Int} {l:List HP}:PCi A7 Ai7 [.int .i64 n,.int .i64 w] l (.bool (Er9 n w)):=PCi.of (Ib0 n w)
theorem H73 (f:Int):CtP A7 Bf6 [int f] [] (.bool (decide (f<0) || decide (f>12))):=by
 refine CtP.of G38 rfl fun h r=>Tr.eq (G27 ..) ?_;refine Je ?_
 exact Jz
theorem E37 (p:HP) (a:Option Addr) (ro:Bool) (c:Nat) (l:List Int) (g:FuncId) (f:Int→Bool) {e:TypeId} [ks:IsSl p a ro e 1 l.length c (l.map int)] (hl:l.length≤A8) (hf:∀ x,CtP A7 g [int x] [] (.bool (f x))):∀ (m i:Nat),l.length-i=m→i≤l.length →
  U1 G2 D1 M6 [(0,.slice a l.length c),(1,.func (.func g) ⟨[]⟩ ⟨[]⟩),(7,int l.length),(8,int i)] [p] (int (Bo8 f i (l.drop i))):=by
 intro m
 induction m with
 | zero =>
  intro i hm hi
  refine U1.of L0 fun h r=>Tr.eq (Q4 ..) ?_;refine Je ?_
  refine Yf (by simp;omega) ?_
  refine Ys fun o=>?_
  rw [List.drop_eq_nil_of_le (by omega)];exact ⟨rfl,rfl⟩
 | succ m ih =>
  intro i hm hi
  have hlt:i<l.length:=by omega
  have hp:l[i]?=some l[i]:=List.getElem?_eq_getElem hlt
  have hd:l.drop i=l[i]::l.drop (i+1):=List.drop_eq_getElem_cons hlt
  generalize l[i]=x at hp hd
  have e1:IntKind.wrap .i64 ((i:Int)+1)=((i+1:Nat):Int):=by rw [A6];simp only [A8] at hl;omega
  refine U1.of L0 fun h r=>Tr.eq (Q4 ..) ?_;refine Je ?_
  refine Yt (by simp;omega) ?_
  (refine Ja ?_;unhygienic intros;repeat(refine Gw ?_;rintro px rfl;refine Ja ?_;unhygienic intros))
  refine Tr.xIntS (v:=x) (by simp [hp]) ?_
  (refine Ja ?_;unhygienic intros)
  refine Tr.pcall (hf x) ?_
  cases hx:f x with
  | true =>
   (refine Ja ?_;unhygienic intros)
   refine Ys fun o=>?_
   rw [hd,Bo8,if_pos hx];exact ⟨by first|rfl|trivial,by first|rfl|trivial⟩
  | false =>
   (refine Ja ?_;unhygienic intros)
   rw [e1]
   refine W9 (ih (i+1) (by omega) (by omega)) (r:=r) (by simp) fun o=>?_
   rw [hd,Bo8,if_neg (by simp [hx])];exact ⟨by first|rfl|trivial,by first|rfl|trivial⟩
theorem E05 (p:HP) (a:Option Addr) (ro:Bool) (c:Nat) (l:List Int) (g:FuncId) (f:Int→Bool) {e:TypeId} [ks:IsSl p a ro e 1 l.length c (l.map int)] (hl:l.length≤A8) (hf:∀ x,CtP A7 g [int x] [] (.bool (f x))) :
  CtP A7 E0 [.slice a l.length c,.func (.func g) ⟨[]⟩ ⟨[]⟩] [p] (.bool (l.any f)):=by
 have j:CtP A7 D1 [.slice a l.length c,.func (.func g) ⟨[]⟩ ⟨[]⟩] [p] (int (Bo8 f 0 l)):=by
  refine CtP.of L0 rfl fun h r=>Tr.eq (A36 ..) ?_;refine Je ?_
  exact W9 (E37 p a ro c l g f hl hf _ 0 rfl (by omega)) (r:=r) (by simp) fun o=>⟨rfl,rfl⟩
 refine CtP.of As8 rfl fun h r=>Tr.eq (As7 ..) ?_;refine Je ?_
 refine Bu4 j (r:=r) (by simp) ?_
 (refine Ja ?_;unhygienic intros)
 refine Ys fun o=>?_
 rw [En6];exact ⟨by first|rfl|trivial,by first|rfl|trivial⟩
theorem Gx8:∀ (l m:List Int),l.length=m.length→eqs (l.map int) (m.map int)=some (decide (l=m))
 | [],[],_=>rfl
 | [],_::_,h=>by simp at h
 | _::_,[],h=>by simp at h
 | a::l,b::m,h=>by
  have ih:=Gx8 l m (by simpa using h)
  simp only [List.map_cons,eqs,eq1,decide_true,ih]
  by_cases h1:a=b<;>by_cases h2:l=m<;>simp [h1,h2]
theorem Ez1:∀ (l:List Int),G1 (List.replicate l.length (TypeDesc.int .i64)) (l.map int)=true
 | []=>rfl
 | a::l=>by
  have:=Ez1 l
  simp only [List.length_cons,List.replicate_succ,List.map_cons,G1,decide_true,this,Bool.and_self]
theorem eq8 {α:Type} (l m:List Int) (hl:l.length=8) (hm:m.length=8) (k:Bool→Option α):Bi8 PR Aj3 (l.map int) (m.map int) k=k (decide (l=m)):=by
 have e:Ah8 PR 8 Aj3=some (List.replicate 8 (TypeDesc.int .i64)):=by kernel_rfl
 have f1:=Ez1 l;have f2:=Ez1 m
 rw [hl] at f1;rw [hm] at f2
 rw [Bi8,e]
 simp only [f1,f2,Gx8 l m (by omega),Bool.and_self,ckB,cond_true,eqK]
theorem Ic6 (p:ProcS):Ct A7 Dg5 [.agg ⟨D6 p⟩] [] fun v own=>v=.bool (okS p)∧own []:=by
 have h8:=p.len
 refine Ct.of Hn4 rfl fun h r=>Tr.eq (Hj7 ..) ?_;refine Je ?_
 (refine Ja ?_;unhygienic intros)
 refine Tr.cond (fun h1=>?_) fun h1=>?_
 ·refine Ys fun o=>?_
  refine ⟨?_,o.sub⟩
  unfold okS;rw [h1];rfl
 (refine Ja ?_;unhygienic intros)
 refine Tr.cond (fun h2=>?_) fun h2=>?_
 ·refine Ys fun o=>?_
  refine ⟨?_,o.sub⟩
  unfold okS;rw [h1,h2];rfl
 (refine Ja ?_;unhygienic intros)
 refine Gf7 0 rfl [int p.state,int p.parent,int p.group,int p.code,int p.pending,int p.mask,int p.ignored,int p.caught] (p.fds.map int) [] (by simp [D6]) 1 8 8 8 ⟨by simp [h8],by omega,by simp,by simp [D6],by omega,by omega⟩ ?_
 refine Je ?_
 have J:=E05 (e:=B9) (slX false B9 1 (some ⟨b,8,none⟩) p.fds.length 8 ([int p.state,int p.parent,int p.group,int p.code,int p.pending,int p.mask,int p.ignored,int p.caught],[]) (p.fds.map int)) (some ⟨b,8,none⟩) false 8 p.fds Bf6 (fun f=>decide (f<0) || decide (f>12)) (by rw [h8];simp [A8]) H73
 rw [h8] at J
 refine Tr.pcall (J) ?_;refine Je ?_;(refine Ja ?_;unhygienic intros)
 refine Em9 0 rfl (D6 p) (by simp [D6]) ?_
 refine Je ?_
 cases h3:p.fds.any fun f=>decide (f<0) || decide (f>12) with
 | true =>
  (refine Ja ?_;unhygienic intros)
  refine Ys fun o=>?_
  refine ⟨?_,o.sub⟩
  unfold okS;rw [h1,h2,h3];rfl
 | false =>
  (refine Ja ?_;unhygienic intros)
  have e:okS p=if p.state=2 then p.pending==0 && decide (p.fds=Gq8) else p.code==0:=by unfold okS;rw [h1,h2,h3];rfl
  rw [e]
  by_cases h4:p.state=2
  ·refine Yt (by simpa using h4) ?_
   rw [if_pos h4]
   (repeat' first|refine Gu ?_|(with_reducible first|refine Gn fun b h=>?_|apply Gx|apply Gy|rintro px rfl|apply Gw|refine fun(h:H)=>?_|intro hb)|refine Gs ?_|refine Gt ?_|exact Gz rfl|fail)
   rw [show ([int 0,int 0,int 0,int 0,int 0,int 0,int 0,int 0]:List Value)=Gq8.map int from rfl,eq8 _ _ h8 rfl]
   (repeat' first|refine Gu ?_|(with_reducible first|refine Gn fun b h=>?_|apply Gx|apply Gy|rintro px rfl|apply Gw|refine fun(h:H)=>?_|intro hb)|refine Gs ?_|refine Gt ?_|exact Gz rfl|fail)
   refine Ys fun o=>?_
   exact ⟨rfl,o.sub⟩
  ·refine Yf (by simpa using h4) ?_
   rw [if_neg h4]
   (refine Ja ?_;unhygienic intros)
   refine Ys fun o=>?_
   exact ⟨rfl,o.sub⟩
theorem H94 (a:Option Addr) (c:Nat) (cs:List Value) (j:Nat) (n:Int) (hj:j+2≤cs.length) (hm:cs.length≤A8):Ct A7 Be0 [.slice a cs.length c,int j,int n] [slC false A3 1 a cs.length c cs] fun v own =>
  (∃ ok,v=.bool ok)∧own [slC false A3 1 a cs.length c (if 0≤n∧n≤65535 then (cs.set j (.int .u8 ((b8 (n / 256)).toNat:Int))).set (j+1) (.int .u8 ((b8 n).toNat:Int)) else cs)]:=by
 simp only [A8] at hm
 have e1:IntKind.wrap .i64 ((cs.length:Int)-2)=(cs.length:Int)-2:=by rw [A6];omega
 have e2:IntKind.wrap .i64 ((j:Int)+1)=((j+1:Nat):Int):=by rw [A6];omega
 refine Ct.of Gv7 rfl fun h r=>Tr.eq (Gs9 ..) ?_;refine Je ?_
 rw [e1,e2]
 (refine Ja ?_;unhygienic intros)
 by_cases h:0≤n∧n≤65535
 ·refine Yf (by simp;omega) ?_
  rw [if_pos h]
  (refine Ja ?_;unhygienic intros;repeat(refine Gw ?_;rintro px rfl;refine Ja ?_;unhygienic intros))
  rw [Int.toNat_natCast,show Int.fdiv n (2 ^ 8)=n / 256 by rw [Int.fdiv_eq_ediv_of_nonneg _ (by omega)];rfl,Bf0,Bf0]
  refine Je ?_
  refine Tr.xVS (cs':=cs.set j (.int .u8 ((b8 (n / 256)).toNat:Int))) ⟨by omega,rfl,rfl⟩ fun h=>?_
  (refine Ja ?_;unhygienic intros)
  rw [Int.toNat_natCast]
  refine Je ?_
  refine Tr.xVS (cs':=(cs.set j (.int .u8 ((b8 (n / 256)).toNat:Int))).set (j+1) (.int .u8 ((b8 n).toNat:Int))) ⟨by simp;omega,rfl,rfl⟩ fun h=>?_
  refine Ys fun o=>?_
  exact ⟨⟨_,rfl⟩,o.sub⟩
 ·refine Yt (by simp;omega) ?_
  rw [if_neg h]
  refine Ys fun o=>?_
  exact ⟨⟨_,rfl⟩,o.sub⟩
theorem D14 (l:List UInt8) (j:Nat) (x:UInt8):(A0 l).set j (.int .u8 (x.toNat:Int))=A0 (l.set j x):=by simp [A0,List.map_set]
theorem D77 (a:Option Addr) (c m:Nat) (l:List UInt8) (j:Nat) (n:Int) (hm:l.length=m) (hj:j+2≤m) (h1:l[j]?=some 0) (h2:l[j+1]?=some 0) (hl:m≤A8):Ct A7 Be0 [.slice a m c,int j,int n] [slC false A3 1 a m c (A0 l)] fun v own =>
  (∃ ok,v=.bool ok)∧own [slC false A3 1 a m c (A0 ((l.set j (hi2 n)).set (j+1) (lo2 n)))]:=by
 subst hm
 have J:=H94 a c (A0 l) j n (by rw [S8];omega) (by rw [S8];omega)
 rw [S8] at J
 have e:(if 0≤n∧n≤65535 then ((A0 l).set j (.int .u8 ((b8 (n / 256)).toNat:Int))).set (j+1) (.int .u8 ((b8 n).toNat:Int)) else A0 l)=A0 ((l.set j (hi2 n)).set (j+1) (lo2 n)):=by
  unfold hi2 lo2
  split
  ·rw [D14,D14]
  ·rw [Ee5 h1,Ee5 h2]
 rw [e] at J
 exact J
def two (l:List UInt8) (j:Nat):Int:=byI l j*256+byI l (j+1)
theorem If6 (x y:UInt8):Hi0 .i64 (IntKind.wrap .i64 (IntKind.wrap .i64 (x.toNat:Int)*2 ^ 8)) (IntKind.wrap .i64 (y.toNat:Int))=(x.toNat:Int)*256+y.toNat:=by
 have hx:=x.toNat_lt;have hy:=y.toNat_lt
 have e1:IntKind.wrap .i64 (IntKind.wrap .i64 (x.toNat:Int)*2 ^ 8)=((x.toNat*256:Nat):Int):=by rw [Al3,A6];omega
 rw [e1,Al3]
 unfold Hi0
 have e0:IntKind.bits .i64=64:=rfl
 rw [e0,BitVec.ofInt_natCast,BitVec.ofInt_natCast,BitVec.toNat_or,BitVec.toNat_ofNat,BitVec.toNat_ofNat,Nat.mod_eq_of_lt (by omega),Nat.mod_eq_of_lt (by omega)]
 have e2:x.toNat*256 ||| y.toNat=x.toNat*256+y.toNat:=by
  have:=Nat.two_pow_add_eq_or_of_lt (i:=8) (b:=y.toNat) (by omega) x.toNat
  rw [show 2 ^ 8*x.toNat=x.toNat*256 by omega] at this
  exact this.symm
 rw [e2,A6];omega
theorem Eq1 (a:Option Addr) (c n:Nat) (l:List UInt8) (j:Nat) (hn:l.length=n) (hj:j+2≤n) (hm:n≤A8):CtP A7 B00 [.slice a n c,int j] [slC false A3 1 a n c (A0 l)] (.tuple ⟨[int (two l j),.bool true]⟩):=by
 simp only [A8] at hm
 have e1:IntKind.wrap .i64 ((n:Int)-2)=(n:Int)-2:=by rw [A6];omega
 have e2:IntKind.wrap .i64 ((j:Int)+1)=((j+1:Nat):Int):=by rw [A6];omega
 refine CtP.of Gx7 rfl fun h r=>Tr.eq (Gx5 ..) ?_;refine Je ?_
 rw [e1,e2]
 (refine Ja ?_;unhygienic intros)
 refine Yf (by simp;omega) ?_
 (refine Ja ?_;unhygienic intros;repeat(refine Gw ?_;rintro px rfl;refine Ja ?_;unhygienic intros))
 rw [Int.toNat_natCast]
 refine Je ?_
 refine Tr.xIntS (v:=byI l j) (Ab7 (by omega)) ?_
 (refine Ja ?_;unhygienic intros)
 rw [Int.toNat_natCast]
 refine Je ?_
 refine Tr.xIntS (v:=byI l (j+1)) (Ab7 (by omega)) ?_
 refine Ys fun o=>?_
 rw [If6];exact ⟨rfl,rfl⟩
theorem H81 (a:Option Addr) (c:Nat) (p:ProcS):Ct A7 N4 [.agg ⟨D6 p⟩,.slice a 24 c] [slC false A3 1 a 24 c (A0 (List.replicate 24 0))] fun v own=>v=.bool (okS p)∧own [slC false A3 1 a 24 c (A0 (if okS p then At4 p else List.replicate 24 0))]:=by
 refine Ct.of H0 rfl fun h r=>Tr.eq (G61 ..) ?_;refine Je ?_
 refine Yn fun b1 h=>?_
 (refine Ja ?_;unhygienic intros)
 refine Yc (Ic6 p) ?_;rintro _ h ⟨rfl,o⟩<;>(refine Jf o ?_;unhygienic intros)
 cases hk:okS p with
 | false =>
  (refine Ja ?_;unhygienic intros)
  refine Ys fun o=>?_
  rw [if_neg (by simp)]
  exact ⟨rfl,o.sub⟩
 | true =>
  simp only [if_true]
  obtain ⟨st,pa,gr,co,pe,ma,ig,ca,fds,len⟩:=p
  match fds,len with
  | [f0,f1,f2,f3,f4,f5,f6,f7],len =>
  (refine Ja ?_;unhygienic intros)
  rename_i b2 h2
  refine Ab5 2 rfl fun hl hc _=>?_
  simp only [List.map]
  refine Tr.jmp H0 (Tr.eq (A24 ..) ?_);(try simp only[Nr,Nl,wl,Nat.reduceAdd,Nat.reduceMul,Int.reduceToNat])
  (refine Jd ?_;unhygienic intros;repeat(refine Gw ?_;rintro px rfl;refine Jd ?_;unhygienic intros))
  refine Tr.jmp H0 (Tr.eq (A24 ..) ?_);(try simp only[Nr,Nl,wl,Nat.reduceAdd,Nat.reduceMul,Int.reduceToNat])
  (refine Jd ?_;unhygienic intros)
  refine Tr.jmp H0 (Tr.eq (A24 ..) ?_);(try simp only[Nr,Nl,wl,Nat.reduceAdd,Nat.reduceMul,Int.reduceToNat])
  (refine Jd ?_;unhygienic intros)
  refine Tr.jmp H0 (Tr.eq (A24 ..) ?_);(try simp only[Nr,Nl,wl,Nat.reduceAdd,Nat.reduceMul,Int.reduceToNat])
  (refine Jd ?_;unhygienic intros)
  refine Tr.jmp H0 (Tr.eq (A24 ..) ?_);(try simp only[Nr,Nl,wl,Nat.reduceAdd,Nat.reduceMul,Int.reduceToNat])
  (refine Jd ?_;unhygienic intros)
  simp only [Bf0,D14,List.replicate,List.set_cons_zero,List.set_cons_succ,Nat.mul_one]
  refine Tr.jmp H0 (Tr.eq (A22 ..) ?_);(try simp only[Nr,Nl,wl,Nat.reduceAdd,Nat.reduceMul,Int.reduceToNat])
  (refine Jd ?_;unhygienic intros)
  refine Yc (D77 (some px) c 24 [b8 st,b8 pa,b8 gr,b8 co,0,0,0,0,0,0,0,0,0,0,0,0,0,0,0,0,0,0,0,0] 4 pe rfl (by omega) rfl rfl (by simp [A8])) ?_;rintro _ h ⟨⟨_,rfl⟩,o⟩<;>(refine Jf o ?_;unhygienic intros)
  refine Tr.jmp H0 (Tr.eq (A22 ..) ?_);(try simp only[Nr,Nl,wl,Nat.reduceAdd,Nat.reduceMul,Int.reduceToNat])
  (refine Jd ?_;unhygienic intros)
  refine Yc (D77 (some px) c 24 [b8 st,b8 pa,b8 gr,b8 co,hi2 pe,lo2 pe,0,0,0,0,0,0,0,0,0,0,0,0,0,0,0,0,0,0] 6 ma rfl (by omega) rfl rfl (by simp [A8])) ?_;rintro _ h ⟨⟨_,rfl⟩,o⟩<;>(refine Jf o ?_;unhygienic intros)
  refine Tr.jmp H0 (Tr.eq (A22 ..) ?_);(try simp only[Nr,Nl,wl,Nat.reduceAdd,Nat.reduceMul,Int.reduceToNat])
  (refine Jd ?_;unhygienic intros)
  refine Yc (D77 (some px) c 24 [b8 st,b8 pa,b8 gr,b8 co,hi2 pe,lo2 pe,hi2 ma,lo2 ma,0,0,0,0,0,0,0,0,0,0,0,0,0,0,0,0] 8 ig rfl (by omega) rfl rfl (by simp [A8])) ?_;rintro _ h ⟨⟨_,rfl⟩,o⟩<;>(refine Jf o ?_;unhygienic intros)
  refine Tr.jmp H0 (Tr.eq (A22 ..) ?_);(try simp only[Nr,Nl,wl,Nat.reduceAdd,Nat.reduceMul,Int.reduceToNat])
  (refine Jd ?_;unhygienic intros)
  refine Yc (D77 (some px) c 24 [b8 st,b8 pa,b8 gr,b8 co,hi2 pe,lo2 pe,hi2 ma,lo2 ma,hi2 ig,lo2 ig,0,0,0,0,0,0,0,0,0,0,0,0,0,0] 10 ca rfl (by omega) rfl rfl (by simp [A8])) ?_;rintro _ h ⟨⟨_,rfl⟩,o⟩<;>(refine Jf o ?_;unhygienic intros)
  refine Tr.jmp H0 (Tr.eq (A22 ..) ?_);(try simp only[Nr,Nl,wl,Nat.reduceAdd,Nat.reduceMul,Int.reduceToNat])
  (refine Jd ?_;unhygienic intros)
  refine Tr.jmp H0 (Tr.eq (W4 ..) ?_);(try simp only[Nr,Nl,wl,Nat.reduceAdd,Nat.reduceMul,Int.reduceToNat])
  (refine Jd ?_;unhygienic intros)
  refine Tr.jmp H0 (Tr.eq (W4 ..) ?_);(try simp only[Nr,Nl,wl,Nat.reduceAdd,Nat.reduceMul,Int.reduceToNat])
  (refine Jd ?_;unhygienic intros)
  refine Tr.jmp H0 (Tr.eq (W4 ..) ?_);(try simp only[Nr,Nl,wl,Nat.reduceAdd,Nat.reduceMul,Int.reduceToNat])
  (refine Jd ?_;unhygienic intros)
  refine Tr.jmp H0 (Tr.eq (W4 ..) ?_);(try simp only[Nr,Nl,wl,Nat.reduceAdd,Nat.reduceMul,Int.reduceToNat])
  (refine Jd ?_;unhygienic intros)
  refine Tr.jmp H0 (Tr.eq (W4 ..) ?_);(try simp only[Nr,Nl,wl,Nat.reduceAdd,Nat.reduceMul,Int.reduceToNat])
  (refine Jd ?_;unhygienic intros)
  refine Tr.jmp H0 (Tr.eq (W4 ..) ?_);(try simp only[Nr,Nl,wl,Nat.reduceAdd,Nat.reduceMul,Int.reduceToNat])
  (refine Jd ?_;unhygienic intros)
  refine Tr.jmp H0 (Tr.eq (W4 ..) ?_);(try simp only[Nr,Nl,wl,Nat.reduceAdd,Nat.reduceMul,Int.reduceToNat])
  (refine Jd ?_;unhygienic intros)
  refine Tr.jmp H0 (Tr.eq (W4 ..) ?_);(try simp only[Nr,Nl,wl,Nat.reduceAdd,Nat.reduceMul,Int.reduceToNat])
  (refine Jd ?_;unhygienic intros)
  refine Tr.jmp H0 (Tr.eq (W4 ..) ?_);(try simp only[Nr,Nl,wl,Nat.reduceAdd,Nat.reduceMul,Int.reduceToNat])
  (refine Jd ?_;unhygienic intros)
  simp only [Bf0,D14,List.set_cons_zero,List.set_cons_succ,Nat.mul_one]
  rw [show (.int .u8 167:Value)=.int .u8 ((167:UInt8).toNat:Int) from rfl,D14]
  simp only [List.set_cons_zero,List.set_cons_succ]
  refine Tr.pcall (E56 (slC false A3 1 (some px) 24 c (A0 [b8 st,b8 pa,b8 gr,b8 co,hi2 pe,lo2 pe,hi2 ma,lo2 ma,hi2 ig,lo2 ig,hi2 ca,lo2 ca,b8 f0,b8 f1,b8 f2,b8 f3,b8 f4,b8 f5,b8 f6,b8 f7,167,0,0,0])) (some px) false 24 c c [b8 st,b8 pa,b8 gr,b8 co,hi2 pe,lo2 pe,hi2 ma,lo2 ma,hi2 ig,lo2 ig,hi2 ca,lo2 ca,b8 f0,b8 f1,b8 f2,b8 f3,b8 f4,b8 f5,b8 f6,b8 f7,167,0,0,0] 21 (by simp) (by simp [A8])) ?_
  refine Je ?_
  (refine Ja ?_;unhygienic intros)
  rw [Dl0]
  (refine Jd ?_;unhygienic intros)
  refine Ys fun o=>?_
  rw [D14] at o
  simp only [List.set_cons_zero,List.set_cons_succ] at o
  simp only [At4,D37,put2,List.map,List.cons_append,List.nil_append]
  exact ⟨trivial,o.sub⟩
abbrev Ey3 (k:Nat):HP:=pt k (.cells Bo5 false [int 24,.func (.func N4) ⟨[]⟩ ⟨[]⟩,.func (.func V8) ⟨[]⟩ ⟨[]⟩])
theorem G49 (k:Nat) (f:ProcS):Ct A7 U6 [P0 k,.agg ⟨D6 f⟩] [Ey3 k] fun v own=>(okS f=true∧∃ a,v=.tuple ⟨[.slice a 24 24,.bool true]⟩∧own [Ey3 k,slC false A3 1 a 24 24 (A0 (At4 f))])∨(okS f=false∧v=.tuple ⟨[.slice none 0 0,.bool false]⟩∧own [Ey3 k]):=by
 refine Ct.of B09 rfl fun h r=>Tr.eq (B15 ..) ?_;refine Je ?_
 (refine Ja ?_;unhygienic intros)
 refine Tr.ck ⟨by omega,by omega,by simp [A8]⟩ ?_
 refine Yn fun b1 h=>?_
 rw [show G7 (Int.toNat 24) [.int .u8 0]=A0 (List.replicate 24 0) from rfl]
 refine Ah2 0 rfl 1 24 rfl (by omega) ?_
 simp only [List.set_cons_zero]
 refine Je ?_
 (refine Jb ?_;unhygienic intros)
 refine Yb (Yf rfl ?_)
 (refine Jb ?_;unhygienic intros)
 refine Yc (H81 (some ⟨b1,0,none⟩) 24 f) ?_;rintro _ h ⟨rfl,o⟩<;>(refine Jg o ?_;unhygienic intros)
 refine Ys fun o=>(?_:Tr _ _ _ _) o;refine Je ?_
 cases hk:okS f with
 | false =>
  (refine Ja ?_;unhygienic intros)
  refine Ys fun o=>?_
  exact .inr ⟨rfl,rfl,o.sub⟩
 | true =>
  (refine Ja ?_;unhygienic intros)
  refine Ys fun o=>?_
  simp only [if_true] at o
  exact .inl ⟨rfl,_,rfl,o.sub⟩
theorem Ia4:Ct A7 An5 [int 24,.func (.func N4) ⟨[]⟩ ⟨[]⟩,.func (.func V8) ⟨[]⟩ ⟨[]⟩] [] fun v own=>∃ k,v=P0 k∧own [Ey3 k]:=by
 refine Ct.of D51 rfl fun h r=>Tr.eq (D41 ..) ?_;refine Je ?_
 rw [show mm2 false (mm2 true 24 0) 64=24 from rfl]
 (refine Ja ?_;unhygienic intros)
 refine Ys fun o=>?_
 exact ⟨_,rfl,o.sub⟩
theorem Gh4:Ct A7 A88 [] [] fun v own=>∃ k,v=P0 k∧own [Ey3 k]:=by
 refine Ct.of Gp1 rfl fun h r=>Tr.eq (Go6 ..) ?_;refine Je ?_
 refine Yc (Ia4) ?_;rintro _ h ⟨k,rfl,o⟩<;>(refine Jf o ?_;unhygienic intros)
 refine Ys fun o=>?_
 exact ⟨_,rfl,o.sub⟩
theorem E93 (f:ProcS):Ct A7 A29 [.agg ⟨D6 f⟩] [] fun v own=>(okS f=true∧∃ a,v=.tuple ⟨[.slice a 24 24,.bool true]⟩∧own [slC false A3 1 a 24 24 (A0 (At4 f))])∨(okS f=false∧v=.tuple ⟨[.slice none 0 0,.bool false]⟩∧own []):=by
 refine Ct.of Gc6 rfl fun h r=>Tr.eq (Gg6 ..) ?_;refine Je ?_
 (refine Ja ?_;unhygienic intros)
 refine Yc (Gh4) ?_;rintro _ h ⟨k,rfl,o⟩<;>(refine Jg o ?_;unhygienic intros)
 refine Yc (G49 k f) ?_
 rintro v h (⟨hk,a,rfl,o⟩|⟨hk,rfl,o⟩)
 ·refine (?_:Tr _ _ _ _) o
  refine Je ?_
  (refine Ja ?_;unhygienic intros)
  refine Ys fun o=>?_
  exact .inl ⟨hk,a,rfl,o.sub⟩
 ·refine (?_:Tr _ _ _ _) o
  refine Je ?_
  (refine Ja ?_;unhygienic intros)
  refine Ys fun o=>?_
  exact .inr ⟨hk,rfl,o.sub⟩
def Ba8 (l:List UInt8):ProcS:=⟨byI l 0,byI l 1,byI l 2,byI l 3,two l 4,two l 6,two l 8,two l 10,[byI l 12,byI l 13,byI l 14,byI l 15,byI l 16,byI l 17,byI l 18,byI l 19],rfl⟩
def isS (l:List UInt8):Bool:=okS (Ba8 l) && decide (At4 (Ba8 l)=l)
theorem H80 (a:Option Addr) (c:Nat) (l:List UInt8) (hl:l.length=24):Ct A7 V8 [.slice a 24 c] [slC false A3 1 a 24 c (A0 l)] fun v own=>v=.tuple ⟨[.agg ⟨D6 (Ba8 l)⟩,.bool (isS l)]⟩∧own [slC false A3 1 a 24 c (A0 l)]:=by
 have key:∀ a1:Option Addr,CtP A7 B8 [.slice a1 24 24,.slice a 24 c] [slC false A3 1 a1 24 24 (A0 (At4 (Ba8 l))),slC false A3 1 a 24 c (A0 l)] (.bool (decide (At4 (Ba8 l)=l))):=fun a1=>by
  have e:=D93 (Ba8 l)
  have J:=Ee8 (slC false A3 1 a1 (At4 (Ba8 l)).length 24 (A0 (At4 (Ba8 l)))) (slC false A3 1 a l.length c (A0 l)) a1 false 24 a false c (At4 (Ba8 l)) l (by rw [e];simp [A8])
  rwa [hl,e] at J
 refine Ct.of N6 rfl fun h r=>Tr.eq (G98 ..) ?_;refine Je ?_
 refine Yn fun b1 h=>?_
 refine Ab5 1 rfl fun hl2 hc2 _=>?_
 (refine Ja ?_;unhygienic intros;repeat(refine Gw ?_;rintro px rfl;refine Ja ?_;unhygienic intros))
 refine Tr.xIntS (v:=byI l 0) (Ab7 (by omega)) ?_
 (refine Ja ?_;unhygienic intros)
 refine Tr.xIntS (v:=byI l 1) (Ab7 (by omega)) ?_
 (refine Ja ?_;unhygienic intros)
 refine Tr.xIntS (v:=byI l 2) (Ab7 (by omega)) ?_
 (refine Ja ?_;unhygienic intros)
 refine Tr.xIntS (v:=byI l 3) (Ab7 (by omega)) ?_
 (refine Ja ?_;unhygienic intros)
 simp only [byI,Al3]
 refine Tr.jmp N6 (Tr.eq (A12 ..) ?_);(try simp only[Nr,Nl,wl,Nat.reduceAdd,Nat.reduceMul,Int.reduceToNat])
 (refine Jd ?_;unhygienic intros)
 refine Tr.pcall (Eq1 (some px) c 24 l 4 hl (by omega) (by simp [A8])) ?_;refine Je ?_;(refine Ja ?_;unhygienic intros)
 refine Tr.jmp N6 (Tr.eq (A12 ..) ?_);(try simp only[Nr,Nl,wl,Nat.reduceAdd,Nat.reduceMul,Int.reduceToNat])
 (refine Jd ?_;unhygienic intros)
 refine Tr.pcall (Eq1 (some px) c 24 l 6 hl (by omega) (by simp [A8])) ?_;refine Je ?_;(refine Ja ?_;unhygienic intros)
 refine Tr.jmp N6 (Tr.eq (A12 ..) ?_);(try simp only[Nr,Nl,wl,Nat.reduceAdd,Nat.reduceMul,Int.reduceToNat])
 (refine Jd ?_;unhygienic intros)
 refine Tr.pcall (Eq1 (some px) c 24 l 8 hl (by omega) (by simp [A8])) ?_;refine Je ?_;(refine Ja ?_;unhygienic intros)
 refine Tr.jmp N6 (Tr.eq (A12 ..) ?_);(try simp only[Nr,Nl,wl,Nat.reduceAdd,Nat.reduceMul,Int.reduceToNat])
 (refine Jd ?_;unhygienic intros)
 refine Tr.pcall (Eq1 (some px) c 24 l 10 hl (by omega) (by simp [A8])) ?_;refine Je ?_;(refine Ja ?_;unhygienic intros)
 refine Tr.jmp N6 (Tr.eq (A12 ..) ?_);(try simp only[Nr,Nl,wl,Nat.reduceAdd,Nat.reduceMul,Int.reduceToNat])
 (refine Jd ?_;unhygienic intros)
 refine Tr.jmp N6 (Tr.eq (W5 ..) ?_);(try simp only[Nr,Nl,wl,Nat.reduceAdd,Nat.reduceMul,Int.reduceToNat])
 (refine Jd ?_;unhygienic intros)
 refine Tr.xIntS (v:=byI l 12) (Ab7 (by omega)) ?_
 (refine Jd ?_;unhygienic intros)
 simp only [byI,Al3]
 refine Tr.jmp N6 (Tr.eq (W5 ..) ?_);(try simp only[Nr,Nl,wl,Nat.reduceAdd,Nat.reduceMul,Int.reduceToNat])
 (refine Jd ?_;unhygienic intros)
 refine Tr.xIntS (v:=byI l 13) (Ab7 (by omega)) ?_
 (refine Jd ?_;unhygienic intros)
 simp only [byI,Al3]
 refine Tr.jmp N6 (Tr.eq (W5 ..) ?_);(try simp only[Nr,Nl,wl,Nat.reduceAdd,Nat.reduceMul,Int.reduceToNat])
 (refine Jd ?_;unhygienic intros)
 refine Tr.xIntS (v:=byI l 14) (Ab7 (by omega)) ?_
 (refine Jd ?_;unhygienic intros)
 simp only [byI,Al3]
 refine Tr.jmp N6 (Tr.eq (W5 ..) ?_);(try simp only[Nr,Nl,wl,Nat.reduceAdd,Nat.reduceMul,Int.reduceToNat])
 (refine Jd ?_;unhygienic intros)
 refine Tr.xIntS (v:=byI l 15) (Ab7 (by omega)) ?_
 (refine Jd ?_;unhygienic intros)
 simp only [byI,Al3]
 refine Tr.jmp N6 (Tr.eq (W5 ..) ?_);(try simp only[Nr,Nl,wl,Nat.reduceAdd,Nat.reduceMul,Int.reduceToNat])
 (refine Jd ?_;unhygienic intros)
 refine Tr.xIntS (v:=byI l 16) (Ab7 (by omega)) ?_
 (refine Jd ?_;unhygienic intros)
 simp only [byI,Al3]
 refine Tr.jmp N6 (Tr.eq (W5 ..) ?_);(try simp only[Nr,Nl,wl,Nat.reduceAdd,Nat.reduceMul,Int.reduceToNat])
 (refine Jd ?_;unhygienic intros)
 refine Tr.xIntS (v:=byI l 17) (Ab7 (by omega)) ?_
 (refine Jd ?_;unhygienic intros)
 simp only [byI,Al3]
 refine Tr.jmp N6 (Tr.eq (W5 ..) ?_);(try simp only[Nr,Nl,wl,Nat.reduceAdd,Nat.reduceMul,Int.reduceToNat])
 (refine Jd ?_;unhygienic intros)
 refine Tr.xIntS (v:=byI l 18) (Ab7 (by omega)) ?_
 (refine Jd ?_;unhygienic intros)
 simp only [byI,Al3]
 refine Tr.jmp N6 (Tr.eq (W5 ..) ?_);(try simp only[Nr,Nl,wl,Nat.reduceAdd,Nat.reduceMul,Int.reduceToNat])
 (refine Jd ?_;unhygienic intros)
 refine Tr.xIntS (v:=byI l 19) (Ab7 (by omega)) ?_
 (refine Jd ?_;unhygienic intros)
 simp only [byI,Al3]
 refine Tr.jmp N6 (Tr.eq (W5 ..) ?_);(try simp only[Nr,Nl,wl,Nat.reduceAdd,Nat.reduceMul,Int.reduceToNat])
 refine Yf rfl ?_
 refine Tr.xAgg (xs:=D6 (Ba8 l)) ⟨Nat.le_of_ble_eq_true rfl,rfl⟩ ?_
 refine Yc (E93 (Ba8 l)) ?_
 rintro v h (⟨hk,a1,rfl,o⟩|⟨hk,rfl,o⟩)
 ·refine (?_:Tr _ _ _ _) o
  refine Je ?_
  refine Tr.dx ?_
  refine Tr.dx ?_
  refine Tr.dx ?_
  refine Tr.xAgg (xs:=D6 (Ba8 l)) ⟨Nat.le_of_ble_eq_true rfl,rfl⟩ ?_
  refine Yb (Yt rfl ?_)
  refine Tr.pcall (key a1) ?_
  refine Tr.dx ?_
  refine Tr.xAgg (xs:=D6 (Ba8 l)) ⟨Nat.le_of_ble_eq_true rfl,rfl⟩ ?_
  (refine Ja ?_;unhygienic intros)
  refine Ys fun o=>(?_:Tr _ _ _ _) o;refine Je ?_
  (refine Ja ?_;unhygienic intros)
  refine Ys fun o=>?_
  exact ⟨by unfold isS;rw [hk,Bool.true_and],o.sub⟩
 ·refine (?_:Tr _ _ _ _) o
  refine Je ?_
  refine Tr.dx ?_
  refine Tr.dx ?_
  refine Tr.dx ?_
  refine Tr.xAgg (xs:=D6 (Ba8 l)) ⟨Nat.le_of_ble_eq_true rfl,rfl⟩ ?_
  (refine Ja ?_;unhygienic intros)
  refine Ys fun o=>?_
  exact ⟨by unfold isS;rw [hk];rfl,o.sub⟩
theorem Ha6 (k:Nat) (a:Option Addr) (c:Nat) (l:List UInt8) (hl:l.length=24):Ct A7 U5 [P0 k,.slice a 24 c] [Ey3 k,slC false A3 1 a 24 c (A0 l)] fun v own=>v=.tuple ⟨[.agg ⟨D6 (if isS l then Ba8 l else .zero)⟩,.bool (isS l)]⟩∧own [Ey3 k,slC false A3 1 a 24 c (A0 l)]:=by
 refine Ct.of B18 rfl fun h r=>Tr.eq (B08 ..) ?_;refine Je ?_
 (refine Ja ?_;unhygienic intros)
 refine Yf rfl ?_
 (refine Jb ?_;unhygienic intros)
 refine Yc (Em8 24 a c l hl (by simp [A8])) ?_;rintro _ h ⟨a1,c1,rfl,o⟩<;>(refine Jg o ?_;unhygienic intros)
 refine Yc (H80 a1 c1 l hl) ?_;rintro _ h ⟨rfl,o⟩<;>(refine Jg o ?_;unhygienic intros)
 cases hk:isS l with
 | false =>
  (refine Ja ?_;unhygienic intros)
  refine Ys fun o=>?_
  exact ⟨rfl,o.sub⟩
 | true =>
  (refine Ja ?_;unhygienic intros)
  refine Ys fun o=>?_
  exact ⟨rfl,o.sub⟩
def Y2 (l:List UInt8):ProcS × Int:=if l.all (·==0) then (.zero,0) else if isS l then (Ba8 l,1) else (.zero,2)
theorem Hi7 (a:Option Addr) (c:Nat) (l:List UInt8) (hl:l.length=24):Ct A7 A37 [.slice a 24 c] [slC false A3 1 a 24 c (A0 l)] fun v own=>v=.tuple ⟨[.agg ⟨D6 (Y2 l).1⟩,int (Y2 l).2]⟩∧own [slC false A3 1 a 24 c (A0 l)]:=by
 refine Ct.of Gg4 rfl fun h r=>Tr.eq (Gc2 ..) ?_;refine Je ?_
 refine Yn fun b1 h=>?_
 refine Yb (Yt rfl ?_)
 refine Tr.pcall (Ef0 24 a c l hl (by simp [A8])) ?_;refine Je ?_;(refine Jb ?_;unhygienic intros)
 refine Ys fun o=>(?_:Tr _ _ _ _) o;refine Je ?_
 cases hb:l.all (·==0) with
 | true =>
  (refine Ja ?_;unhygienic intros)
  refine Ys fun o=>?_
  exact ⟨by unfold Y2;rw [hb];rfl,o.sub⟩
 | false =>
  (refine Jb ?_;unhygienic intros)
  refine Yc (Gh4) ?_;rintro _ h ⟨k,rfl,o⟩<;>(refine Jg o ?_;unhygienic intros)
  refine Yc (Ha6 k a c l hl) ?_;rintro _ h ⟨rfl,o⟩<;>(refine Jg o ?_;unhygienic intros)
  cases hk:isS l with
  | false =>
   (refine Ja ?_;unhygienic intros)
   refine Ys fun o=>?_
   exact ⟨by unfold Y2;rw [hb,hk];rfl,o.sub⟩
  | true =>
   (refine Ja ?_;unhygienic intros)
   refine Ys fun o=>?_
   exact ⟨by unfold Y2;rw [hb,hk];rfl,o.sub⟩
def J8 (l:List UInt8) (a:Nat) (b:List UInt8):List UInt8:=l.take a++b++l.drop (a+b.length)
theorem Ad0 {l b:List UInt8} {a:Nat} (h:a+b.length≤l.length):(J8 l a b).length=l.length:=by simp [J8];omega
theorem Bh8 {l b:List UInt8} {a:Nat} (h:a+b.length≤l.length) (i:Nat):(J8 l a b)[i]?=if a≤i∧i<a+b.length then b[i-a]? else l[i]?:=by
 unfold J8
 by_cases h1:i<a
 ·rw [if_neg (by omega),List.append_assoc,List.getElem?_append_left (by simp;omega),List.getElem?_take,if_pos h1]
 ·rw [List.append_assoc,List.getElem?_append_right (by simp;omega),List.length_take,Nat.min_eq_left (by omega)]
  by_cases h2:i<a+b.length
  ·rw [if_pos ⟨by omega,h2⟩,List.getElem?_append_left (by omega)]
  ·rw [if_neg (by omega),List.getElem?_append_right (by omega),List.getElem?_drop];congr 1;omega
def slice (l:List UInt8) (a n:Nat):List UInt8:=(l.drop a).take n
theorem Bu5 (l:List UInt8) (a n i:Nat):(slice l a n)[i]?=if i<n then l[a+i]? else none:=by
 unfold slice;rw [List.getElem?_take];split
 ·rw [List.getElem?_drop]
 ·rfl
theorem Gk2 {l:List UInt8} {a n:Nat} (h:a+n≤l.length):(slice l a n).length=n:=by simp [slice];omega
abbrev Rg:=List (Nat × Nat)
def Ax4:List UInt8→Rg→List (List UInt8)→List UInt8
 | l,(lo,_)::rg,x::m=>Ax4 (J8 l lo x) rg m
 | l,_,_=>l
structure Fit (size:Nat) (rg:Rg) (m:List (List UInt8)):Prop where
 len:m.length=rg.length
 each:∀ (j lo n:Nat),rg[j]?=some (lo,n)→lo+n≤size∧∃ x,m[j]?=some x∧x.length=n
def RgOk (rg:Rg):Prop:=∀ (i j lo n lo' n':Nat),i≠j→rg[i]?=some (lo,n)→rg[j]?=some (lo',n')→lo+n≤lo'∨lo'+n'≤lo
theorem Fit.tail {size:Nat} {p:Nat × Nat} {rg:Rg} {x:List UInt8} {m:List (List UInt8)} (f:Fit size (p::rg) (x::m)):Fit size rg m:=⟨by simpa using f.len,fun j lo n h=>by simpa using f.each (j+1) lo n (by simpa using h)⟩
theorem Fit.head {size lo n:Nat} {rg:Rg} {x:List UInt8} {m:List (List UInt8)} (f:Fit size ((lo,n)::rg) (x::m)):lo+n≤size∧x.length=n:=by
 obtain ⟨h,y,hy,hl⟩:=f.each 0 lo n rfl
 simp at hy;subst hy;exact ⟨h,hl⟩
theorem RgOk.tail {p:Nat × Nat} {rg:Rg} (k:RgOk (p::rg)):RgOk rg:=fun i j lo n lo' n' hij hi hj=>k (i+1) (j+1) lo n lo' n' (by omega) (by simpa using hi) (by simpa using hj)
theorem Dm2:∀ {rg:Rg} {m:List (List UInt8)} {l:List UInt8},Fit l.length rg m→(Ax4 l rg m).length=l.length
 | [],m,l,f=>by simp [Ax4]
 | (lo,n)::rg,[],l,f=>by simp [Ax4]
 | (lo,n)::rg,x::m,l,f=>by
  have h:=f.head
  have e:=Ad0 (l:=l) (b:=x) (a:=lo) (by omega)
  unfold Ax4
  rw [Dm2 (by rw [e];exact f.tail),e]
theorem Dn8:∀ {rg:Rg} {m:List (List UInt8)} {l:List UInt8},Fit l.length rg m→∀ i,(∀ (j lo n:Nat),rg[j]?=some (lo,n)→i<lo∨lo+n≤i)→(Ax4 l rg m)[i]?=l[i]?
 | [],m,l,f,i,h=>by simp [Ax4]
 | (lo,n)::rg,[],l,f,i,h=>by simp [Ax4]
 | (lo,n)::rg,x::m,l,f,i,h=>by
  have h0:=f.head
  have e:=Ad0 (l:=l) (b:=x) (a:=lo) (by omega)
  unfold Ax4
  rw [Dn8 (by rw [e];exact f.tail) i (fun j lo' n' hj=>h (j+1) lo' n' (by simpa using hj)),Bh8 (by omega),if_neg]
  have:=h 0 lo n rfl;omega
theorem B40:∀ {rg:Rg} {m:List (List UInt8)} {l:List UInt8},Fit l.length rg m→RgOk rg→∀ (j lo n:Nat) (x:List UInt8),rg[j]?=some (lo,n)→m[j]?=some x→∀ i,i<n→(Ax4 l rg m)[lo+i]?=x[i]?
 | [],m,l,f,k,j,lo,n,x,h,hx,i,hi=>by simp at h
 | (lo0,n0)::rg,[],l,f,k,j,lo,n,x,h,hx,i,hi=>by simp at hx
 | (lo0,n0)::rg,x0::m,l,f,k,j,lo,n,x,h,hx,i,hi=>by
  have h0:=f.head
  have e:=Ad0 (l:=l) (b:=x0) (a:=lo0) (by omega)
  unfold Ax4
  cases j with
  | zero =>
   simp at h hx
   obtain ⟨rfl,rfl⟩:=h;subst hx
   rw [Dn8 (by rw [e];exact f.tail) (lo0+i) (fun j lo' n' hj=>by
    have:=k 0 (j+1) lo0 n0 lo' n' (by omega) rfl (by simpa using hj)
    omega),Bh8 (by omega),if_pos (by omega)]
   congr 1;omega
  | succ j=>exact B40 (by rw [e];exact f.tail) k.tail j lo n x (by simpa using h) (by simpa using hx) i hi
theorem Hm5 {rg:Rg} {m:List (List UInt8)} {l:List UInt8} (f:Fit l.length rg m) (k:RgOk rg) {j lo n:Nat} {x:List UInt8} (h:rg[j]?=some (lo,n)) (hx:m[j]?=some x) {a c:Nat} (hc:a+c≤n):slice (Ax4 l rg m) (lo+a) c=slice x a c:=by
 refine List.ext_getElem? fun i=>?_
 rw [Bu5,Bu5]
 split
 ·rw [Nat.add_assoc,B40 f k j lo n x h hx (a+i) (by omega)]
 ·rfl
theorem Fit.set {size:Nat} {rg:Rg} {m:List (List UInt8)} (f:Fit size rg m) {j lo n:Nat} (h:rg[j]?=some (lo,n)) {y:List UInt8} (hy:y.length=n):Fit size rg (m.set j y):=⟨by simpa using f.len,fun i lo' n' hi=>by
 obtain ⟨h1,z,hz,hl⟩:=f.each i lo' n' hi
 refine ⟨h1,?_⟩
 by_cases hij:j=i
 ·subst hij
  rw [h] at hi;cases hi
  exact ⟨y,by simp [(List.getElem?_eq_some_iff.1 hz).1],hy⟩
 ·exact ⟨z,by rw [List.getElem?_set_ne hij];exact hz,hl⟩⟩
theorem G63 {rg:Rg} {m:List (List UInt8)} {l:List UInt8} (f:Fit l.length rg m) (k:RgOk rg) {j lo n:Nat} {x:List UInt8} (h:rg[j]?=some (lo,n)) (hx:m[j]?=some x) {a:Nat} {b:List UInt8} (hc:a+b.length≤n):J8 (Ax4 l rg m) (lo+a) b=Ax4 l rg (m.set j (J8 x a b)):=by
 obtain ⟨h1,y,hy,hl⟩:=f.each j lo n h
 rw [hx] at hy;cases hy
 have e:=Ad0 (l:=x) (b:=b) (a:=a) (by omega)
 have f2:=f.set h (y:=J8 x a b) (by omega)
 have lp:=Dm2 f
 refine List.ext_getElem? fun i=>?_
 rw [Bh8 (by omega)]
 by_cases hi:lo≤i∧i<lo+n
 ·obtain ⟨i',rfl⟩:∃ i',i=lo+i':=⟨i-lo,by omega⟩
  rw [B40 f2 k j lo n (J8 x a b) h (by simp [(List.getElem?_eq_some_iff.1 hx).1]) i' (by omega),Bh8 (by omega),B40 f k j lo n x h hx i' (by omega)]
  by_cases h2:a≤i'∧i'<a+b.length
  ·rw [if_pos (by omega),if_pos h2];congr 1;omega
  ·rw [if_neg (by omega),if_neg h2]
 ·rw [if_neg (by omega)]
  by_cases ho:∃ (j' lo' n':Nat),rg[j']?=some (lo',n')∧lo'≤i∧i<lo'+n'
  ·obtain ⟨j',lo',n',hj',h3,h4⟩:=ho
   have hne:j≠j':=fun e=>by subst e;rw [h] at hj';cases hj';omega
   obtain ⟨_,z,hz,_⟩:=f.each j' lo' n' hj'
   obtain ⟨i',rfl⟩:∃ i',i=lo'+i':=⟨i-lo',by omega⟩
   rw [B40 f k j' lo' n' z hj' hz i' (by omega),B40 f2 k j' lo' n' z hj' (by rw [List.getElem?_set_ne hne];exact hz) i' (by omega)]
  ·have hall:∀ (j' lo' n':Nat),rg[j']?=some (lo',n')→i<lo'∨lo'+n'≤i:=fun j' lo' n' hj'=>by
    by_cases hh:lo'≤i∧i<lo'+n'
    ·exact absurd ⟨j',lo',n',hj',hh.1,hh.2⟩ ho
    ·omega
   rw [Dn8 f i hall,Dn8 f2 i hall]
structure RecS where
 kind:Int
 index:Int
deriving DecidableEq
abbrev Y5 (r:RecS):List Value:=[int r.kind,int r.index]
structure Fr where
 S:KS
 N:Nat
 env:Int
 caps:List Int
 rg:Rg
structure FrOk (F:Fr):Prop where
 ok:KOk F.N F.S
 hN:F.N+1<1000000000
 ne:0<F.caps.length
 small:F.caps.length≤40
 len:F.rg.length=F.caps.length
 env:¬ (F.env<0∨F.env≥(F.S.envs.length:Int))
 pl:∀ (j:Nat) (cap:Int) (lo n:Nat),F.caps[j]?=some cap→F.rg[j]?=some (lo,n)→∀ (a m:Nat) (right:Int),right=1∨right=2→a+m≤n→P3 F.S.tabs F.S.regs F.env cap right a m=(((lo+a:Nat):Int),0)
 dj:RgOk F.rg
 own:∃ lo,F.rg[0]?=some (lo,492)
 brs:∀ (j lo n:Nat),0<j→F.rg[j]?=some (lo,n)→n=40
def Fr.at (F:Fr) (m:List (List UInt8)):KS:=Bn4 F.S (Ax4 F.S.mem F.rg m)
structure CX where
 m:List (List UInt8)
 bad:List RecS
def Af6:Nat→List RecS→List MapEntry
 | _,[]=>[]
 | i,r::l=>{ key:=.agg ⟨Y5 r⟩,val:=int 1,born:=i }::Af6 (i+1) l
abbrev If9 (c k:Nat) (env:Int) (caps:List Int) (bad:List RecS) (x:Option Addr × Nat × Nat):List HP :=
 [pt c (.cells De3 false [P0 k,int env,.slice x.1 caps.length x.2.1,.map (some x.2.2)]),slC false B2 1 x.1 caps.length x.2.1 (caps.map int),pt x.2.2 (.map (Af6 0 bad) bad.length)]
def V4 (c k:Nat) (env:Int) (caps:List Int) (bad:List RecS):HP:=hex fun x=>sl (If9 c k env caps bad x)
instance {c k:Nat} {env:Int} {caps:List Int} {bad:List RecS}:Chk (V4 c k env caps bad) (If9 c k env caps bad):=⟨rfl⟩
abbrev cmF (c k:Nat) (F:Fr) (x:CX):List HP:=[D7 k (F.at x.m),V4 c k F.env F.caps x.bad,pu (Fit F.S.mem.length F.rg x.m)]
def cmC (c k:Nat) (F:Fr) (x:CX):HP:=hex fun _:Unit=>sl (cmF c k F x)
instance {c k:Nat} {F:Fr} {x:CX}:Chk (cmC c k F x) (fun _:Unit=>cmF c k F x):=⟨rfl⟩
def W3 (nc:Nat) (kind:Int):Int:=if kind=1 then 8 else if kind=2 then 12 else if kind=3 then 3+nc else 1
def G3 (nc:Nat) (r:RecS):Option (Nat × Nat × Nat) :=
 if r.index<0∨r.index≥W3 nc r.kind then none
 else if r.kind=1 then some (0,24*r.index.toNat,24)
 else if r.kind=2 then some (0,192+8*r.index.toNat,8)
 else if r.kind=3 then if r.index<4 then some (0,288+40*r.index.toNat,40) else some (r.index.toNat-3,0,40)
 else if r.kind=4 then some (0,448,40)
 else some (0,488,4)
def Gr1 (caps:List Int):Option (Nat × Nat × Nat)→List Value
 | some (j,a,n)=>[int (caps.getD j 0),int a,int n]
 | none=>[int 0,int 0,int 0]
theorem Gw5 (c k:Nat) (env:Int) (caps:List Int) (bad:List RecS) (kind:Int) (hs:caps.length≤40):CtP A7 Aa1 [P0 c,int kind] [V4 c k env caps bad] (int (W3 caps.length kind)):=by
 have e:IntKind.wrap .i64 (IntKind.wrap .i64 (4+(caps.length:Int))-1)=3+(caps.length:Int):=by rw [A6,A6];omega
 refine CtP.of Dv1 rfl fun h r=>Tr.eq (Dx0 ..) ?_;refine Je ?_
 refine B3 (V4 c k env caps bad) fun ⟨a,n,mb⟩=>?_;refine Je ?_
 unfold W3
 by_cases h1:kind=1
 ·refine Yt (by simpa using h1) ?_
  rw [if_pos h1];exact Jz
 refine Yf (by simpa using h1) ?_
 rw [if_neg h1]
 by_cases h2:kind=2
 ·refine Yt (by simpa using h2) ?_
  rw [if_pos h2];exact Jz
 refine Yf (by simpa using h2) ?_
 rw [if_neg h2]
 by_cases h3:kind=3
 ·refine Yt (by simpa using h3) ?_
  rw [if_pos h3];(refine Ja ?_;unhygienic intros)
  refine Ys fun o=>?_
  rw [e];exact ⟨by first|rfl|trivial,by first|rfl|trivial⟩
 refine Yf (by simpa using h3) ?_
 rw [if_neg h3];exact Jz
theorem Ef3 (c k:Nat) (env:Int) (caps:List Int) (bad:List RecS) (rc:RecS) (hs:caps.length≤40) (hn:0<caps.length):Ct A7 P9 [P0 c,.agg ⟨Y5 rc⟩] [V4 c k env caps bad] fun v own =>
  v=.tuple ⟨[.agg ⟨Gr1 caps (G3 caps.length rc)⟩,.bool (G3 caps.length rc).isSome]⟩∧own [V4 c k env caps bad]:=by
 have hg:∀ j,j<caps.length→(caps.map int)[j]?=some (int (caps.getD j 0)):=fun j hj=>by rw [List.getElem?_map,N5 0 hj];rfl
 refine Ct.of Dp2 rfl fun h r=>Tr.eq (Dp4 ..) ?_;refine Je ?_
 (refine Jb ?_;unhygienic intros)
 refine Tr.orG (c:=decide (rc.index≥W3 caps.length rc.kind)) (fun hb=>?_) ?_
 ·(refine Ja ?_;unhygienic intros)
  refine Tr.pcall (Gw5 c k env caps bad rc.kind hs) ?_;refine Je ?_;exact Jz
 by_cases hi:rc.index<0∨rc.index≥W3 caps.length rc.kind
 ·refine Yt (by simp only [Bool.or_eq_true,decide_eq_true_eq];exact hi) ?_
  have e:G3 caps.length rc=none:=by unfold G3;rw [if_pos hi]
  rw [e]
  (refine Ja ?_;unhygienic intros)
  refine Ys fun o=>?_
  exact ⟨rfl,o.sub⟩
 refine Yf (by simp only [Bool.or_eq_false_iff,decide_eq_false_iff_not];omega) ?_
 refine B3 (V4 c k env caps bad) fun ⟨a,n,mb⟩=>?_;refine Je ?_
 (refine Ja ?_;unhygienic intros;repeat(refine Gw ?_;rintro px rfl;refine Ja ?_;unhygienic intros))
 refine Tr.xIntS (v:=caps.getD 0 0) (hg 0 hn) ?_
 (refine Ja ?_;unhygienic intros)
 by_cases h1:rc.kind=1
 ·refine Yt (by simpa using h1) ?_
  have e:G3 caps.length rc=some (0,24*rc.index.toNat,24):=by unfold G3;rw [if_neg hi,if_pos h1]
  have hm:W3 caps.length rc.kind=8:=by unfold W3;rw [if_pos h1]
  have e1:IntKind.wrap .i64 (24*rc.index)=((24*rc.index.toNat:Nat):Int):=by rw [A6];omega
  rw [e,e1]
  (refine Ja ?_;unhygienic intros)
  refine B1 (V4 c k env caps bad) ⟨some px,n,mb⟩ ?_;refine Je ?_
  refine Ys fun o=>?_
  exact ⟨rfl,o.sub⟩
 refine Yf (by simpa using h1) ?_
 by_cases h2:rc.kind=2
 ·(refine Ja ?_;unhygienic intros)
  refine Yt (by simpa using h2) ?_
  have e:G3 caps.length rc=some (0,192+8*rc.index.toNat,8):=by unfold G3;rw [if_neg hi,if_neg h1,if_pos h2]
  have hm:W3 caps.length rc.kind=12:=by unfold W3;rw [if_neg h1,if_pos h2]
  have e1:IntKind.wrap .i64 (192+IntKind.wrap .i64 (8*rc.index))=((192+8*rc.index.toNat:Nat):Int):=by rw [A6,A6];omega
  rw [e,e1]
  (refine Ja ?_;unhygienic intros)
  refine B1 (V4 c k env caps bad) ⟨some px,n,mb⟩ ?_;refine Je ?_
  refine Ys fun o=>?_
  exact ⟨rfl,o.sub⟩
 (refine Ja ?_;unhygienic intros)
 refine Yf (by simpa using h2) ?_
 (refine Jb ?_;unhygienic intros)
 refine Tr.andG (c:=decide (rc.index<4)) (fun hb=>?_) ?_
 ·exact Jz
 by_cases h3:rc.kind=3
 ·have hm:W3 caps.length rc.kind=3+caps.length:=by unfold W3;rw [if_neg h1,if_neg h2,if_pos h3]
  by_cases h4:rc.index<4
  ·refine Yt (by simp [h3,h4]) ?_
   have e:G3 caps.length rc=some (0,288+40*rc.index.toNat,40):=by unfold G3;rw [if_neg hi,if_neg h1,if_neg h2,if_pos h3,if_pos h4]
   have e1:IntKind.wrap .i64 (288+IntKind.wrap .i64 (40*rc.index))=((288+40*rc.index.toNat:Nat):Int):=by rw [A6,A6];omega
   rw [e,e1]
   (refine Ja ?_;unhygienic intros)
   refine B1 (V4 c k env caps bad) ⟨some px,n,mb⟩ ?_;refine Je ?_
   refine Ys fun o=>?_
   exact ⟨rfl,o.sub⟩
  ·refine Yf (by simp [h4]) ?_
   have e:G3 caps.length rc=some (rc.index.toNat-3,0,40):=by unfold G3;rw [if_neg hi,if_neg h1,if_neg h2,if_pos h3,if_neg h4]
   have e1:IntKind.wrap .i64 (IntKind.wrap .i64 (rc.index-4)+1)=((rc.index.toNat-3:Nat):Int):=by rw [A6,A6];omega
   rw [e,e1]
   (refine Ja ?_;unhygienic intros)
   refine Yt (by simpa using h3) ?_
   (refine Ja ?_;unhygienic intros)
   rw [Int.toNat_natCast]
   refine Je ?_
   refine Tr.xIntS (v:=caps.getD (rc.index.toNat-3) 0) (hg _ (by omega)) ?_
   (refine Ja ?_;unhygienic intros)
   refine B1 (V4 c k env caps bad) ⟨some px,n,mb⟩ ?_;refine Je ?_
   refine Ys fun o=>?_
   exact ⟨rfl,o.sub⟩
 refine Yf (by simp [h3]) ?_
 (refine Ja ?_;unhygienic intros)
 refine Yf (by simpa using h3) ?_
 (refine Ja ?_;unhygienic intros)
 by_cases h4:rc.kind=4
 ·refine Yt (by simpa using h4) ?_
  have e:G3 caps.length rc=some (0,448,40):=by unfold G3;rw [if_neg hi,if_neg h1,if_neg h2,if_neg h3,if_pos h4]
  rw [e]
  (refine Ja ?_;unhygienic intros)
  refine B1 (V4 c k env caps bad) ⟨some px,n,mb⟩ ?_;refine Je ?_
  refine Ys fun o=>?_
  exact ⟨rfl,o.sub⟩
 refine Yf (by simpa using h4) ?_
 have e:G3 caps.length rc=some (0,488,4):=by unfold G3;rw [if_neg hi,if_neg h1,if_neg h2,if_neg h3,if_neg h4]
 rw [e]
 (refine Ja ?_;unhygienic intros)
 refine B1 (V4 c k env caps bad) ⟨some px,n,mb⟩ ?_;refine Je ?_
 refine Ys fun o=>?_
 exact ⟨rfl,o.sub⟩
theorem Hp9:Ah8 PR 8 D2=some [TypeDesc.int .i64,TypeDesc.int .i64]:=by kernel_rfl
theorem H85:Ea5 PR D2=some true:=by kernel_rfl
instance {a b:Int}:KeyC PR D2 (.agg ⟨[.int .i64 a,.int .i64 b]⟩):=⟨fun x=>by
 unfold NN.keyN;rw [Hp9,H85];rfl⟩
theorem Ee3 (r:RecS):∀ (l:List RecS) (i j:Nat),Af7 (.agg ⟨Y5 r⟩) (Af6 j l) i=some (if r ∈ l then some (i+l.idxOf r) else none)
 | [],i,j=>by simp [Af6,Af7]
 | q::l,i,j=>by
  have ih:=Ee3 r l (i+1) (j+1)
  obtain ⟨qk,qi⟩:=q
  obtain ⟨rk,ri⟩:=r
  simp only [Af6,Af7,Bc0,Y5,eqs,eq1,decide_true,List.mem_cons] at ih ⊢
  by_cases h:rk=qk∧ri=qi
  ·obtain ⟨rfl,rfl⟩:=h
   simp
  ·have e:(rk==qk && (ri==qi && true))=false:=by
    rw [Bool.and_eq_false_iff]
    by_cases h1:rk=qk
    ·right;simp;intro h2;exact h ⟨h1,h2⟩
    ·left;simpa using h1
   have hne:¬ (({ kind:=rk,index:=ri }:RecS)={ kind:=qk,index:=qi }):=fun e=>by
    rw [RecS.mk.injEq] at e;exact h e
   rw [e]
   simp only [hne,false_or]
   rw [ih,List.idxOf_cons]
   have:(({ kind:=qk,index:=qi }:RecS)=={ kind:=rk,index:=ri })=false:=by
    rw [beq_eq_false_iff_ne];exact fun e=>hne e.symm
   rw [this,cond_false]
   split<;>simp;omega
theorem Dm1:∀ (l:List RecS) (j:Nat),(Af6 j l).length=l.length
 | [],_=>rfl
 | _::l,j=>by simp [Af6,Dm1 l]
theorem G45:∀ (l:List RecS) (j i:Nat) (r:RecS),l[i]?=some r→(Af6 j l)[i]?=some { key:=.agg ⟨Y5 r⟩,val:=int 1,born:=j+i }
 | [],_,i,r,h=>by simp at h
 | q::l,j,0,r,h=>by simp at h;subst h;rfl
 | q::l,j,i+1,r,h=>by
  have:=G45 l (j+1) i r (by simpa using h)
  rw [Af6,List.getElem?_cons_succ,this];congr 2;omega
theorem Bt8 (r:RecS) (l:List RecS):Aj6 (int 0) (.agg ⟨Y5 r⟩) (Af6 0 l)=some (if r ∈ l then (int 1,true) else (int 0,false)):=by
 unfold Aj6
 rw [Ee3]
 by_cases h:r ∈ l
 ·rw [if_pos h,if_pos h]
  have hi:=List.idxOf_lt_length_of_mem h
  have hg:l[l.idxOf r]?=some r:=by rw [List.getElem?_eq_getElem hi,List.getElem_idxOf]
  simp only [Nat.zero_add]
  rw [G45 l 0 _ r hg]
 ·rw [if_neg h,if_neg h]
theorem G12:∀ (l m:List RecS) (j:Nat),Af6 j (l++m)=Af6 j l++Af6 (j+l.length) m
 | [],m,j=>by simp [Af6]
 | q::l,m,j=>by simp only [List.cons_append,Af6,G12 l m (j+1),List.length_cons];congr 2;congr 1;omega
theorem D28 {r:RecS} {l:List RecS} (h:¬ r ∈ l):Dw9 (int 0) (.agg ⟨Y5 r⟩) (Af6 0 l) l.length=some (int 0,l.length,.map (Af6 0 l++[{ key:=.agg ⟨Y5 r⟩,val:=int 0,born:=l.length }]) (l.length+1)):=by
 unfold Dw9;rw [Ee3,if_neg h]
theorem Gl6 (r:RecS) (e:MapEntry):∀ (l:List RecS) (i j:Nat),¬ r ∈ l→Af7 (.agg ⟨Y5 r⟩) (Af6 j l++[e]) i=Af7 (.agg ⟨Y5 r⟩) [e] (i+l.length)
 | [],i,j,h=>by simp [Af6]
 | q::l,i,j,h=>by
  have ih:=Gl6 r e l (i+1) (j+1) (fun hm=>h (List.mem_cons_of_mem _ hm))
  have hq:Bc0 (.agg ⟨Y5 r⟩) (.agg ⟨Y5 q⟩)=some false:=by
   obtain ⟨qk,qi⟩:=q
   obtain ⟨rk,ri⟩:=r
   simp only [Bc0,Y5,eqs,eq1,decide_true]
   congr 1
   rw [Bool.and_eq_false_iff]
   by_cases h1:rk=qk
   ·right;simp;intro h2;exact h (by subst h1 h2;exact List.mem_cons_self ..)
   ·left;simpa using h1
  show (match Bc0 (.agg ⟨Y5 r⟩) (.agg ⟨Y5 q⟩) with
   | some true=>some (some i)
   | some false=>Af7 (.agg ⟨Y5 r⟩) (Af6 (j+1) l++[e]) (i+1)
   | none=>none)=_
  rw [hq]
  simp only
  rw [ih];congr 1;simp;omega
theorem Dq5 {r:RecS} {l:List RecS} (h:¬ r ∈ l):Aj6 (int 0) (.agg ⟨Y5 r⟩) (Af6 0 l++[{ key:=.agg ⟨Y5 r⟩,val:=int 0,born:=l.length }])=some (int 0,true):=by
 unfold Aj6
 rw [Gl6 r _ l 0 0 h]
 obtain ⟨rk,ri⟩:=r
 simp only [Af7,Bc0,Y5,eqs,eq1,decide_true,BEq.rfl,Bool.and_self,Nat.zero_add]
 rw [List.getElem?_append_right (by rw [Dm1];exact Nat.le_refl _),Dm1];simp
theorem B99:∀ (l:List RecS) (j:Nat) (n:Nat) (e:MapEntry) (i:Nat),e.born=n→j+l.length≤n→Bh9 (n:Int) (Af6 j l++[e]) i=some (i+l.length)
 | [],j,n,e,i,h,hl=>by simp [Af6,Bh9,h]
 | q::l,j,n,e,i,h,hl=>by
  have ih:=B99 l (j+1) n e (i+1) h (by simp at hl;omega)
  simp only [Af6,List.cons_append,Bh9]
  have:(((j:Nat):Int)==(n:Int))=false:=by simp at hl ⊢;omega
  rw [this,cond_false,ih];congr 1;simp;omega
theorem Gj9 (f:MapEntry→MapEntry) (e:MapEntry):∀ (l:List MapEntry),modN f l.length (l++[e])=l++[f e]
 | []=>rfl
 | q::l=>by simp [modN,Gj9 f e l]
theorem D54 (r:RecS) (l:List RecS):modN (fun e=>{ e with val:=int (IntKind.wrap .i64 (0+1)) }) l.length (Af6 0 l++[{ key:=.agg ⟨Y5 r⟩,val:=int 0,born:=l.length }])=Af6 0 (l++[r]):=by
 rw [show l.length=(Af6 0 l).length from (Dm1 l 0).symm,Gj9,G12]
 simp [Af6,Dm1];decide
theorem Fr.mem_at (F:Fr) (m:List (List UInt8)):(F.at m).mem=Ax4 F.S.mem F.rg m:=rfl
theorem Fr.at_ok {F:Fr} (k:FrOk F) {m:List (List UInt8)} (f:Fit F.S.mem.length F.rg m):KOk F.N (F.at m):=by
 have:=k.ok
 exact ⟨this.envs,this.tabs,this.space,this.quota,by rw [Fr.mem_at,Dm2 f];exact this.mem,this.regs,this.may,this.mayl,this.nsect,this.sects,this.now⟩
theorem H52 {F:Fr} (k:FrOk F) {r:RecS} {j a n:Nat} (h:G3 F.caps.length r=some (j,a,n)):∃ lo z,F.rg[j]?=some (lo,z)∧a+n≤z∧j<F.caps.length:=by
 obtain ⟨lo0,h0⟩:=k.own
 have hl:=k.len;have hn:=k.ne
 unfold G3 at h
 split at h;· cases h
 rename_i hi
 split at h
 ·rename_i h1
  have hm:W3 F.caps.length r.kind=8:=by unfold W3;rw [if_pos h1]
  cases h;exact ⟨lo0,492,h0,by omega,hn⟩
 rename_i h1
 split at h
 ·rename_i h2
  have hm:W3 F.caps.length r.kind=12:=by unfold W3;rw [if_neg h1,if_pos h2]
  cases h;exact ⟨lo0,492,h0,by omega,hn⟩
 rename_i h2
 split at h
 ·rename_i h3
  have hm:W3 F.caps.length r.kind=3+F.caps.length:=by unfold W3;rw [if_neg h1,if_neg h2,if_pos h3]
  split at h
  ·cases h;exact ⟨lo0,492,h0,by omega,hn⟩
  ·cases h
   have hlt:r.index.toNat-3<F.rg.length:=by omega
   have hg:=List.getElem?_eq_getElem hlt
   generalize hx:F.rg[r.index.toNat-3]=x at hg
   obtain ⟨lo,z⟩:=x
   have:=k.brs _ lo z (by omega) hg
   exact ⟨lo,z,hg,by omega,by omega⟩
 split at h<;>(cases h;exact ⟨lo0,492,h0,by omega,hn⟩)
def Q3 (kind:Int):Nat:=if kind=1 then 24 else if kind=2 then 8 else if kind=3 then 40 else if kind=4 then 40 else 4
theorem Df8 {nc:Nat} {r:RecS} {j a n:Nat} (h:G3 nc r=some (j,a,n)):n=Q3 r.kind:=by
 unfold G3 at h;unfold Q3
 split at h;· cases h
 split at h
 ·rename_i h1;cases h;rw [if_pos h1]
 rename_i h1
 rw [if_neg h1]
 split at h
 ·rename_i h2;cases h;rw [if_pos h2]
 rename_i h2
 rw [if_neg h2]
 split at h
 ·rename_i h3;rw [if_pos h3];split at h<;>(cases h;rfl)
 rename_i h3
 rw [if_neg h3]
 split at h
 ·rename_i h4;cases h;rw [if_pos h4]
 ·rename_i h4;cases h;rw [if_neg h4]
def rdX (X:CX) (r:RecS):Option (List UInt8) :=
 match G3 X.m.length r with
 | some (j,a,n)=>if r ∈ X.bad then none else some (slice (X.m.getD j []) a n)
 | none=>none
def wrX (X:CX) (r:RecS) (b:List UInt8) (ok:Bool):Bool × CX :=
 match G3 X.m.length r with
 | some (j,a,n)=>if ok=true∧¬ r ∈ X.bad then (true,{ X with m:=X.m.set j (J8 (X.m.getD j []) a b) }) else (false,X)
 | none=>(false,X)
theorem Fit.mlen {F:Fr} (k:FrOk F) {m:List (List UInt8)} (f:Fit F.S.mem.length F.rg m):m.length=F.caps.length:=by rw [f.len,k.len]
theorem D81 {F:Fr} (k:FrOk F) {m:List (List UInt8)} (f:Fit F.S.mem.length F.rg m) {r:RecS} {j a n:Nat} (h:G3 F.caps.length r=some (j,a,n)) :
  ∃ lo z cap,F.caps[j]?=some cap∧F.rg[j]?=some (lo,z)∧a+n≤z∧m[j]?=some (m.getD j [])∧(m.getD j []).length=z∧lo+z≤F.S.mem.length∧cap=F.caps.getD j 0:=by
 obtain ⟨lo,z,hr,ha,hj⟩:=H52 k h
 obtain ⟨h1,x,hx,hl⟩:=f.each j lo z hr
 have e:m.getD j []=x:=by rw [List.getD_eq_getElem?_getD,hx];rfl
 exact ⟨lo,z,F.caps.getD j 0,N5 0 hj,hr,ha,by rw [e];exact hx,by rw [e];exact hl,h1,rfl⟩
theorem H97 {F:Fr} (k:FrOk F) {X:CX} (f:Fit F.S.mem.length F.rg X.m) {r:RecS} {l:List UInt8} (h:rdX X r=some l):l.length=Q3 r.kind:=by
 unfold rdX at h
 rw [f.mlen k] at h
 cases hp:G3 F.caps.length r with
 | none=>rw [hp] at h;cases h
 | some p =>
  obtain ⟨j,a,n⟩:=p
  rw [hp] at h
  obtain ⟨lo,z,cap,_,_,ha,hx,hl,_⟩:=D81 k f hp
  simp only at h
  split at h
  ·cases h
  ·cases h;rw [Gk2 (by omega),Df8 hp]
theorem Ig8 {F:Fr} (k:FrOk F) {m:List (List UInt8)} (f:Fit F.S.mem.length F.rg m) {r:RecS} {j a n:Nat} (h:G3 F.caps.length r=some (j,a,n)) :
  Y3 (F.at m) F.env ⟨1,F.caps.getD j 0,(a:Int),(n:Int),0,0,[]⟩=((0,0,slice (m.getD j []) a n),F.at m):=by
 obtain ⟨lo,z,cap,hc,hr,ha,hx,hl,hz,rfl⟩:=D81 k f h
 have hp:=k.pl j _ lo z hc hr a n 1 (.inl rfl) ha
 have lp:=Dm2 f
 have hb:Dt6 (Ax4 F.S.mem F.rg m) ((lo+a:Nat):Int) (n:Int)=some (slice (m.getD j []) a n):=by
  unfold Dt6
  rw [if_pos (by rw [lp];omega),Int.toNat_natCast,Int.toNat_natCast]
  rw [← Hm5 f k.dj hr hx ha];rfl
 have e:Al5 (F.at m).tabs (F.at m).regs (F.at m).mem F.env (F.caps.getD j 0) (a:Int) (n:Int)=(slice (m.getD j []) a n,0):=by
  unfold Al5
  rw [show P3 (F.at m).tabs (F.at m).regs F.env (F.caps.getD j 0) 1 (a:Int) (n:Int)=(((lo+a:Nat):Int),0) from hp]
  rw [if_neg (by simp),show Dt6 (F.at m).mem _ _=_ from hb]
 unfold Y3
 rw [if_neg (show ¬ (F.env<0∨F.env≥((F.at m).envs.length:Int)) from k.env)]
 unfold kDo
 rw [if_pos rfl,e]
theorem Id1 {F:Fr} (k:FrOk F) {m:List (List UInt8)} (f:Fit F.S.mem.length F.rg m) {r:RecS} {j a n:Nat} (h:G3 F.caps.length r=some (j,a,n)) {b:List UInt8} (hb:b.length=n) :
  Y3 (F.at m) F.env ⟨2,F.caps.getD j 0,(a:Int),0,0,0,b⟩=((0,0,[]),F.at (m.set j (J8 (m.getD j []) a b))):=by
 obtain ⟨lo,z,cap,hc,hr,ha,hx,hl,hz,rfl⟩:=D81 k f h
 have hp:=k.pl j _ lo z hc hr a n 2 (.inr rfl) ha
 have lp:=Dm2 f
 have hs:A89 (Ax4 F.S.mem F.rg m) ((lo+a:Nat):Int) b=some (Ax4 F.S.mem F.rg (m.set j (J8 (m.getD j []) a b))):=by
  unfold A89
  rw [if_pos (by rw [lp];omega),Int.toNat_natCast]
  rw [← G63 f k.dj hr hx (by omega)];rfl
 have e:Ai9 (F.at m).tabs (F.at m).regs (F.at m).mem F.env (F.caps.getD j 0) (a:Int) b=(0,Ax4 F.S.mem F.rg (m.set j (J8 (m.getD j []) a b))):=by
  unfold Ai9
  rw [hb,show P3 (F.at m).tabs (F.at m).regs F.env (F.caps.getD j 0) 2 (a:Int) (n:Int)=(((lo+a:Nat):Int),0) from hp]
  rw [if_neg (by simp),show A89 (F.at m).mem _ _=_ from hs]
 unfold Y3
 rw [if_neg (show ¬ (F.env<0∨F.env≥((F.at m).envs.length:Int)) from k.env)]
 unfold kDo
 rw [if_neg (show ¬ ((2:Int)=1) by decide),if_pos rfl,e];rfl
theorem Ib4 {F:Fr} (k:FrOk F) {X:CX} (f:Fit F.S.mem.length F.rg X.m) {r:RecS} {b:List UInt8} {ok:Bool} (hb:ok=true→b.length=Q3 r.kind):Fit F.S.mem.length F.rg (wrX X r b ok).2.m:=by
 unfold wrX
 rw [f.mlen k]
 cases hp:G3 F.caps.length r with
 | none=>exact f
 | some p =>
  obtain ⟨j,a,n⟩:=p
  obtain ⟨lo,z,cap,hc,hr,ha,hx,hl,hz,_⟩:=D81 k f hp
  simp only
  split
  ·rename_i hk
   exact f.set hr (by rw [Ad0 (by rw [hb hk.1,← Df8 hp];omega)];exact hl)
  ·exact f
instance {caps:List Int} {o:Option (Nat × Nat × Nat)}:LenC (Gr1 caps o) 3:=⟨by cases o<;>rfl⟩
theorem H14 (caps:List Int) (o:Option (Nat × Nat × Nat)):(Gr1 caps o).all Value.oneCell=true:=by cases o<;>rfl
instance {caps:List Int} {o:Option (Nat × Nat × Nat)} {cs:List Value} [k:LenC cs 3]:SetsC cs 0 (Gr1 caps o) (Gr1 caps o):=⟨Bt7 k.ok LenC.ok (H14 caps o)⟩
instance {rc:RecS}:PartC (Y5 rc) 0 2 (Y5 rc):=⟨rfl⟩
theorem Hb7 (r:RecS) (l:List RecS):(if r ∈ l then (int 1,true) else (int 0,false))=(int (if r ∈ l then 1 else 0),decide (r ∈ l)):=by split<;>simp [*]
theorem He8 (r:RecS) (l:List RecS):decide ((if r ∈ l then (1:Int) else 0)>0)=decide (r ∈ l):=by split<;>simp [*]
theorem D20 (k:Nat) (S:KS) (N:Nat) (ok:KOk N S) (hN:N+1<1000000000) (env:Int) (c:CallS) (ba:Option Addr) (bc:Nat) (ro:Bool) (h5:c.op≠5) :
  Ct A7 Q6 [P0 k,int env,.agg ⟨Bi2 c ba bc⟩] [D7 k S,slC ro A3 1 ba c.b.length bc (A0 c.b)] fun v own=>∃ x d,v=.agg ⟨[int (Y3 S env c).1.1,int (Y3 S env c).1.2.1,.slice x (Y3 S env c).1.2.2.length d]⟩ ∧
    own [slC false A3 1 x (Y3 S env c).1.2.2.length d (A0 (Y3 S env c).1.2.2),D7 k (Y3 S env c).2,slC ro A3 1 ba c.b.length bc (A0 c.b)]:=by
 intro h r o
 obtain ⟨pq,o1⟩:=Own.ex (f:=fun pq=>slX ro A3 1 ba c.b.length bc pq (A0 c.b)) (o.perm (.swap _ _ _))
 obtain ⟨v,h',e,x,d,rfl,o2⟩:=Hu4 k S N ok hN env c ba bc ro pq h5 h r (o1.perm (.swap _ _ _))
 refine ⟨_,h',e,x,d,rfl,?_⟩
 have o3:=o2.picks [2] rfl
 exact (Own.inex (f:=fun pq=>slX ro A3 1 ba c.b.length bc pq (A0 c.b)) pq o3).picks [1,1,0] rfl
theorem D30 (c k:Nat) (F:Fr) (X:CX) (rc:RecS) (ok:FrOk F):Ct A7 N7 [P0 c,.agg ⟨Y5 rc⟩] [cmC c k F X] fun v own =>
  (∃ l a cp,rdX X rc=some l∧l.length=Q3 rc.kind∧v=.tuple ⟨[.slice a l.length cp,.bool true]⟩∧own [slC false A3 1 a l.length cp (A0 l),cmC c k F X]) ∨
  (rdX X rc=none∧v=.tuple ⟨[.slice none 0 0,.bool false]⟩∧own [cmC c k F X]):=by
 refine Ct.of Dx7 rfl fun h r=>Tr.eq (Dx6 ..) ?_;refine Je ?_
 refine B3 (cmC c k F X) fun u=>?_;refine Je ?_
 refine O9 2 rfl fun f=>?_
 (refine Ja ?_;unhygienic intros)
 refine Yc (Ef3 c k F.env F.caps X.bad rc ok.small ok.ne) ?_;rintro _ h ⟨rfl,o⟩<;>(refine Jg o ?_;unhygienic intros)
 have em:=f.mlen ok
 cases hp:G3 F.caps.length rc with
 | none =>
  (refine Jb ?_;unhygienic intros)
  refine Yb (Yt rfl ?_)
  refine Ys fun o=>(?_:Tr _ _ _ _) o;refine Je ?_
  (refine Ja ?_;unhygienic intros)
  refine B1 (cmC c k F X) () ?_;refine Je ?_
  refine Ys fun o=>?_
  exact .inr ⟨by unfold rdX;rw [em,hp],rfl,o.sub⟩
 | some p =>
  obtain ⟨j,a,n⟩:=p
  refine B3 (V4 c k F.env F.caps X.bad) fun ⟨ca,cn,mb⟩=>?_;refine Je ?_
  (refine Jb ?_;unhygienic intros)
  refine Tr.orG (c:=decide (rc ∈ X.bad)) (fun _=>?_) ?_
  ·(refine Ja ?_;unhygienic intros)
   rw [Bt8,Hb7]
   (refine Ja ?_;unhygienic intros)
   refine Ys fun o=>?_
   rw [He8];exact ⟨by first|rfl|trivial,by first|rfl|trivial⟩
  by_cases hb:rc ∈ X.bad
  ·rw [decide_eq_true hb]
   (refine Ja ?_;unhygienic intros)
   refine B1 (V4 c k F.env F.caps X.bad) ⟨ca,cn,mb⟩ ?_;refine Je ?_
   refine B1 (cmC c k F X) () ?_;refine Je ?_
   refine Ys fun o=>?_
   exact .inr ⟨by unfold rdX;rw [em,hp];exact if_pos hb,rfl,o.sub⟩
  ·rw [decide_eq_false hb]
   refine Yf rfl ?_
   (refine Ja ?_;unhygienic intros)
   refine B1 (V4 c k F.env F.caps X.bad) ⟨ca,cn,mb⟩ ?_;refine Je ?_
   have J:=Ib2 k (F.at X.m) F.N (F.at_ok ok f) ok.hN F.env 1 (F.caps.getD j 0) (a:Int) (n:Int) 0 0 (by decide)
   rw [Ig8 ok f hp] at J
   refine Yc (J) ?_;rintro _ h ⟨y,d,rfl,o⟩<;>(refine Jf o ?_;unhygienic intros)
   refine Yf rfl ?_
   (refine Ja ?_;unhygienic intros)
   refine B1 (cmC c k F X) () ?_;refine Je ?_
   refine Ys fun o=>?_
   have e:rdX X rc=some (slice (X.m.getD j []) a n):=by unfold rdX;rw [em,hp];exact if_neg hb
   exact .inl ⟨_,y,d,e,H97 ok f e,rfl,o.sub⟩
theorem Bu2 (c k:Nat) (F:Fr) (X:CX) (rc:RecS) (ok:FrOk F) (bs:List UInt8) (g:Bool) (ba:Option Addr) (bc:Nat) (hb:g=true→bs.length=Q3 rc.kind) :
  Ct A7 I7 [P0 c,.agg ⟨Y5 rc⟩,.slice ba bs.length bc,.bool g] [cmC c k F X,slC false A3 1 ba bs.length bc (A0 bs)] fun v own =>
   v=.bool (wrX X rc bs g).1∧own [cmC c k F (wrX X rc bs g).2,slC false A3 1 ba bs.length bc (A0 bs)]:=by
 refine Ct.of Dp6 rfl fun h r=>Tr.eq (Dp1 ..) ?_;refine Je ?_
 refine B3 (cmC c k F X) fun u=>?_;refine Je ?_
 refine O9 2 rfl fun f=>?_
 (refine Ja ?_;unhygienic intros)
 refine Yc (Ef3 c k F.env F.caps X.bad rc ok.small ok.ne) ?_;rintro _ h ⟨rfl,o⟩<;>(refine Jg o ?_;unhygienic intros)
 have em:=f.mlen ok
 cases hp:G3 F.caps.length rc with
 | none =>
  (refine Jb ?_;unhygienic intros)
  refine Yb (Yt rfl ?_)
  refine Ys fun o=>(?_:Tr _ _ _ _) o;refine Je ?_
  refine Yb (Yt rfl ?_)
  refine Ys fun o=>(?_:Tr _ _ _ _) o;refine Je ?_
  (refine Ja ?_;unhygienic intros)
  refine B1 (cmC c k F X) () ?_;refine Je ?_
  refine Ys fun o=>?_
  have e:wrX X rc bs g=(false,X):=by unfold wrX;rw [em,hp]
  rw [e]
  exact ⟨by first|rfl|trivial,o.sub⟩
 | some p =>
  obtain ⟨j,a,n⟩:=p
  refine B3 (V4 c k F.env F.caps X.bad) fun ⟨ca,cn,mb⟩=>?_;refine Je ?_
  (refine Jb ?_;unhygienic intros)
  refine Yb (Yf rfl ?_)
  refine Ys fun o=>(?_:Tr _ _ _ _) o;refine Je ?_
  (refine Jb ?_;unhygienic intros)
  refine Tr.orG (c:=decide (rc ∈ X.bad)) (fun _=>?_) ?_
  ·(refine Ja ?_;unhygienic intros)
   rw [Bt8,Hb7]
   (refine Ja ?_;unhygienic intros)
   refine Ys fun o=>?_
   rw [He8];exact ⟨by first|rfl|trivial,by first|rfl|trivial⟩
  by_cases hg:g=true∧¬ rc ∈ X.bad
  ·have e:wrX X rc bs g=(true,{ X with m:=X.m.set j (J8 (X.m.getD j []) a bs) }):=by unfold wrX;rw [em,hp];exact if_pos hg
   have f2:=Ib4 (r:=rc) (b:=bs) (ok:=g) ok f hb
   rw [e] at f2
   obtain ⟨rfl,hg2⟩:=hg
   rw [e,decide_eq_false hg2]
   refine Yf rfl ?_
   (refine Ja ?_;unhygienic intros)
   refine B1 (V4 c k F.env F.caps X.bad) ⟨ca,cn,mb⟩ ?_;refine Je ?_
   have hl:bs.length=n:=by rw [hb rfl,Df8 hp]
   have J:=D20 k (F.at X.m) F.N (F.at_ok ok f) ok.hN F.env ⟨2,F.caps.getD j 0,(a:Int),0,0,0,bs⟩ ba bc false (show ((2:Int)≠5) by decide)
   rw [Id1 ok f hp hl] at J
   refine Yc (J) ?_;rintro _ h ⟨y,d,rfl,o⟩<;>(refine Jf o ?_;unhygienic intros)
   refine An8 (show Fit F.S.mem.length F.rg (X.m.set j (J8 (X.m.getD j []) a bs)) from f2) ?_
   refine B1 (cmC c k F { X with m:=X.m.set j (J8 (X.m.getD j []) a bs) }) () ?_;refine Je ?_
   refine Ys fun o=>?_
   exact ⟨rfl,o.sub⟩
  ·have e:wrX X rc bs g=(false,X):=by unfold wrX;rw [em,hp];exact if_neg hg
   rw [e]
   refine Yt ?_ ?_
   ·cases g with
    | false=>rfl
    | true=>simpa using hg
   refine B1 (V4 c k F.env F.caps X.bad) ⟨ca,cn,mb⟩ ?_;refine Je ?_
   refine B1 (cmC c k F X) () ?_;refine Je ?_
   refine Ys fun o=>?_
   exact ⟨by first|rfl|trivial,o.sub⟩
def U0 {α:Type} (dec:List UInt8→α × Int) (z:α) (X:CX) (rc:RecS):(α × Int) × CX :=
 match rdX X rc with
 | some l=>(dec l,if (dec l).2=2 then { X with bad:=X.bad++[rc] } else X)
 | none=>((z,2),X)
theorem D31 {X:CX} {rc:RecS} {l:List UInt8} (h:rdX X rc=some l):¬ rc ∈ X.bad:=by
 unfold rdX at h
 split at h
 ·split at h
  ·cases h
  ·assumption
 ·cases h
theorem Hu7 (l:List UInt8) (h:(Y2 l).2≠1):(Y2 l).1=.zero:=by
 unfold Y2 at *;split<;>first|rfl|(split<;>first|rfl|(simp_all;done))
theorem Hv2 (l:List UInt8) (h:(Z4 l).2≠1):(Z4 l).1=.zero:=by
 unfold Z4 at *;split<;>first|rfl|(split<;>first|rfl|(simp_all;done))
theorem Hw3 (l:List UInt8) (h:(V7 l).2≠1):(V7 l).1=.zero:=by
 unfold V7 at *;split<;>first|rfl|(split<;>first|rfl|(simp_all;done))
theorem Ib6 (c k:Nat) (F:Fr) (X:CX) (rc:RecS) (ok:FrOk F) (hk:Q3 rc.kind=24):Ct A7 J4 [P0 c,.agg ⟨Y5 rc⟩,.func (.func A37) ⟨[]⟩ ⟨[]⟩] [cmC c k F X] fun v own =>
  v=.tuple ⟨[.agg ⟨D6 (U0 Y2 .zero X rc).1.1⟩,int (U0 Y2 .zero X rc).1.2]⟩∧own [cmC c k F (U0 Y2 .zero X rc).2]:=by
 refine Ct.of Am8 rfl fun h r=>Tr.eq (Dg8 ..) ?_;refine Je ?_
 (refine Ja ?_;unhygienic intros)
 refine Yc (D30 c k F X rc ok) ?_
 rintro v h (⟨l,a,cp,hr,hl,rfl,o⟩|⟨hr,rfl,o⟩)
 ·refine (?_:Tr _ _ _ _) o
  refine Je ?_
  have e:U0 Y2 .zero X rc=(Y2 l,if (Y2 l).2=2 then { X with bad:=X.bad++[rc] } else X):=by unfold U0;rw [hr]
  have hb:=D31 hr
  rw [e]
  rw [hk] at hl
  rw [hl]
  (refine Ja ?_;unhygienic intros)
  refine Yc (Hi7 a cp l hl) ?_;rintro _ h ⟨rfl,o⟩<;>(refine Jf o ?_;unhygienic intros)
  by_cases h2:(Y2 l).2=2
  ·refine Yt (by simpa using h2) ?_
   have hz:=Hu7 l (by omega)
   simp only [if_pos h2]
   refine B3 (cmC c k F X) fun u=>?_;refine Je ?_
   refine B3 (V4 c k F.env F.caps X.bad) fun ⟨ca,cn,mb⟩=>?_;refine Je ?_
   (refine Ja ?_;unhygienic intros)
   rw [Bt8,if_neg hb]
   (refine Ja ?_;unhygienic intros)
   rw [D28 hb]
   (refine Ja ?_;unhygienic intros)
   rw [Dq5 hb]
   (refine Ja ?_;unhygienic intros)
   rw [B99 X.bad 0 X.bad.length _ 0 rfl (by omega),Nat.zero_add]
   (refine Ja ?_;unhygienic intros)
   rw [D54]
   refine Tr.jmp Am8 (Tr.eq (A15 ..) ?_);(try simp only[Nr,Nl,wl,Nat.reduceAdd,Nat.reduceMul,Int.reduceToNat])
   refine Yt (by rw [bne_iff_ne];omega) ?_
   (refine Ja ?_;unhygienic intros)
   rw [show X.bad.length+1=(X.bad++[rc]).length by simp]
   refine B1 (V4 c k F.env F.caps (X.bad++[rc])) ⟨ca,cn,mb⟩ ?_;refine Je ?_
   refine B1 (cmC c k F { X with bad:=X.bad++[rc] }) () ?_;refine Je ?_
   refine Ys fun o=>?_
   exact ⟨by rw [hz]<;>rfl,o.sub⟩
  ·refine Yf (by simpa using h2) ?_
   simp only [if_neg h2]
   refine Tr.jmp Am8 (Tr.eq (A15 ..) ?_);(try simp only[Nr,Nl,wl,Nat.reduceAdd,Nat.reduceMul,Int.reduceToNat])
   by_cases h1:(Y2 l).2=1
   ·refine Yf (by simpa using h1) ?_
    (refine Ja ?_;unhygienic intros)
    refine Ys fun o=>?_
    exact ⟨rfl,o.sub⟩
   ·refine Yt (by simpa using h1) ?_
    (refine Ja ?_;unhygienic intros)
    refine Ys fun o=>?_
    exact ⟨by rw [Hu7 l h1]<;>rfl,o.sub⟩
 ·refine (?_:Tr _ _ _ _) o
  refine Je ?_
  have e:U0 Y2 .zero X rc=((.zero,2),X):=by unfold U0;rw [hr]
  rw [e]
  (refine Ja ?_;unhygienic intros)
  refine Ys fun o=>?_
  exact ⟨rfl,o.sub⟩
theorem H90 (c k:Nat) (F:Fr) (X:CX) (rc:RecS) (ok:FrOk F) (hk:Q3 rc.kind=8):Ct A7 I9 [P0 c,.agg ⟨Y5 rc⟩,.func (.func A20) ⟨[]⟩ ⟨[]⟩] [cmC c k F X] fun v own =>
  v=.tuple ⟨[.agg ⟨Bc3 (U0 Z4 .zero X rc).1.1⟩,int (U0 Z4 .zero X rc).1.2]⟩∧own [cmC c k F (U0 Z4 .zero X rc).2]:=by
 refine Ct.of Al7 rfl fun h r=>Tr.eq (Dh8 ..) ?_;refine Je ?_
 (refine Ja ?_;unhygienic intros)
 refine Yc (D30 c k F X rc ok) ?_
 rintro v h (⟨l,a,cp,hr,hl,rfl,o⟩|⟨hr,rfl,o⟩)
 ·refine (?_:Tr _ _ _ _) o
  refine Je ?_
  have e:U0 Z4 .zero X rc=(Z4 l,if (Z4 l).2=2 then { X with bad:=X.bad++[rc] } else X):=by unfold U0;rw [hr]
  have hb:=D31 hr
  rw [e]
  rw [hk] at hl
  rw [hl]
  (refine Ja ?_;unhygienic intros)
  refine Yc (Hl0 a cp l hl) ?_;rintro _ h ⟨rfl,o⟩<;>(refine Jf o ?_;unhygienic intros)
  by_cases h2:(Z4 l).2=2
  ·refine Yt (by simpa using h2) ?_
   have hz:=Hv2 l (by omega)
   simp only [if_pos h2]
   refine B3 (cmC c k F X) fun u=>?_;refine Je ?_
   refine B3 (V4 c k F.env F.caps X.bad) fun ⟨ca,cn,mb⟩=>?_;refine Je ?_
   (refine Ja ?_;unhygienic intros)
   rw [Bt8,if_neg hb]
   (refine Ja ?_;unhygienic intros)
   rw [D28 hb]
   (refine Ja ?_;unhygienic intros)
   rw [Dq5 hb]
   (refine Ja ?_;unhygienic intros)
   rw [B99 X.bad 0 X.bad.length _ 0 rfl (by omega),Nat.zero_add]
   (refine Ja ?_;unhygienic intros)
   rw [D54]
   refine Tr.jmp Al7 (Tr.eq (A09 ..) ?_);(try simp only[Nr,Nl,wl,Nat.reduceAdd,Nat.reduceMul,Int.reduceToNat])
   refine Yt (by rw [bne_iff_ne];omega) ?_
   (refine Ja ?_;unhygienic intros)
   rw [show X.bad.length+1=(X.bad++[rc]).length by simp]
   refine B1 (V4 c k F.env F.caps (X.bad++[rc])) ⟨ca,cn,mb⟩ ?_;refine Je ?_
   refine B1 (cmC c k F { X with bad:=X.bad++[rc] }) () ?_;refine Je ?_
   refine Ys fun o=>?_
   exact ⟨by rw [hz]<;>rfl,o.sub⟩
  ·refine Yf (by simpa using h2) ?_
   simp only [if_neg h2]
   refine Tr.jmp Al7 (Tr.eq (A09 ..) ?_);(try simp only[Nr,Nl,wl,Nat.reduceAdd,Nat.reduceMul,Int.reduceToNat])
   by_cases h1:(Z4 l).2=1
   ·refine Yf (by simpa using h1) ?_
    (refine Ja ?_;unhygienic intros)
    refine Ys fun o=>?_
    exact ⟨rfl,o.sub⟩
   ·refine Yt (by simpa using h1) ?_
    (refine Ja ?_;unhygienic intros)
    refine Ys fun o=>?_
    exact ⟨by rw [Hv2 l h1]<;>rfl,o.sub⟩
 ·refine (?_:Tr _ _ _ _) o
  refine Je ?_
  have e:U0 Z4 .zero X rc=((.zero,2),X):=by unfold U0;rw [hr]
  rw [e]
  (refine Ja ?_;unhygienic intros)
  refine Ys fun o=>?_
  exact ⟨rfl,o.sub⟩
theorem Hc9 (c k:Nat) (F:Fr) (X:CX) (rc:RecS) (ok:FrOk F) (hk:Q3 rc.kind=40):Ct A7 H6 [P0 c,.agg ⟨Y5 rc⟩,.func (.func At5) ⟨[]⟩ ⟨[]⟩] [cmC c k F X] fun v own =>
  v=.tuple ⟨[.agg ⟨M7 (U0 V7 .zero X rc).1.1⟩,int (U0 V7 .zero X rc).1.2]⟩∧own [cmC c k F (U0 V7 .zero X rc).2]:=by
 refine Ct.of An7 rfl fun h r=>Tr.eq (Dg3 ..) ?_;refine Je ?_
 (refine Ja ?_;unhygienic intros)
 refine Yc (D30 c k F X rc ok) ?_
 rintro v h (⟨l,a,cp,hr,hl,rfl,o⟩|⟨hr,rfl,o⟩)
 ·refine (?_:Tr _ _ _ _) o
  refine Je ?_
  have e:U0 V7 .zero X rc=(V7 l,if (V7 l).2=2 then { X with bad:=X.bad++[rc] } else X):=by unfold U0;rw [hr]
  have hb:=D31 hr
  rw [e]
  rw [hk] at hl
  rw [hl]
  (refine Ja ?_;unhygienic intros)
  refine Yc (Hf2 a cp l hl) ?_;rintro _ h ⟨rfl,o⟩<;>(refine Jf o ?_;unhygienic intros)
  by_cases h2:(V7 l).2=2
  ·refine Yt (by simpa using h2) ?_
   have hz:=Hw3 l (by omega)
   simp only [if_pos h2]
   refine B3 (cmC c k F X) fun u=>?_;refine Je ?_
   refine B3 (V4 c k F.env F.caps X.bad) fun ⟨ca,cn,mb⟩=>?_;refine Je ?_
   (refine Ja ?_;unhygienic intros)
   rw [Bt8,if_neg hb]
   (refine Ja ?_;unhygienic intros)
   rw [D28 hb]
   (refine Ja ?_;unhygienic intros)
   rw [Dq5 hb]
   (refine Ja ?_;unhygienic intros)
   rw [B99 X.bad 0 X.bad.length _ 0 rfl (by omega),Nat.zero_add]
   (refine Ja ?_;unhygienic intros)
   rw [D54]
   refine Tr.jmp An7 (Tr.eq (A26 ..) ?_);(try simp only[Nr,Nl,wl,Nat.reduceAdd,Nat.reduceMul,Int.reduceToNat])
   refine Yt (by rw [bne_iff_ne];omega) ?_
   (refine Ja ?_;unhygienic intros)
   rw [show X.bad.length+1=(X.bad++[rc]).length by simp]
   refine B1 (V4 c k F.env F.caps (X.bad++[rc])) ⟨ca,cn,mb⟩ ?_;refine Je ?_
   refine B1 (cmC c k F { X with bad:=X.bad++[rc] }) () ?_;refine Je ?_
   refine Ys fun o=>?_
   exact ⟨by rw [hz]<;>rfl,o.sub⟩
  ·refine Yf (by simpa using h2) ?_
   simp only [if_neg h2]
   refine Tr.jmp An7 (Tr.eq (A26 ..) ?_);(try simp only[Nr,Nl,wl,Nat.reduceAdd,Nat.reduceMul,Int.reduceToNat])
   by_cases h1:(V7 l).2=1
   ·refine Yf (by simpa using h1) ?_
    (refine Ja ?_;unhygienic intros)
    refine Ys fun o=>?_
    exact ⟨rfl,o.sub⟩
   ·refine Yt (by simpa using h1) ?_
    (refine Ja ?_;unhygienic intros)
    refine Ys fun o=>?_
    exact ⟨by rw [Hw3 l h1]<;>rfl,o.sub⟩
 ·refine (?_:Tr _ _ _ _) o
  refine Je ?_
  have e:U0 V7 .zero X rc=((.zero,2),X):=by unfold U0;rw [hr]
  rw [e]
  (refine Ja ?_;unhygienic intros)
  refine Ys fun o=>?_
  exact ⟨rfl,o.sub⟩
def E84 (g:Int):List UInt8:=[b8 g,211,Bt1 [b8 g,211],0]
def Ar3 (l:List UInt8):Int × Int:=if byI l 0<8∧E84 (byI l 0)=l then (byI l 0,1) else (0,2)
theorem Gn0 (g:Int):Ct A7 Am4 [int g] [] fun v own =>
  (0≤g∧g<8∧∃ a c,v=.tuple ⟨[.slice a 4 c,.bool true]⟩∧own [slC false A3 1 a 4 c (A0 (E84 g))])∨(¬ (0≤g∧g<8)∧v=.tuple ⟨[.slice none 0 0,.bool false]⟩∧own []):=by
 refine Ct.of Ea3 rfl fun h r=>Tr.eq (D26 ..) ?_;refine Je ?_
 (refine Ja ?_;unhygienic intros)
 by_cases hg:0≤g∧g<8
 ·refine Yf (by simp;omega) ?_
  rw [Bf0]
  refine Yn fun b h=>?_
  rw [show ([.int .u8 ((b8 g).toNat:Int),.int .u8 211]:List Value)=A0 [b8 g,211] from rfl]
  refine Ah2 0 rfl 1 2 rfl (by omega) ?_
  refine Je ?_
  refine Tr.pcall (E56 (slC false A3 1 (some ⟨b,0,none⟩) 2 2 (A0 [b8 g,211])) (some ⟨b,0,none⟩) false 2 2 2 [b8 g,211] 2 (by simp) (by simp [A8])) ?_
  (refine Ja ?_;unhygienic intros)
  rw [show List.take 2 [b8 g,211]=[b8 g,211] from rfl,Dl0]
  refine Tr.xApd ⟨rfl,rfl,by simp [A8]⟩ fun a' c' h'=>?_
  refine Je ?_
  refine Ys fun o=>?_
  exact .inl ⟨hg.1,hg.2,a',c',rfl,(show Own h' (_::slC false A3 1 a' 4 c' (A0 (E84 g))::_) from o).sub⟩
 ·refine Yt (by simp;omega) ?_
  refine Ys fun o=>?_
  exact .inr ⟨hg,rfl,o.sub⟩
theorem H83 (l:List UInt8):∀ (m i:Nat) (r:List UInt8),l.length-i=m→ByteArray.toList.loop ⟨⟨l⟩⟩ i r=r.reverse++l.drop i:=by
 intro m
 induction m with
 | zero =>
  intro i r hm
  unfold ByteArray.toList.loop
  rw [if_neg (show ¬ i<(ByteArray.mk ⟨l⟩).size by show ¬ i<l.length;omega),List.drop_eq_nil_of_le (by omega)];simp
 | succ m ih =>
  intro i r hm
  have hlt:i<l.length:=by omega
  unfold ByteArray.toList.loop
  rw [if_pos (show i<(ByteArray.mk ⟨l⟩).size from hlt),ih (i+1) _ (by omega),List.drop_eq_getElem_cons hlt]
  have:(ByteArray.mk ⟨l⟩).get! i=l[i]:=by
   show (Array.mk l)[i]! = l[i]
   simp [hlt]
  rw [this];simp
theorem Gh5 (l:List UInt8):(ByteArray.mk ⟨l⟩).toList=l:=by
 unfold ByteArray.toList
 rw [H83 l _ 0 [] rfl];simp
theorem Hk5 (a:Option Addr) (c:Nat) (l:List UInt8) (hl:l.length=4):Ct A7 Ak8 [.slice a 4 c] [slC false A3 1 a 4 c (A0 l)] fun v own=>v=.tuple ⟨[int (Ar3 l).1,int (Ar3 l).2]⟩∧own [slC false A3 1 a 4 c (A0 l)]:=by
 refine Ct.of Et1 rfl fun h r=>Tr.eq (Es9 ..) ?_;refine Je ?_
 refine Yf rfl ?_
 (refine Ja ?_;unhygienic intros;repeat(refine Gw ?_;rintro px rfl;refine Ja ?_;unhygienic intros))
 refine Tr.xIntS (v:=byI l 0) (Ab7 (by omega)) ?_
 simp only [byI,Al3]
 refine Yc (Gn0 (byI l 0)) ?_
 rintro v h (⟨h1,h2,a1,c1,rfl,o⟩|⟨hn,rfl,o⟩)
 ·refine (?_:Tr _ _ _ _) o
  refine Je ?_
  (refine Ja ?_;unhygienic intros)
  rw [Gh5,Gh5]
  by_cases he:E84 (byI l 0)=l
  ·have e:Ar3 l=(byI l 0,1):=by unfold Ar3;rw [if_pos ⟨h2,he⟩]
   refine Yf (by simp [he]) ?_
   (refine Ja ?_;unhygienic intros)
   refine Tr.xIntS (v:=byI l 0) (Ab7 (by omega)) ?_
   refine Ys fun o=>?_
   rw [e];exact ⟨by simp only [byI,Al3],o.sub⟩
  ·have e:Ar3 l=(0,2):=by unfold Ar3;rw [if_neg (fun hh=>he hh.2)]
   refine Yt (by simp [he]) ?_
   refine Ys fun o=>?_
   rw [e];exact ⟨rfl,o.sub⟩
 ·refine (?_:Tr _ _ _ _) o
  refine Je ?_
  (refine Jb ?_;unhygienic intros)
  refine Yb (Yt rfl ?_)
  refine Ys fun o=>(?_:Tr _ _ _ _) o;refine Je ?_
  (refine Ja ?_;unhygienic intros)
  refine Ys fun o=>?_
  exact ⟨by unfold Ar3;rw [if_neg (by simp only [byI] at *;omega)],o.sub⟩
theorem Ht6 (l:List UInt8) (h:(Ar3 l).2≠1):(Ar3 l).1=0:=by
 unfold Ar3 at *;split<;>simp_all
theorem H74 (c k:Nat) (F:Fr) (X:CX) (rc:RecS) (ok:FrOk F) (hk:Q3 rc.kind=4):Ct A7 Q1 [P0 c,.agg ⟨Y5 rc⟩,.func (.func Ak8) ⟨[]⟩ ⟨[]⟩] [cmC c k F X] fun v own =>
  v=.tuple ⟨[int (U0 Ar3 0 X rc).1.1,int (U0 Ar3 0 X rc).1.2]⟩∧own [cmC c k F (U0 Ar3 0 X rc).2]:=by
 refine Ct.of A62 rfl fun h r=>Tr.eq (Ea6 ..) ?_;refine Je ?_
 (refine Ja ?_;unhygienic intros)
 refine Yc (D30 c k F X rc ok) ?_
 rintro v h (⟨l,a,cp,hr,hl,rfl,o⟩|⟨hr,rfl,o⟩)
 ·refine (?_:Tr _ _ _ _) o
  refine Je ?_
  have e:U0 Ar3 0 X rc=(Ar3 l,if (Ar3 l).2=2 then { X with bad:=X.bad++[rc] } else X):=by unfold U0;rw [hr]
  have hb:=D31 hr
  rw [e]
  rw [hk] at hl
  rw [hl]
  (refine Ja ?_;unhygienic intros)
  refine Yc (Hk5 a cp l hl) ?_;rintro _ h ⟨rfl,o⟩<;>(refine Jf o ?_;unhygienic intros)
  by_cases h2:(Ar3 l).2=2
  ·refine Yt (by simpa using h2) ?_
   have hz:=Ht6 l (by omega)
   simp only [if_pos h2]
   refine B3 (cmC c k F X) fun u=>?_;refine Je ?_
   refine B3 (V4 c k F.env F.caps X.bad) fun ⟨ca,cn,mb⟩=>?_;refine Je ?_
   (refine Ja ?_;unhygienic intros)
   rw [Bt8,if_neg hb]
   (refine Ja ?_;unhygienic intros)
   rw [D28 hb]
   (refine Ja ?_;unhygienic intros)
   rw [Dq5 hb]
   (refine Ja ?_;unhygienic intros)
   rw [B99 X.bad 0 X.bad.length _ 0 rfl (by omega),Nat.zero_add]
   (refine Ja ?_;unhygienic intros)
   rw [D54]
   refine Tr.jmp A62 (Tr.eq (Bj9 ..) ?_);(try simp only[Nr,Nl,wl,Nat.reduceAdd,Nat.reduceMul,Int.reduceToNat])
   refine Yt (by rw [bne_iff_ne];omega) ?_
   rw [show X.bad.length+1=(X.bad++[rc]).length by simp]
   refine B1 (V4 c k F.env F.caps (X.bad++[rc])) ⟨ca,cn,mb⟩ ?_;refine Je ?_
   refine B1 (cmC c k F { X with bad:=X.bad++[rc] }) () ?_;refine Je ?_
   refine Ys fun o=>?_
   exact ⟨by rw [hz],o.sub⟩
  ·refine Yf (by simpa using h2) ?_
   simp only [if_neg h2]
   refine Tr.jmp A62 (Tr.eq (Bj9 ..) ?_);(try simp only[Nr,Nl,wl,Nat.reduceAdd,Nat.reduceMul,Int.reduceToNat])
   by_cases h1:(Ar3 l).2=1
   ·refine Yf (by simpa using h1) ?_
    refine Ys fun o=>?_
    exact ⟨rfl,o.sub⟩
   ·refine Yt (by simpa using h1) ?_
    refine Ys fun o=>?_
    exact ⟨by rw [Ht6 l h1],o.sub⟩
 ·refine (?_:Tr _ _ _ _) o
  refine Je ?_
  have e:U0 Ar3 0 X rc=((0,2),X):=by unfold U0;rw [hr]
  rw [e]
  (refine Ja ?_;unhygienic intros)
  refine Ys fun o=>?_
  exact ⟨rfl,o.sub⟩
abbrev D73 (X:CX) (i:Int):(ProcS × Int) × CX:=U0 Y2 .zero X ⟨1,i⟩
abbrev D62 (X:CX) (i:Int):(FileS × Int) × CX:=U0 Z4 .zero X ⟨2,i⟩
abbrev Di1 (X:CX) (i:Int):(PipeS × Int) × CX:=U0 V7 .zero X ⟨3,i⟩
abbrev Ep2 (X:CX):(PipeS × Int) × CX:=U0 V7 .zero X ⟨4,0⟩
abbrev Ef8 (X:CX):(Int × Int) × CX:=U0 Ar3 0 X ⟨5,0⟩
abbrev Bf1 (X:CX) (i:Int) (p:ProcS):Bool × CX:=wrX X ⟨1,i⟩ (At4 p) (okS p)
abbrev Bf2 (X:CX) (i:Int) (p:FileS):Bool × CX:=wrX X ⟨2,i⟩ (Ag6 p) (okF p)
abbrev Bs3 (X:CX) (i:Int) (p:PipeS):Bool × CX:=wrX X ⟨3,i⟩ (I8 p) (okP p)
abbrev B67 (X:CX) (rc:RecS):Bool × CX:=wrX X rc (List.replicate (Q3 rc.kind) 0) true
theorem D23 (X:CX) (rc:RecS) (b:List UInt8):wrX X rc b false=(false,X):=by
 unfold wrX;split<;>simp
theorem Gl1 (c k:Nat) (F:Fr) (X:CX) (rc:RecS) (ok:FrOk F):Ct A7 W7 [P0 c,.agg ⟨Y5 rc⟩] [cmC c k F X] fun v own =>
  v=.bool (B67 X rc).1∧own [cmC c k F (B67 X rc).2]:=by
 refine Ct.of Dp5 rfl fun h r=>Tr.eq (Dp3 ..) ?_;refine Je ?_
 refine B3 (cmC c k F X) fun u=>?_;refine Je ?_
 refine O9 2 rfl fun f=>?_
 (repeat' first|refine Gu ?_|(with_reducible first|refine Gn fun b h=>?_|apply Gx|apply Gy|rintro px rfl|apply Gw|refine fun(h:H)=>?_|intro hb)|refine Gs ?_|refine Gt ?_|exact Gz rfl|fail)
 refine Yc (Ef3 c k F.env F.caps X.bad rc ok.small ok.ne) ?_;rintro _ h ⟨rfl,o⟩<;>(refine (?_:Tr _ _ _ _) o;refine Je ?_;(repeat' first|refine Gu ?_|(with_reducible first|refine Gn fun b h=>?_|apply Gx|apply Gy|rintro px rfl|apply Gw|refine fun(h:H)=>?_|intro hb)|refine Gs ?_|refine Gt ?_|exact Gz rfl|fail))
 have em:=f.mlen ok
 cases hp:G3 F.caps.length rc with
 | none =>
  (repeat' first|refine Gu ?_|(with_reducible first|refine Gn fun b h=>?_|apply Gx|apply Gy|rintro px rfl|apply Gw|refine fun(h:H)=>?_|intro hb)|refine Gs ?_|refine Gt ?_|exact Gz rfl|fail)
  rw [show G7 (Int.toNat 0) [.int .u8 0]=A0 [] from rfl]
  refine Ah2 0 rfl 1 0 rfl (by omega) ?_
  refine Je ?_
  refine B1 (cmC c k F X) () ?_;refine Je ?_
  refine Yc (Bu2 c k F X rc ok [] false (some ⟨b,0,none⟩) 0 (by simp)) ?_;rintro _ h ⟨rfl,o⟩<;>(refine (?_:Tr _ _ _ _) o;refine Je ?_;(repeat' first|refine Gu ?_|(with_reducible first|refine Gn fun b h=>?_|apply Gx|apply Gy|rintro px rfl|apply Gw|refine fun(h:H)=>?_|intro hb)|refine Gs ?_|refine Gt ?_|exact Gz rfl|fail))
  refine Ys fun o=>?_
  have e:B67 X rc=(false,X):=by unfold B67 wrX;rw [em,hp]
  rw [D23] at o
  rw [e,D23]
  exact ⟨by first|rfl|trivial,o.sub⟩
 | some p =>
  obtain ⟨j,a,n⟩:=p
  have hn:=Df8 hp
  subst hn
  have h40:Q3 rc.kind≤40:=by unfold Q3;(repeat' split)<;>omega
  (repeat' first|refine Gu ?_|(with_reducible first|refine Gn fun b h=>?_|apply Gx|apply Gy|rintro px rfl|apply Gw|refine fun(h:H)=>?_|intro hb)|refine Gs ?_|refine Gt ?_|exact Gz rfl|fail)
  refine Tr.ck ⟨by omega,by omega,by simp only [A8];omega⟩ ?_
  refine Yn fun b1 h=>?_
  rw [Int.toNat_natCast,show G7 (Q3 rc.kind) [.int .u8 0]=A0 (List.replicate (Q3 rc.kind) 0) by simp [G7,A0]]
  refine Ah2 0 rfl 1 (Q3 rc.kind) (by simp [A0]) (by omega) ?_
  refine Je ?_
  refine B1 (cmC c k F X) () ?_;refine Je ?_
  have J:=Bu2 c k F X rc ok (List.replicate (Q3 rc.kind) 0) true (some ⟨b1,0,none⟩) (Q3 rc.kind) (by simp)
  rw [List.length_replicate] at J
  refine Yc (J) ?_;rintro _ h ⟨rfl,o⟩<;>(refine (?_:Tr _ _ _ _) o;refine Je ?_;(repeat' first|refine Gu ?_|(with_reducible first|refine Gn fun b h=>?_|apply Gx|apply Gy|rintro px rfl|apply Gw|refine fun(h:H)=>?_|intro hb)|refine Gs ?_|refine Gt ?_|exact Gz rfl|fail))
  refine Ys fun o=>?_
  exact ⟨rfl,o.sub⟩
theorem D91 (c k:Nat) (F:Fr) (X:CX) (rc:RecS) (ok:FrOk F):Ct A7 I7 [P0 c,.agg ⟨Y5 rc⟩,.slice none 0 0,.bool false] [cmC c k F X] fun v own=>v=.bool false∧own [cmC c k F X]:=by
 intro h r o
 have o1:Own h (slC false A3 1 none 0 0 (A0 [])::cmC c k F X::r):=o.slNil false A3 (by omega)
 obtain ⟨v,h',e,rfl,o2⟩:=Bu2 c k F X rc ok [] false none 0 (by simp) h r (o1.perm (.swap _ _ _))
 rw [D23] at e o2
 exact ⟨_,h',e,rfl,o2.sub⟩
theorem E36 (i:Int):Ct A7 A11 [int i] [] fun v own=>v=.agg ⟨Y5 ⟨1,i⟩⟩∧own []:=by
 refine Ct.of Ge1 rfl fun h r=>Tr.eq (Gf4 ..) ?_;refine Je ?_
 (refine Ja ?_;unhygienic intros)
 refine Ys fun o=>?_
 exact ⟨rfl,o.sub⟩
theorem Ea4 (i:Int):Ct A7 Ap9 [int i] [] fun v own=>v=.agg ⟨Y5 ⟨2,i⟩⟩∧own []:=by
 refine Ct.of Gg7 rfl fun h r=>Tr.eq (Ge6 ..) ?_;refine Je ?_
 (refine Ja ?_;unhygienic intros)
 refine Ys fun o=>?_
 exact ⟨rfl,o.sub⟩
theorem D43 (i:Int):Ct A7 Ap8 [int i] [] fun v own=>v=.agg ⟨Y5 ⟨3,i⟩⟩∧own []:=by
 refine Ct.of Gd7 rfl fun h r=>Tr.eq (Gg0 ..) ?_;refine Je ?_
 (refine Ja ?_;unhygienic intros)
 refine Ys fun o=>?_
 exact ⟨rfl,o.sub⟩
theorem Gu5 (c k:Nat) (F:Fr) (X:CX) (ok:FrOk F) (i:Int):Ct A7 Aa0 [P0 c,int i] [cmC c k F X] fun v own=>v=.tuple ⟨[.agg ⟨D6 (D73 X i).1.1⟩,int (D73 X i).1.2]⟩∧own [cmC c k F (D73 X i).2]:=by
 refine Ct.of Dv8 rfl fun h r=>Tr.eq (Dv5 ..) ?_;refine Je ?_
 (refine Ja ?_;unhygienic intros)
 refine Yc (E36 i) ?_;rintro _ h ⟨rfl,o⟩<;>(refine Jf o ?_;unhygienic intros)
 refine Yc (Ib6 c k F X ⟨1,i⟩ ok rfl) ?_;rintro _ h ⟨rfl,o⟩<;>(refine Jf o ?_;unhygienic intros)
 refine Ys fun o=>?_
 exact ⟨rfl,o.sub⟩
theorem Dj7 (c k:Nat) (F:Fr) (X:CX) (ok:FrOk F) (i:Int):Ct A7 J7 [P0 c,int i] [cmC c k F X] fun v own=>v=.tuple ⟨[.agg ⟨Bc3 (D62 X i).1.1⟩,int (D62 X i).1.2]⟩∧own [cmC c k F (D62 X i).2]:=by
 refine Ct.of Dw7 rfl fun h r=>Tr.eq (Dv9 ..) ?_;refine Je ?_
 (refine Ja ?_;unhygienic intros)
 refine Yc (Ea4 i) ?_;rintro _ h ⟨rfl,o⟩<;>(refine Jf o ?_;unhygienic intros)
 refine Yc (H90 c k F X ⟨2,i⟩ ok rfl) ?_;rintro _ h ⟨rfl,o⟩<;>(refine Jf o ?_;unhygienic intros)
 refine Ys fun o=>?_
 exact ⟨rfl,o.sub⟩
theorem D72 (c k:Nat) (F:Fr) (X:CX) (ok:FrOk F) (i:Int):Ct A7 O0 [P0 c,int i] [cmC c k F X] fun v own=>v=.tuple ⟨[.agg ⟨M7 (Di1 X i).1.1⟩,int (Di1 X i).1.2]⟩∧own [cmC c k F (Di1 X i).2]:=by
 refine Ct.of Dx3 rfl fun h r=>Tr.eq (Dy0 ..) ?_;refine Je ?_
 (refine Ja ?_;unhygienic intros)
 refine Yc (D43 i) ?_;rintro _ h ⟨rfl,o⟩<;>(refine Jf o ?_;unhygienic intros)
 refine Yc (Hc9 c k F X ⟨3,i⟩ ok rfl) ?_;rintro _ h ⟨rfl,o⟩<;>(refine Jf o ?_;unhygienic intros)
 refine Ys fun o=>?_
 exact ⟨rfl,o.sub⟩
theorem Hz4 (c k:Nat) (F:Fr) (X:CX) (ok:FrOk F):Ct A7 Ah7 [P0 c] [cmC c k F X] fun v own=>v=.tuple ⟨[.agg ⟨M7 (Ep2 X).1.1⟩,int (Ep2 X).1.2]⟩∧own [cmC c k F (Ep2 X).2]:=by
 refine Ct.of Du4 rfl fun h r=>Tr.eq (Dx2 ..) ?_;refine Je ?_
 (refine Ja ?_;unhygienic intros)
 refine Yc (Hc9 c k F X ⟨4,0⟩ ok rfl) ?_;rintro _ h ⟨rfl,o⟩<;>(refine Jf o ?_;unhygienic intros)
 refine Ys fun o=>?_
 exact ⟨rfl,o.sub⟩
theorem Hx2 (c k:Nat) (F:Fr) (X:CX) (ok:FrOk F):Ct A7 Af8 [P0 c] [cmC c k F X] fun v own=>v=.tuple ⟨[int (Ef8 X).1.1,.bool ((Ef8 X).1.2==1)]⟩∧own [cmC c k F (Ef8 X).2]:=by
 refine Ct.of Dp7 rfl fun h r=>Tr.eq (Dp0 ..) ?_;refine Je ?_
 (refine Ja ?_;unhygienic intros)
 refine Yc (H74 c k F X ⟨5,0⟩ ok rfl) ?_;rintro _ h ⟨rfl,o⟩<;>(refine Jf o ?_;unhygienic intros)
 refine Ys fun o=>?_
 exact ⟨rfl,o.sub⟩
theorem Dn3 (f:FileS):(Ag6 f).length=8:=rfl
theorem Dw5 (c k:Nat) (F:Fr) (X:CX) (ok:FrOk F) (i:Int) (p:ProcS):Ct A7 O1 [P0 c,int i,.agg ⟨D6 p⟩] [cmC c k F X] fun v own=>v=.bool (Bf1 X i p).1∧own [cmC c k F (Bf1 X i p).2]:=by
 refine Ct.of Dg4 rfl fun h r=>Tr.eq (Dg7 ..) ?_;refine Je ?_
 (refine Ja ?_;unhygienic intros)
 refine Yc (E93 p) ?_
 rintro v h (⟨hk,a,rfl,o⟩|⟨hk,rfl,o⟩)
 ·refine (?_:Tr _ _ _ _) o
  refine Je ?_
  (refine Ja ?_;unhygienic intros)
  refine Yc (E36 i) ?_;rintro _ h ⟨rfl,o⟩<;>(refine Jf o ?_;unhygienic intros)
  have J:=Bu2 c k F X ⟨1,i⟩ ok (At4 p) true a 24 (fun _=>D93 p)
  rw [D93] at J
  refine Yc (J) ?_;rintro _ h ⟨rfl,o⟩<;>(refine Jf o ?_;unhygienic intros)
  refine Ys fun o=>?_
  unfold Bf1;rw [hk]
  exact ⟨rfl,o.sub⟩
 ·refine (?_:Tr _ _ _ _) o
  refine Je ?_
  (refine Ja ?_;unhygienic intros)
  refine Yc (E36 i) ?_;rintro _ h ⟨rfl,o⟩<;>(refine Jf o ?_;unhygienic intros)
  refine Yc (D91 c k F X ⟨1,i⟩ ok) ?_;rintro _ h ⟨rfl,o⟩<;>(refine Jf o ?_;unhygienic intros)
  refine Ys fun o=>?_
  unfold Bf1;rw [hk,D23]
  exact ⟨rfl,o.sub⟩
theorem B62 (c k:Nat) (F:Fr) (X:CX) (ok:FrOk F) (i:Int) (p:FileS):Ct A7 J0 [P0 c,int i,.agg ⟨Bc3 p⟩] [cmC c k F X] fun v own=>v=.bool (Bf2 X i p).1∧own [cmC c k F (Bf2 X i p).2]:=by
 refine Ct.of De8 rfl fun h r=>Tr.eq (Dh1 ..) ?_;refine Je ?_
 (refine Ja ?_;unhygienic intros)
 refine Yc (E99 p) ?_
 rintro v h (⟨hk,a,rfl,o⟩|⟨hk,rfl,o⟩)
 ·refine (?_:Tr _ _ _ _) o
  refine Je ?_
  (refine Ja ?_;unhygienic intros)
  refine Yc (Ea4 i) ?_;rintro _ h ⟨rfl,o⟩<;>(refine Jf o ?_;unhygienic intros)
  have J:=Bu2 c k F X ⟨2,i⟩ ok (Ag6 p) true a 8 (fun _=>Dn3 p)
  rw [Dn3] at J
  refine Yc (J) ?_;rintro _ h ⟨rfl,o⟩<;>(refine Jf o ?_;unhygienic intros)
  refine Ys fun o=>?_
  unfold Bf2;rw [hk]
  exact ⟨rfl,o.sub⟩
 ·refine (?_:Tr _ _ _ _) o
  refine Je ?_
  (refine Ja ?_;unhygienic intros)
  refine Yc (Ea4 i) ?_;rintro _ h ⟨rfl,o⟩<;>(refine Jf o ?_;unhygienic intros)
  refine Yc (D91 c k F X ⟨2,i⟩ ok) ?_;rintro _ h ⟨rfl,o⟩<;>(refine Jf o ?_;unhygienic intros)
  refine Ys fun o=>?_
  unfold Bf2;rw [hk,D23]
  exact ⟨rfl,o.sub⟩
theorem Ew8 (c k:Nat) (F:Fr) (X:CX) (ok:FrOk F) (i:Int) (p:PipeS):Ct A7 S7 [P0 c,int i,.agg ⟨M7 p⟩] [cmC c k F X] fun v own=>v=.bool (Bs3 X i p).1∧own [cmC c k F (Bs3 X i p).2]:=by
 refine Ct.of Dg6 rfl fun h r=>Tr.eq (Df5 ..) ?_;refine Je ?_
 (refine Ja ?_;unhygienic intros)
 refine Yc (Ga7 p) ?_
 rintro v h (⟨hk,a,rfl,o⟩|⟨hk,rfl,o⟩)
 ·refine (?_:Tr _ _ _ _) o
  refine Je ?_
  (refine Ja ?_;unhygienic intros)
  refine Yc (D43 i) ?_;rintro _ h ⟨rfl,o⟩<;>(refine Jf o ?_;unhygienic intros)
  have J:=Bu2 c k F X ⟨3,i⟩ ok (I8 p) true a 40 (fun _=>Br6 p.len)
  rw [Br6 p.len] at J
  refine Yc (J) ?_;rintro _ h ⟨rfl,o⟩<;>(refine Jf o ?_;unhygienic intros)
  refine Ys fun o=>?_
  unfold Bs3;rw [hk]
  exact ⟨rfl,o.sub⟩
 ·refine (?_:Tr _ _ _ _) o
  refine Je ?_
  (refine Ja ?_;unhygienic intros)
  refine Yc (D43 i) ?_;rintro _ h ⟨rfl,o⟩<;>(refine Jf o ?_;unhygienic intros)
  refine Yc (D91 c k F X ⟨3,i⟩ ok) ?_;rintro _ h ⟨rfl,o⟩<;>(refine Jf o ?_;unhygienic intros)
  refine Ys fun o=>?_
  unfold Bs3;rw [hk,D23]
  exact ⟨rfl,o.sub⟩
theorem G17 (c k:Nat) (F:Fr) (X:CX) (ok:FrOk F) (i:Int):Ct A7 Aa5 [P0 c,int i] [cmC c k F X] fun v own=>v=.bool (B67 X ⟨2,i⟩).1∧own [cmC c k F (B67 X ⟨2,i⟩).2]:=by
 refine Ct.of Db4 rfl fun h r=>Tr.eq (Da8 ..) ?_;refine Je ?_
 refine Yc (Ea4 i) ?_;rintro _ h ⟨rfl,o⟩<;>(refine Jf o ?_;unhygienic intros)
 refine Yc (Gl1 c k F X ⟨2,i⟩ ok) ?_;rintro _ h ⟨rfl,o⟩<;>(refine Jf o ?_;unhygienic intros)
 refine Ys fun o=>?_
 exact ⟨rfl,o.sub⟩
theorem Gw0 (c k:Nat) (F:Fr) (X:CX) (ok:FrOk F) (i:Int):Ct A7 Aa3 [P0 c,int i] [cmC c k F X] fun v own=>v=.bool (B67 X ⟨3,i⟩).1∧own [cmC c k F (B67 X ⟨3,i⟩).2]:=by
 refine Ct.of Dc1 rfl fun h r=>Tr.eq (Da7 ..) ?_;refine Je ?_
 refine Yc (D43 i) ?_;rintro _ h ⟨rfl,o⟩<;>(refine Jf o ?_;unhygienic intros)
 refine Yc (Gl1 c k F X ⟨3,i⟩ ok) ?_;rintro _ h ⟨rfl,o⟩<;>(refine Jf o ?_;unhygienic intros)
 refine Ys fun o=>?_
 exact ⟨rfl,o.sub⟩
def Dh3 (f:CX→Int→CX):Nat→Int→CX→CX
 | 0,_,X=>X
 | m+1,i,X=>Dh3 f m (i+1) (f X i)
def E55 (X:CX):CX:=(Ef8 (Ep2 X).2).2
def G43 (nc:Nat) (X:CX):CX:=E55 (Dh3 (fun X i=>(Di1 X i).2) (3+nc) 0 X)
def Gr6 (nc:Nat) (X:CX):CX:=G43 nc (Dh3 (fun X i=>(D62 X i).2) 12 0 X)
def lookN (nc:Nat) (X:CX):CX:=Gr6 nc (Dh3 (fun X i=>(D73 X i).2) 8 0 X)
def Gb2 (X:CX):CX:=lookN X.m.length X
theorem Hg6 (c k:Nat) (F:Fr) (ok:FrOk F):∀ (m:Nat) (i:Int) (X:CX),0≤i→i+m=3+F.caps.length →
  CtJ G2 B7 Ab8 [(0,P0 c),(20,int (3+F.caps.length)),(21,int i)] [cmC c k F X] fun v own=>v=.tuple ⟨[]⟩∧own [cmC c k F (E55 (Dh3 (fun X i=>(Di1 X i).2) m i X))]:=by
 have hs:=ok.small
 intro m
 induction m with
 | zero =>
  intro i X h0 hi
  refine CtJ.of N9 fun h r=>Tr.eq (Bd2 ..) ?_;refine Je ?_
  refine Yf (by simp;omega) ?_
  refine Yc (Hz4 c k F X ok) ?_;rintro _ h ⟨rfl,o⟩<;>(refine Jf o ?_;unhygienic intros)
  refine Yc (Hx2 c k F (Ep2 X).2 ok) ?_;rintro _ h ⟨rfl,o⟩<;>(refine Jf o ?_;unhygienic intros)
  refine Ys fun o=>?_
  exact ⟨rfl,o⟩
 | succ m ih =>
  intro i X h0 hi
  have e1:IntKind.wrap .i64 (i+1)=i+1:=by rw [A6];omega
  refine CtJ.of N9 fun h r=>Tr.eq (Bd2 ..) ?_;refine Je ?_
  refine Yt (by simp;omega) ?_
  refine Yc (D72 c k F X ok i) ?_;rintro _ h ⟨rfl,o⟩<;>(refine Jf o ?_;unhygienic intros)
  rw [e1]
  refine Yr (ih (i+1) (Di1 X i).2 (by omega) (by omega)) ?_
  rintro _ h ⟨rfl,o⟩
  exact ⟨rfl,o⟩
theorem Hi4 (c k:Nat) (F:Fr) (ok:FrOk F):∀ (m:Nat) (i:Int) (X:CX),0≤i→i+m=12 →
  CtJ G2 B7 Ac2 [(0,P0 c),(12,int i)] [cmC c k F X] fun v own=>v=.tuple ⟨[]⟩∧own [cmC c k F (G43 F.caps.length (Dh3 (fun X i=>(D62 X i).2) m i X))]:=by
 have hs:=ok.small
 intro m
 induction m with
 | zero =>
  intro i X h0 hi
  refine CtJ.of N9 fun h r=>Tr.eq (Bb8 ..) ?_;refine Je ?_
  refine Yf (by simp;omega) ?_
  refine B3 (cmC c k F X) fun u=>?_;refine Je ?_
  refine Tr.pcall (Gw5 c k F.env F.caps X.bad 3 ok.small) ?_;refine Je ?_;(refine Ja ?_;unhygienic intros)
  refine B1 (cmC c k F X) () ?_;refine Je ?_
  refine Yr (Hg6 c k F ok (3+F.caps.length) 0 X (by omega) (by omega)) ?_
  rintro _ h ⟨rfl,o⟩
  exact ⟨rfl,o⟩
 | succ m ih =>
  intro i X h0 hi
  have e1:IntKind.wrap .i64 (i+1)=i+1:=by rw [A6];omega
  refine CtJ.of N9 fun h r=>Tr.eq (Bb8 ..) ?_;refine Je ?_
  refine Yt (by simp;omega) ?_
  refine Yc (Dj7 c k F X ok i) ?_;rintro _ h ⟨rfl,o⟩<;>(refine Jf o ?_;unhygienic intros)
  rw [e1]
  refine Yr (ih (i+1) (D62 X i).2 (by omega) (by omega)) ?_
  rintro _ h ⟨rfl,o⟩
  exact ⟨rfl,o⟩
theorem Hj0 (c k:Nat) (F:Fr) (ok:FrOk F):∀ (m:Nat) (i:Int) (X:CX),0≤i→i+m=8 →
  CtJ G2 B7 Ab9 [(0,P0 c),(5,int i)] [cmC c k F X] fun v own=>v=.tuple ⟨[]⟩∧own [cmC c k F (Gr6 F.caps.length (Dh3 (fun X i=>(D73 X i).2) m i X))]:=by
 intro m
 induction m with
 | zero =>
  intro i X h0 hi
  refine CtJ.of N9 fun h r=>Tr.eq (Bb9 ..) ?_;refine Je ?_
  refine Yf (by simp;omega) ?_
  refine Yr (Hi4 c k F ok 12 0 X (by omega) (by omega)) ?_
  rintro _ h ⟨rfl,o⟩
  exact ⟨rfl,o⟩
 | succ m ih =>
  intro i X h0 hi
  have e1:IntKind.wrap .i64 (i+1)=i+1:=by rw [A6];omega
  refine CtJ.of N9 fun h r=>Tr.eq (Bb9 ..) ?_;refine Je ?_
  refine Yt (by simp;omega) ?_
  refine Yc (Gu5 c k F X ok i) ?_;rintro _ h ⟨rfl,o⟩<;>(refine Jf o ?_;unhygienic intros)
  rw [e1]
  refine Yr (ih (i+1) (D73 X i).2 (by omega) (by omega)) ?_
  rintro _ h ⟨rfl,o⟩
  exact ⟨rfl,o⟩
theorem Hc5 (c k:Nat) (F:Fr) (X:CX) (ok:FrOk F):Ct A7 B7 [P0 c] [cmC c k F X] fun v own=>v=.tuple ⟨[]⟩∧own [cmC c k F (Gb2 X)]:=by
 refine Ct.of N9 rfl fun h r=>Tr.eq (Du0 ..) ?_;refine Je ?_
 intro o
 obtain ⟨u,o1⟩:=Own.unfold (cmC c k F X) o
 have f:=(Own.front o1 (i:=2) rfl).pure
 have e:Gb2 X=lookN F.caps.length X:=by unfold Gb2;rw [f.mlen ok]
 rw [e]
 refine (?_:Tr _ _ _ _) o
 refine Yr (Hj0 c k F ok 8 0 X (by omega) (by omega)) ?_
 rintro _ h ⟨rfl,o⟩
 exact ⟨rfl,o⟩
end Go.EQ
