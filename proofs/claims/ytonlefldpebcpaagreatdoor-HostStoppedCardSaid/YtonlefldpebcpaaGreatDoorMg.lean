/- One that is stopped does nothing till it goes on, and holds nobody up; then its call is done. -/
import Derived.Test.YtonlefldpebcpaaGreatDoorMf
set_option linter.all false
set_option maxRecDepth 10000
namespace Go.EQ
open Go Go.NN
theorem Y0 (l:List UInt8):(A0 l).length=l.length:=by simp [A0]
theorem Ec8 {l:List UInt8} {i:Nat} {x:UInt8} (h:l[i]?=some x):(A0 l)[i]?=some (.int .u8 x.toNat):=by
 unfold A0;rw [List.getElem?_map,h];rfl
def Em0 (n:Int) (l:List UInt8):Int:=l.foldl (fun n c=>IntKind.wrap .u8 (n+c.toNat)) n
def Gr4 (l:List UInt8):Int:=Em0 (IntKind.wrap .u8 l.length) l
theorem Ib8 (p:HP) (a:Option Addr) (ro:Bool) (n c d:Nat) (l:List UInt8) [ks:IsSl p a ro A4 1 n c (A0 l)] (x:Nat) (hx:x≤l.length) (hl:l.length≤A8):∀ (m i:Nat) (acc:Int),x-i=m→i≤x →
  Y3 I4 Ad0 Bp7 [(3,.int .u8 acc),(9,.slice a x d),(10,int x),(11,int i)] [p] (.int .u8 (Em0 acc ((l.take x).drop i))):=by
 intro m
 induction m with
 | zero =>
  intro i acc hm hi
  refine Y3.of D69 fun h r=>Tr.eq (Ee6 ..) ?_;refine Je ?_
  refine Yf (by simp;omega) ?_
  refine Ys fun o=>?_
  rw [List.drop_eq_nil_of_le (by simp;omega)];exact ⟨rfl,rfl⟩
 | succ m ih =>
  intro i acc hm hi
  have hlt:i<(l.take x).length:=by rw [List.length_take];omega
  have hp:l[i]?=some (l.take x)[i]:=by
   rw [List.getElem_take];exact List.getElem?_eq_getElem (by omega)
  have hd:(l.take x).drop i=(l.take x)[i]::(l.take x).drop (i+1):=List.drop_eq_getElem_cons hlt
  generalize (l.take x)[i]=y at hp hd
  have e1:IntKind.wrap .i64 ((i:Int)+1)=((i+1:Nat):Int):=by rw [B4];simp only [A8] at hl;omega
  refine Y3.of D69 fun h r=>Tr.eq (Ee6 ..) ?_;refine Je ?_
  refine Yt (by simp;omega) ?_
  refine Ae9 0 rfl fun h1 h2 h3=>?_
  rw [Y0] at h1
  (refine Ja ?_;intros;repeat(refine Gw ?_;rintro px rfl;refine Ja ?_;intros))
  refine Tr.xIntS (v:=y.toNat) (by simpa using Ec8 hp) ?_
  rw [e1,hd]
  exact Ab2 (ih (i+1) _ (by omega) (by omega)) (r:=r) (by simp) fun o=>⟨rfl,rfl⟩
theorem Gq0 (p:HP) (a:Option Addr) (ro:Bool) (n c d:Nat) (l:List UInt8) [ks:IsSl p a ro A4 1 n c (A0 l)] (x:Nat) (hx:x≤l.length) (hl:l.length≤A8) :
  CtP A6 Ad0 [.slice a x d] [p] (.int .u8 (Gr4 (l.take x))):=by
 refine CtP.of D69 rfl fun h r=>Tr.eq (Hp9 ..) ?_;refine Je ?_
 have e:(l.take x).length=x:=by rw [List.length_take];omega
 have J:=Ib8 p a ro n c d l x hx hl _ 0 (IntKind.wrap .u8 x) rfl (by omega)
 rw [List.drop_zero] at J
 refine Ab2 J (r:=r) (by simp) fun o=>⟨?_,rfl⟩
 unfold Gr4;rw [e]
def D43:Nat→List UInt8→Int
 | _,[]=>-1
 | i,x::l=>if x≠0 then i else D43 (i+1) l
theorem Gx9:∀ (l:List UInt8) (i:Nat),decide (D43 i l≥0)=!l.all (·==0)
 | [],i=>by simp [D43]
 | x::l,i=>by
  unfold D43
  by_cases h:x=0
  ·rw [if_neg (by simp [h]),Gx9 l (i+1)];simp [h]
  ·rw [if_pos h];simp [h]
theorem I33 (x:UInt8):CtP A6 Ai5 [.int .u8 x.toNat] [] (.bool (x != 0)):=by
 refine CtP.of Gj3 rfl fun h r=>Tr.eq (Gq4 ..) ?_;refine Je ?_
 refine Ys fun o=>?_
 refine ⟨?_,rfl⟩
 congr 1
 have:((x.toNat:Int)=0)↔x=0:=by
  constructor
  ·intro h;exact UInt8.toNat.inj (by simpa using (show x.toNat=0 by omega))
  ·rintro rfl;rfl
 by_cases h:x=0
 ·subst h;rfl
 ·rw [bne_iff_ne.2 h,bne_iff_ne];intro h2;exact h (this.1 h2)
theorem Ge1 (p:HP) (a:Option Addr) (ro:Bool) (c:Nat) (l:List UInt8) [ks:IsSl p a ro A4 1 l.length c (A0 l)] (hl:l.length≤A8):∀ (m i:Nat),l.length-i=m→i≤l.length →
  Y3 I4 G0 S7 [(0,.slice a l.length c),(1,.func (.func Ai5) ⟨[]⟩ ⟨[]⟩),(7,int l.length),(8,int i)] [p] (int (D43 i (l.drop i))):=by
 intro m
 induction m with
 | zero =>
  intro i hm hi
  refine Y3.of Ag8 fun h r=>Tr.eq (Av0 ..) ?_;refine Je ?_
  refine Yf (by simp;omega) ?_
  refine Ys fun o=>?_
  rw [List.drop_eq_nil_of_le (by omega)];exact ⟨rfl,rfl⟩
 | succ m ih =>
  intro i hm hi
  have hlt:i<l.length:=by omega
  have hp:l[i]?=some l[i]:=List.getElem?_eq_getElem hlt
  have hd:l.drop i=l[i]::l.drop (i+1):=List.drop_eq_getElem_cons hlt
  generalize l[i]=x at hp hd
  have e1:IntKind.wrap .i64 ((i:Int)+1)=((i+1:Nat):Int):=by rw [B4];simp only [A8] at hl;omega
  refine Y3.of Ag8 fun h r=>Tr.eq (Av0 ..) ?_;refine Je ?_
  refine Yt (by simp;omega) ?_
  (refine Ja ?_;intros;repeat(refine Gw ?_;rintro px rfl;refine Ja ?_;intros))
  refine Tr.xIntS (v:=x.toNat) (by simpa using Ec8 hp) ?_
  (refine Ja ?_;intros)
  refine B09 (I33 x) (r:=p::r) (by simp) ?_
  by_cases hx:x=0
  ·have:(x != 0)=false:=by simp [hx]
   rw [this]
   (refine Ja ?_;intros)
   rw [e1]
   refine Ab2 (ih (i+1) (by omega) (by omega)) (r:=r) (by simp) fun o=>?_
   rw [hd,D43,if_neg (by simp [hx])];exact ⟨by first|rfl|trivial,by first|rfl|trivial⟩
  ·have:(x != 0)=true:=by simp [hx]
   rw [this]
   (refine Ja ?_;intros)
   refine Ys fun o=>?_
   rw [hd,D43,if_pos hx];exact ⟨by first|rfl|trivial,by first|rfl|trivial⟩
theorem Io5 (p:HP) (a:Option Addr) (ro:Bool) (c:Nat) (l:List UInt8) [ks:IsSl p a ro A4 1 l.length c (A0 l)] (hl:l.length≤A8) :
  CtP A6 Aq4 [.slice a l.length c] [p] (.bool (l.all (·==0))):=by
 have j:CtP A6 G0 [.slice a l.length c,.func (.func Ai5) ⟨[]⟩ ⟨[]⟩] [p] (int (D43 0 l)):=by
  refine CtP.of Ag8 rfl fun h r=>Tr.eq (B51 ..) ?_;refine Je ?_
  exact Ab2 (Ge1 p a ro c l hl _ 0 rfl (by omega)) (r:=r) (by simp) fun o=>⟨rfl,rfl⟩
 have j2:CtP A6 S8 [.slice a l.length c,.func (.func Ai5) ⟨[]⟩ ⟨[]⟩] [p] (.bool (!l.all (·==0))):=by
  refine CtP.of Bu6 rfl fun h r=>Tr.eq (Bt5 ..) ?_;refine Je ?_
  refine B09 j (r:=r) (by simp) ?_
  (refine Ja ?_;intros)
  refine Ys fun o=>?_
  rw [Gx9];exact ⟨by first|rfl|trivial,by first|rfl|trivial⟩
 refine CtP.of G39 rfl fun h r=>Tr.eq (G55 ..) ?_;refine Je ?_
 refine B09 j2 (r:=r) (by simp) ?_
 (refine Ja ?_;intros)
 refine Ys fun o=>?_
 exact ⟨by simp,rfl⟩
theorem G93 (p q:HP) (a:Option Addr) (ro:Bool) (c:Nat) (a2:Option Addr) (ro2:Bool) (c2:Nat) (l m:List UInt8) [ks:IsSl p a ro A4 1 l.length c (A0 l)] [ks2:IsSl q a2 ro2 A4 1 m.length c2 (A0 m)] (hl:l.length≤A8) (hlm:m.length=l.length):∀ (k i:Nat),l.length-i=k→i≤l.length →
  Y3 I4 D1 Z1 [(0,.slice a l.length c),(1,.slice a2 m.length c2),(12,int l.length),(13,int i)] [p,q] (.bool (decide (l.drop i=m.drop i))):=by
 intro k
 induction k with
 | zero =>
  intro i hm hi
  refine Y3.of Aq0 fun h r=>Tr.eq (A56 ..) ?_;refine Je ?_
  refine Yf (by simp;omega) ?_
  refine Ys fun o=>?_
  rw [List.drop_eq_nil_of_le (by omega),List.drop_eq_nil_of_le (by omega)];exact ⟨rfl,rfl⟩
 | succ k ih =>
  intro i hm hi
  have hlt:i<l.length:=by omega
  have hp:l[i]?=some l[i]:=List.getElem?_eq_getElem hlt
  have hd:l.drop i=l[i]::l.drop (i+1):=List.drop_eq_getElem_cons hlt
  have hlt2:i<m.length:=by omega
  have hp2:m[i]?=some m[i]:=List.getElem?_eq_getElem hlt2
  have hd2:m.drop i=m[i]::m.drop (i+1):=List.drop_eq_getElem_cons hlt2
  generalize l[i]=x at hp hd
  generalize m[i]=y at hp2 hd2
  have e1:IntKind.wrap .i64 ((i:Int)+1)=((i+1:Nat):Int):=by rw [B4];simp only [A8] at hl;omega
  refine Y3.of Aq0 fun h r=>Tr.eq (A56 ..) ?_;refine Je ?_
  refine Yt (by simp;omega) ?_
  (refine Ja ?_;intros;repeat(refine Gw ?_;rintro px rfl;refine Ja ?_;intros))
  refine Tr.xIntS (v:=x.toNat) (by simpa using Ec8 hp) ?_
  (refine Ja ?_;intros;repeat(refine Gw ?_;rintro px rfl;refine Ja ?_;intros))
  refine Tr.xIntS (v:=y.toNat) (by simpa using Ec8 hp2) ?_
  by_cases hx:x=y
  ·subst hx
   refine Yf (by simp) ?_
   rw [e1]
   refine Ab2 (ih (i+1) (by omega) (by omega)) (r:=r) (by simp) fun o=>?_
   rw [hd,hd2];exact ⟨by simp,rfl⟩
  ·refine Yt (by rw [bne_iff_ne];intro h2;exact hx (UInt8.toNat.inj (by omega))) ?_
   refine Ys fun o=>?_
   rw [hd,hd2];exact ⟨by simp [hx],rfl⟩
theorem Ez8 (p q:HP) (a:Option Addr) (ro:Bool) (c:Nat) (a2:Option Addr) (ro2:Bool) (c2:Nat) (l m:List UInt8) [ks:IsSl p a ro A4 1 l.length c (A0 l)] [ks2:IsSl q a2 ro2 A4 1 m.length c2 (A0 m)] (hl:l.length≤A8) :
  CtP A6 D1 [.slice a l.length c,.slice a2 m.length c2] [p,q] (.bool (decide (l=m))):=by
 refine CtP.of Aq0 rfl fun h r=>Tr.eq (Dl0 ..) ?_;refine Je ?_
 by_cases h:m.length=l.length
 ·refine Yf (by simp [h]) ?_
  have J:=G93 p q a ro c a2 ro2 c2 l m hl h _ 0 rfl (by omega)
  simp only [List.drop_zero] at J
  exact Ab2 J (r:=r) (by simp) fun o=>⟨rfl,rfl⟩
 ·refine Yt (by rw [bne_iff_ne];omega) ?_
  refine Ys fun o=>?_
  exact ⟨by rw [decide_eq_false (fun e=>h (by rw [e]))],rfl⟩
theorem Ew8 (p:HP) (ro:Bool) (a:Option Addr) (c:Nat) (l:List UInt8) [ks:IsSl p a ro A4 1 l.length c (A0 l)] (hn:l.length≤A8) :
  Ct A6 E3 [.slice a l.length c] [p] fun v own=>∃ a' c',v=.slice a' l.length c'∧own [slC false A4 1 a' l.length c' (A0 l),p]:=by
 refine Ct.of Bf8 rfl fun h r=>Tr.eq (Be8 ..) ?_;refine Je ?_
 refine Ae9 0 rfl fun hl hc _=>?_
 refine Tr.cond (fun hb=>?_) fun hb=>?_
 ·obtain rfl:a=none:=by simpa using hb
  refine E8 false A4 1 (by omega) ?_
  intro o
  have o1:=(o.tail.head ks.en).slNone
  obtain rfl:l=[]:=by
   have:=o1.2.2.1
   cases l with
   | nil=>rfl
   | cons x l=>simp [A0] at this
  obtain rfl:c=0:=o1.2.1
  exact ⟨_,_,rfl,none,0,rfl,o⟩
 ·(refine Ja ?_;intros)
  refine Ao6 0 rfl 1 0 rfl (by omega) ?_;refine Je ?_
  (refine Ja ?_;intros)
  refine Tr.xApd ⟨by simp [A0],by simp [A0,Value.oneCell],by omega⟩ fun a' c' h'=>?_
  refine Je ?_
  refine Ys fun o=>⟨a',c',by simp,by simpa using o⟩
end Go.EQ
namespace Go.NN
section
variable {l:List HP} {h:H} {α:Type} {Q:α→H→Prop} {ro:Bool} {e:TypeId} {cs:List Value}
instance {f:Fn} {a c:Array Value} {k:Option α}:Dx (one (.func f a c) k) k:=⟨rfl⟩
theorem Tr.xPCells {a:Option Addr} {n c sz:Nat} {vs cs':List Value} {l':List HP} {k:H→Option (α × H)} [k1:LkO l a false e sz n c cs] (hn:0<n) (hj:vs≠[]∧vs.length≤cs.length∧vs.all Value.oneCell=true∧vs++cs.drop vs.length=cs') [k2:UpO l a (slC false e sz a n c cs') e sz n c cs l'] (t:∀ h',Tr l' h' (k h') Q):Tr l h (NN.pCells a vs h k) Q:=fun ow=>by
 obtain ⟨i,p,hi,hp⟩:=k1.ix
 obtain ⟨y,rfl⟩:=((ow.front hi).head hp).slSome hn
 have:NN.pCells (Option.some y) vs h k=NN.pAgg ((B1 y).add 0) vs h k:=by
  show NN.pAgg (B1 y) vs h k=_
  congr 1
 rw [this]
 exact Tr.xPAggS (k1:=k1) ⟨hj.1,by omega,hj.2.2.1,by simpa using hj.2.2.2⟩ (k2:=k2) t ow
end
end Go.NN

set_option maxRecDepth 10000
namespace Go.EQ
open Go Go.NN
def b8 (x:Int):UInt8:=UInt8.ofNat (x%256).toNat
theorem Do9 (x:Int):IntKind.wrap .u8 x=x%256:=Ip5 x
theorem Bl7 (x:Int):IntKind.wrap .u8 x=((b8 x).toNat:Int):=by
 rw [Do9,b8,UInt8.toNat_ofNat']
 omega
def By6 (l:List UInt8):UInt8:=b8 (Gr4 l)
theorem Hh3:∀ (l:List UInt8) (n:Int),0≤n∧n<256→0≤Em0 n l∧Em0 n l<256
 | [],n,h=>h
 | x::l,n,h=>Hh3 l _ (by show 0≤IntKind.wrap .u8 (n+x.toNat)∧IntKind.wrap .u8 (n+x.toNat)<256;rw [Do9];omega)
theorem Dv7 (l:List UInt8):Gr4 l=((By6 l).toNat:Int):=by
 have:=Hh3 l (IntKind.wrap .u8 l.length) (by rw [Do9];omega)
 unfold By6
 rw [← Bl7,Do9]
 unfold Gr4 at *;omega
structure FileS where
 kind:Int
 pipe:Int
 refs:Int
 flags:Int
abbrev FileS.zero:FileS:=⟨0,0,0,0⟩
abbrev Bv8 (f:FileS):List Value:=[int f.kind,int f.pipe,int f.refs,int f.flags]
def okF (f:FileS):Bool:=decide (f.kind≥1) && decide (f.kind≤3) && decide (f.pipe≥0) && decide (f.pipe≤7) && (f.kind != 3 || f.pipe==0) && decide (f.refs≥1) && decide (f.refs≤64) && (f.flags==0 || f.flags==1)
def Bc7 (f:FileS):List UInt8:=[b8 f.kind,b8 f.pipe,b8 f.refs,b8 f.flags,179]
def Al5 (f:FileS):List UInt8:=Bc7 f++[By6 (Bc7 f),0,0]
theorem Iy8 (f:FileS):Ct A6 Dq2 [.agg ⟨Bv8 f⟩] [] fun v own=>v=.bool (okF f)∧own []:=by
 refine Ct.of H58 rfl fun h r=>Tr.eq (H35 ..) ?_;refine Je ?_
 (refine Ja ?_;intros)
 refine Ys fun o=>?_
 refine ⟨?_,o.sub⟩
 rfl
theorem Iw0 (a:Option Addr) (c:Nat) (f:FileS):Ct A6 Av5 [.agg ⟨Bv8 f⟩,.slice a 8 c] [slC false A4 1 a 8 c (A0 (List.replicate 8 0))] fun v own=>v=.bool (okF f)∧own [slC false A4 1 a 8 c (A0 (if okF f then Al5 f else List.replicate 8 0))]:=by
 refine Ct.of Hs5 rfl fun h r=>Tr.eq (Hs0 ..) ?_;refine Je ?_
 (refine Ja ?_;intros)
 refine Yc (Iy8 f) ?_;rintro _ h ⟨rfl,o⟩<;>(refine Jf o ?_;intros)
 cases hk:okF f with
 | false =>
  (refine Ja ?_;intros)
  refine Ys fun o=>?_
  rw [if_neg (by simp)]
  exact ⟨rfl,o.sub⟩
 | true =>
  (refine Ja ?_;intros)
  simp only [Bl7,List.drop_zero,List.take]
  refine Ae9 2 rfl fun hl hc _=>?_
  refine Tr.xPCells (cs':=A0 (Bc7 f++[0,0,0])) (by omega) ⟨by simp,by simp [A0],by simp [Value.oneCell],rfl⟩ fun h=>?_
  (refine Ja ?_;intros)
  refine Tr.pcall (Gq0 (slC false A4 1 a 8 c (A0 (Bc7 f++[0,0,0]))) a false 8 c c (Bc7 f++[0,0,0]) 5 (by simp [Bc7]) (by simp [Bc7,A8])) ?_
  refine Je ?_
  (refine Ja ?_;intros;repeat(refine Gw ?_;rintro px rfl;refine Ja ?_;intros))
  rw [show List.take 5 (Bc7 f++[0,0,0]:List UInt8)=Bc7 f from rfl,Dv7]
  refine Tr.xVS (cs':=A0 (Al5 f)) ⟨by simp [A0,Bc7],rfl,rfl⟩ fun h=>?_
  refine Ys fun o=>?_
  simp only [if_true]
  exact ⟨trivial,o.sub⟩
theorem D18 {l:List Value} (h:l.all (fun v=>match v with|.int _ _=>true|_=>false)=true):Ar1 (.agg ⟨l⟩) (.agg ⟨l⟩)=true:=by
 show Bw3 l l=true
 induction l with
 | nil=>rfl
 | cons v l ih =>
  simp only [List.all_cons,Bool.and_eq_true] at h
  show (A68 v v && Bw3 l l)=true
  rw [ih h.2,Bool.and_true]
  cases v<;>first|(simp [A68];done)|exact absurd h.1 (by simp)
abbrev Hk7 (k:Nat):HP:=pt k (.cells Am5 false [int 8,.func (.func Av5) ⟨[]⟩ ⟨[]⟩,.func (.func Au6) ⟨[]⟩ ⟨[]⟩])
theorem Hn1 (k:Nat) (f:FileS):Ct A6 Y7 [P0 k,.agg ⟨Bv8 f⟩] [Hk7 k] fun v own=>(okF f=true∧∃ a,v=.tuple ⟨[.slice a 8 8,.bool true]⟩∧own [Hk7 k,slC false A4 1 a 8 8 (A0 (Al5 f))])∨(okF f=false∧v=.tuple ⟨[.slice none 0 0,.bool false]⟩∧own [Hk7 k]):=by
 refine Ct.of B96 rfl fun h r=>Tr.eq (B90 ..) ?_;refine Je ?_
 (refine Ja ?_;intros)
 refine Tr.ck ⟨by omega,by omega,by simp [A8]⟩ ?_
 refine Yn fun b1 h=>?_
 rw [show L8 (Int.toNat 8) [.int .u8 0]=A0 (List.replicate 8 0) from rfl]
 refine Ao6 0 rfl 1 8 rfl (by omega) ?_
 simp only [List.set_cons_zero]
 refine Je ?_
 (refine Jb ?_;intros)
 refine Yb (Yf rfl ?_)
 (refine Jb ?_;intros)
 refine Yc (Iw0 (some ⟨b1,0,none⟩) 8 f) ?_;rintro _ h ⟨rfl,o⟩<;>(refine Jg o ?_;intros)
 refine Ys fun o=>(?_:Tr _ _ _ _) o;refine Je ?_
 cases hk:okF f with
 | false =>
  (refine Ja ?_;intros)
  refine Ys fun o=>?_
  exact .inr ⟨rfl,rfl,o.sub⟩
 | true =>
  (refine Ja ?_;intros)
  refine Ys fun o=>?_
  simp only [if_true] at o
  exact .inl ⟨rfl,_,rfl,o.sub⟩
theorem Ix3:Ct A6 As3 [int 8,.func (.func Av5) ⟨[]⟩ ⟨[]⟩,.func (.func Au6) ⟨[]⟩ ⟨[]⟩] [] fun v own=>∃ k,v=P0 k∧own [pt k (.cells Am5 false [int 8,.func (.func Av5) ⟨[]⟩ ⟨[]⟩,.func (.func Au6) ⟨[]⟩ ⟨[]⟩])]:=by
 refine Ct.of Eg4 rfl fun h r=>Tr.eq (El8 ..) ?_;refine Je ?_
 rw [show mm2 false (mm2 true 8 0) 64=8 from rfl]
 (refine Ja ?_;intros)
 refine Ys fun o=>?_
 exact ⟨_,rfl,o.sub⟩
theorem Gy5:Ct A6 Bf7 [] [] fun v own=>∃ k,v=P0 k∧own [pt k (.cells Am5 false [int 8,.func (.func Av5) ⟨[]⟩ ⟨[]⟩,.func (.func Au6) ⟨[]⟩ ⟨[]⟩])]:=by
 refine Ct.of G44 rfl fun h r=>Tr.eq (G35 ..) ?_;refine Je ?_
 refine Yc (Ix3) ?_;rintro _ h ⟨k,rfl,o⟩<;>(refine Jf o ?_;intros)
 refine Ys fun o=>?_
 exact ⟨_,rfl,o.sub⟩
theorem Gn3 (f:FileS):Ct A6 A91 [.agg ⟨Bv8 f⟩] [] fun v own=>(okF f=true∧∃ a,v=.tuple ⟨[.slice a 8 8,.bool true]⟩∧own [slC false A4 1 a 8 8 (A0 (Al5 f))])∨(okF f=false∧v=.tuple ⟨[.slice none 0 0,.bool false]⟩∧own []):=by
 refine Ct.of Gt4 rfl fun h r=>Tr.eq (Gu8 ..) ?_;refine Je ?_
 (refine Ja ?_;intros)
 refine Yc (Gy5) ?_;rintro _ h ⟨k,rfl,o⟩<;>(refine Jf o ?_;intros)
 refine Tr.same (D18 rfl) ?_
 refine Yc (Hn1 k f) ?_
 rintro v h (⟨hk,a,rfl,o⟩|⟨hk,rfl,o⟩)
 ·refine (?_:Tr _ _ _ _) o
  refine Je ?_
  (refine Ja ?_;intros)
  refine Ys fun o=>?_
  exact .inl ⟨hk,a,rfl,o.sub⟩
 ·refine (?_:Tr _ _ _ _) o
  refine Je ?_
  (refine Ja ?_;intros)
  refine Ys fun o=>?_
  exact .inr ⟨hk,rfl,o.sub⟩
theorem Ag0 {l:List UInt8} {i:Nat} (h:i<l.length):(A0 l)[i]?=some (.int .u8 ((l.getD i 0).toNat:Int)):=by
 rw [List.getD_eq_getElem?_getD,List.getElem?_eq_getElem h];exact Ec8 (List.getElem?_eq_getElem h)
theorem Aq6 (x:UInt8):IntKind.wrap .i64 (x.toNat:Int)=(x.toNat:Int):=by
 have:=x.toNat_lt;rw [B4];omega
abbrev byI (l:List UInt8) (i:Nat):Int:=((l.getD i 0).toNat:Int)
def Dd9 (l:List UInt8):FileS:=⟨byI l 0,byI l 1,byI l 2,byI l 3⟩
def isF (l:List UInt8):Bool:=okF (Dd9 l) && decide (Al5 (Dd9 l)=l)
theorem Is7 (a:Option Addr) (c:Nat) (l:List UInt8) (hl:l.length=8):Ct A6 Au6 [.slice a 8 c] [slC false A4 1 a 8 c (A0 l)] fun v own=>v=.tuple ⟨[.agg ⟨Bv8 (Dd9 l)⟩,.bool (isF l)]⟩∧own [slC false A4 1 a 8 c (A0 l)]:=by
 have key:∀ a1:Option Addr,CtP A6 D1 [.slice a1 8 8,.slice a 8 c] [slC false A4 1 a1 8 8 (A0 (Al5 (Dd9 l))),slC false A4 1 a 8 c (A0 l)] (.bool (decide (Al5 (Dd9 l)=l))):=fun a1=>by
  have J:=Ez8 (slC false A4 1 a1 8 8 (A0 (Al5 (Dd9 l)))) (slC false A4 1 a l.length c (A0 l)) a1 false 8 a false c (Al5 (Dd9 l)) l (by simp [Al5,Bc7,A8])
  rwa [hl,show (Al5 (Dd9 l)).length=8 from rfl] at J
 refine Ct.of Hm0 rfl fun h r=>Tr.eq (Ht4 ..) ?_;refine Je ?_
 refine Yn fun b1 h=>?_
 (refine Ja ?_;intros;repeat(refine Gw ?_;rintro px rfl;refine Ja ?_;intros))
 refine Tr.xIntS (v:=byI l 0) (Ag0 (by omega)) ?_
 (refine Ja ?_;intros)
 refine Tr.xIntS (v:=byI l 1) (Ag0 (by omega)) ?_
 (refine Ja ?_;intros)
 refine Tr.xIntS (v:=byI l 2) (Ag0 (by omega)) ?_
 (refine Ja ?_;intros)
 refine Tr.xIntS (v:=byI l 3) (Ag0 (by omega)) ?_
 simp only [byI,Aq6]
 refine Yn fun b2 h=>?_
 (refine Jb ?_;intros)
 refine Yc (Gn3 (Dd9 l)) ?_
 rintro v h (⟨hk,a1,rfl,o⟩|⟨hk,rfl,o⟩)
 ·refine (?_:Tr _ _ _ _) o
  refine Je ?_
  (refine Jb ?_;intros)
  refine Yb (Yt rfl ?_)
  refine Tr.pcall (key a1) ?_;refine Je ?_;(refine Jb ?_;intros)
  refine Tr.same (D18 rfl) ?_
  refine Ys fun o=>(?_:Tr _ _ _ _) o;refine Je ?_
  (refine Ja ?_;intros)
  refine Ys fun o=>?_
  exact ⟨by unfold isF;rw [hk,Bool.true_and];rfl,o.sub⟩
 ·refine (?_:Tr _ _ _ _) o
  refine Je ?_
  (refine Ja ?_;intros)
  refine Ys fun o=>?_
  exact ⟨by unfold isF;rw [hk];rfl,o.sub⟩
theorem Eo1 (n:Nat) (pb:HP) (ro:Bool) (a:Option Addr) (c:Nat) (l:List UInt8) (hl:l.length=n) (hn:n≤A8) [ks:IsSl pb a ro A4 1 n c (A0 l)]:Ct A6 E3 [.slice a n c] [pb] fun v own=>∃ a' c',v=.slice a' n c'∧own [slC false A4 1 a' n c' (A0 l),pb]:=by
 subst hl;exact Ew8 pb ro a c l hn
theorem Ei8 (n:Nat) (pb:HP) (ro:Bool) (a:Option Addr) (c:Nat) (l:List UInt8) (hl:l.length=n) (hn:n≤A8) [ks:IsSl pb a ro A4 1 n c (A0 l)]:CtP A6 Aq4 [.slice a n c] [pb] (.bool (l.all (·==0))):=by
 subst hl;exact Io5 pb a ro c l hn
theorem Hd8 (k:Nat) (pb:HP) (ro:Bool) (a:Option Addr) (c:Nat) (l:List UInt8) (hl:l.length=8) [ks:IsSl pb a ro A4 1 8 c (A0 l)]:Ct A6 Y9 [P0 k,.slice a 8 c] [Hk7 k,pb] fun v own=>v=.tuple ⟨[.agg ⟨Bv8 (if isF l then Dd9 l else .zero)⟩,.bool (isF l)]⟩∧own [Hk7 k,pb]:=by
 refine Ct.of B92 rfl fun h r=>Tr.eq (Da0 ..) ?_;refine Je ?_
 (refine Ja ?_;intros)
 refine Yf rfl ?_
 (refine Jb ?_;intros)
 refine Yc (Eo1 8 pb ro a c l hl (by simp [A8])) ?_;rintro _ h ⟨a1,c1,rfl,o⟩<;>(refine Jg o ?_;intros)
 refine Yc (Is7 a1 c1 l hl) ?_;rintro _ h ⟨rfl,o⟩<;>(refine Jg o ?_;intros)
 cases hk:isF l with
 | false =>
  (refine Ja ?_;intros)
  refine Ys fun o=>?_
  exact ⟨rfl,o.sub⟩
 | true =>
  (refine Ja ?_;intros)
  refine Ys fun o=>?_
  exact ⟨rfl,o.sub⟩
def Aa6 (l:List UInt8):FileS × Int:=if l.all (·==0) then (.zero,0) else if isF l then (Dd9 l,1) else (.zero,2)
theorem Hr9 (pb:HP) (ro:Bool) (a:Option Addr) (c:Nat) (l:List UInt8) (hl:l.length=8) [ks:IsSl pb a ro A4 1 8 c (A0 l)]:Ct A6 Aw3 [.slice a 8 c] [pb] fun v own=>v=.tuple ⟨[.agg ⟨Bv8 (Aa6 l).1⟩,int (Aa6 l).2]⟩∧own [pb]:=by
 refine Ct.of Gw0 rfl fun h r=>Tr.eq (Gq8 ..) ?_;refine Je ?_
 refine Yn fun b1 h=>?_
 refine Yb (Yt rfl ?_)
 refine Tr.pcall (Ei8 8 pb ro a c l hl (by simp [A8])) ?_;refine Je ?_;(refine Jb ?_;intros)
 refine Ys fun o=>(?_:Tr _ _ _ _) o;refine Je ?_
 cases hb:l.all (·==0) with
 | true =>
  (refine Ja ?_;intros)
  refine Ys fun o=>?_
  exact ⟨by unfold Aa6;rw [hb];rfl,o.sub⟩
 | false =>
  (refine Jb ?_;intros)
  refine Yc (Gy5) ?_;rintro _ h ⟨k,rfl,o⟩<;>(refine Jg o ?_;intros)
  refine Yc (Hd8 k pb ro a c l hl) ?_;rintro _ h ⟨rfl,o⟩<;>(refine Jg o ?_;intros)
  cases hk:isF l with
  | false =>
   (refine Ja ?_;intros)
   refine Ys fun o=>?_
   exact ⟨by unfold Aa6;rw [hb,hk];rfl,o.sub⟩
  | true =>
   (refine Ja ?_;intros)
   refine Ys fun o=>?_
   exact ⟨by unfold Aa6;rw [hb,hk];rfl,o.sub⟩
theorem Hx5 (a:Option Addr) (c:Nat) (l:List UInt8) (hl:l.length=8):Ct A6 Aw3 [.slice a 8 c] [slC false A4 1 a 8 c (A0 l)] fun v own=>v=.tuple ⟨[.agg ⟨Bv8 (Aa6 l).1⟩,int (Aa6 l).2]⟩∧own [slC false A4 1 a 8 c (A0 l)]:=Hr9 (slC false A4 1 a 8 c (A0 l)) false a c l hl
structure PipeS where
 head:Int
 count:Int
 readers:Int
 writers:Int
 data:List UInt8
 len:data.length=32
abbrev PipeS.zero:PipeS:=⟨0,0,0,0,List.replicate 32 0,rfl⟩
abbrev R0 (p:PipeS):List Value:=int p.head::int p.count::int p.readers::int p.writers::A0 p.data
theorem B14 {p:PipeS} (hd:p.data.length=32):(R0 p).length=36:=by simp [R0,Y0,hd]
theorem Hz2 {p:PipeS} (hd:p.data.length=32):4+32≤(R0 p).length∧((R0 p).drop 4).take 32=A0 p.data:=⟨by rw [B14 hd];exact Nat.le_refl _,by
 rw [show (R0 p).drop 4=A0 p.data from rfl,List.take_of_length_le (by rw [Y0,hd];exact Nat.le_refl _)]⟩
theorem G06 (p:PipeS):(R0 p).all Value.oneCell=true:=by simp [R0,Aj2,Value.oneCell]
theorem Hz7 (p:PipeS):Ar1 (.agg ⟨R0 p⟩) (.agg ⟨R0 p⟩)=true:=D18 (by simp [R0,A0])
instance {p:PipeS}:LenC (R0 p) 36:=⟨B14 p.len⟩
instance {p:PipeS}:PartC (R0 p) 0 36 (R0 p):=⟨Bl8 (B14 p.len)⟩
instance {p:PipeS} {cs:List Value} [k:LenC cs 36]:SetsC cs 0 (R0 p) (R0 p):=⟨Bm1 k.ok (B14 p.len) (G06 p)⟩
instance {p:PipeS}:SameC (.agg ⟨R0 p⟩):=⟨Hz7 p⟩
def okP (p:PipeS):Bool:=decide (0≤p.head∧p.head≤31) && decide (0≤p.count∧p.count≤32) && decide (0≤p.readers∧p.readers≤8) && decide (0≤p.writers∧p.writers≤8)
def Ak6 (p:PipeS):List UInt8:=[1,b8 p.head,b8 p.count,b8 p.readers,b8 p.writers,197]
def N0 (p:PipeS):List UInt8:=Ak6 p++By6 (Ak6 p)::0::p.data
theorem Dz3 {p:PipeS} (hd:p.data.length=32):(N0 p).length=40:=by simp [N0,Ak6,hd]
theorem Ix8 (n m:Int):CtP A6 Av2 [int n,int m] [] (.bool (decide (0≤n∧n≤m))):=by
 refine CtP.of Hm2 rfl fun h r=>Tr.eq (Hu0 ..) ?_;refine Je ?_
 (refine Ja ?_;intros)
 refine Ys fun o=>?_
 refine ⟨?_,rfl⟩
 refine congrArg Value.bool ?_;rw [Bool.eq_iff_iff];simp only [Bool.and_eq_true,Bool.or_eq_true,Bool.not_eq_true',Bool.not_eq_false',decide_eq_true_eq,decide_eq_false_iff_not,bne_iff_ne,beq_iff_eq,ne_eq,B4,Ae8,Af3,ge_iff_le,gt_iff_lt];first|done|omega
instance {n m:Int} {l:List HP}:PCi A6 Av2 [.int .i64 n,.int .i64 m] l (.bool (decide (0≤n∧n≤m))):=PCi.of (Ix8 n m)
theorem I26 (p:PipeS):Ct A6 D05 [.agg ⟨R0 p⟩] [] fun v own=>v=.bool (okP p)∧own []:=by
 refine Ct.of H74 rfl fun h r=>Tr.eq (Ie4 ..) ?_;refine Je ?_
 (refine Ja ?_;intros)
 refine Ys fun o=>?_
 exact ⟨rfl,o.sub⟩
theorem Iv7 (a:Option Addr) (c:Nat) (p:PipeS):Ct A6 Bp4 [.agg ⟨R0 p⟩,.slice a 40 c] [slC false A4 1 a 40 c (A0 (List.replicate 40 0))] fun v own=>v=.bool (okP p)∧own [slC false A4 1 a 40 c (A0 (if okP p then N0 p else List.replicate 40 0))]:=by
 have hd:=p.len
 refine Ct.of H22 rfl fun h r=>Tr.eq (Hy9 ..) ?_;refine Je ?_
 refine Yn fun b1 h=>?_
 (refine Ja ?_;intros)
 refine Yc (I26 p) ?_;rintro _ h ⟨rfl,o⟩<;>(refine Jg o ?_;intros)
 cases hk:okP p with
 | false =>
  (refine Ja ?_;intros)
  refine Ys fun o=>?_
  rw [if_neg (by simp)]
  exact ⟨rfl,o.sub⟩
 | true =>
  (refine Ja ?_;intros)
  simp only [Bl7,List.drop_zero,List.take]
  refine Ae9 2 rfl fun hl hc _=>?_
  refine Tr.xPCells (cs':=A0 (Ak6 p++List.replicate 34 0)) (by omega) ⟨by simp,by simp [A0],by simp [Value.oneCell],rfl⟩ fun h=>?_
  (refine Ja ?_;intros)
  refine Tr.pcall (Gq0 (slC false A4 1 a 40 c (A0 (Ak6 p++List.replicate 34 0))) a false 40 c c (Ak6 p++List.replicate 34 0) 6 (by simp [Ak6]) (by simp [Ak6,A8])) ?_
  refine Je ?_
  (refine Ja ?_;intros;repeat(refine Gw ?_;rintro px rfl;refine Ja ?_;intros))
  rw [show List.take 6 (Ak6 p++List.replicate 34 0:List UInt8)=Ak6 p from rfl,Dv7]
  refine Tr.xVS (cs':=A0 (Ak6 p++By6 (Ak6 p)::List.replicate 33 0)) ⟨by simp [A0,Ak6],rfl,rfl⟩ fun h=>?_
  (refine Ja ?_;intros)
  refine Tr.xCellsB (xs:=A0 p.data) (Hz2 p.len) ?_
  rw [Gv3 (by omega),E17]
  refine Tr.xPAggS (cs':=A0 (N0 p)) ⟨?_,?_,Aj2 _,?_⟩ fun h=>?_
  ·intro e;have:=congrArg List.length e;simp [A0,hd] at this
  ·simp [A0,hd,Ak6]
  ·rw [Y0,hd]
   simp [A0,N0,Ak6]
  refine Ys fun o=>?_
  simp only [if_true]
  exact ⟨trivial,o.sub⟩
abbrev Gf6 (k:Nat):HP:=pt k (.cells Bv5 false [int 40,.func (.func Bp4) ⟨[]⟩ ⟨[]⟩,.func (.func Bn7) ⟨[]⟩ ⟨[]⟩])
theorem Ht3 (k:Nat) (f:PipeS):Ct A6 Y6 [P0 k,.agg ⟨R0 f⟩] [Gf6 k] fun v own=>(okP f=true∧∃ a,v=.tuple ⟨[.slice a 40 40,.bool true]⟩∧own [Gf6 k,slC false A4 1 a 40 40 (A0 (N0 f))])∨(okP f=false∧v=.tuple ⟨[.slice none 0 0,.bool false]⟩∧own [Gf6 k]):=by
 refine Ct.of B91 rfl fun h r=>Tr.eq (B97 ..) ?_;refine Je ?_
 (refine Ja ?_;intros)
 refine Tr.ck ⟨by omega,by omega,by simp [A8]⟩ ?_
 refine Yn fun b1 h=>?_
 rw [show L8 (Int.toNat 40) [.int .u8 0]=A0 (List.replicate 40 0) from rfl]
 refine Ao6 0 rfl 1 40 rfl (by omega) ?_
 simp only [List.set_cons_zero]
 refine Je ?_
 (refine Jb ?_;intros)
 refine Yb (Yf rfl ?_)
 (refine Jb ?_;intros)
 refine Yc (Iv7 (some ⟨b1,0,none⟩) 40 f) ?_;rintro _ h ⟨rfl,o⟩<;>(refine Jg o ?_;intros)
 refine Ys fun o=>(?_:Tr _ _ _ _) o;refine Je ?_
 cases hk:okP f with
 | false =>
  (refine Ja ?_;intros)
  refine Ys fun o=>?_
  exact .inr ⟨rfl,rfl,o.sub⟩
 | true =>
  (refine Ja ?_;intros)
  refine Ys fun o=>?_
  simp only [if_true] at o
  exact .inl ⟨rfl,_,rfl,o.sub⟩
theorem Ix0:Ct A6 At2 [int 40,.func (.func Bp4) ⟨[]⟩ ⟨[]⟩,.func (.func Bn7) ⟨[]⟩ ⟨[]⟩] [] fun v own=>∃ k,v=P0 k∧own [Gf6 k]:=by
 refine Ct.of En7 rfl fun h r=>Tr.eq (Eh4 ..) ?_;refine Je ?_
 rw [show mm2 false (mm2 true 40 0) 64=40 from rfl]
 (refine Ja ?_;intros)
 refine Ys fun o=>?_
 exact ⟨_,rfl,o.sub⟩
theorem Gx8:Ct A6 Bm7 [] [] fun v own=>∃ k,v=P0 k∧own [Gf6 k]:=by
 refine Ct.of He0 rfl fun h r=>Tr.eq (He7 ..) ?_;refine Je ?_
 refine Yc (Ix0) ?_;rintro _ h ⟨k,rfl,o⟩<;>(refine Jf o ?_;intros)
 refine Ys fun o=>?_
 exact ⟨_,rfl,o.sub⟩
theorem H09 (f:PipeS):Ct A6 Bv9 [.agg ⟨R0 f⟩] [] fun v own=>(okP f=true∧∃ a,v=.tuple ⟨[.slice a 40 40,.bool true]⟩∧own [slC false A4 1 a 40 40 (A0 (N0 f))])∨(okP f=false∧v=.tuple ⟨[.slice none 0 0,.bool false]⟩∧own []):=by
 refine Ct.of G46 rfl fun h r=>Tr.eq (G63 ..) ?_;refine Je ?_
 refine Yn fun b1 h=>?_
 (refine Ja ?_;intros)
 refine Yc (Gx8) ?_;rintro _ h ⟨k,rfl,o⟩<;>(refine Jg o ?_;intros)
 (refine Ja ?_;intros)
 refine Yc (Ht3 k f) ?_
 rintro v h (⟨hk,a,rfl,o⟩|⟨hk,rfl,o⟩)
 ·refine (?_:Tr _ _ _ _) o
  refine Je ?_
  (refine Ja ?_;intros)
  refine Ys fun o=>?_
  exact .inl ⟨hk,a,rfl,o.sub⟩
 ·refine (?_:Tr _ _ _ _) o
  refine Je ?_
  (refine Ja ?_;intros)
  refine Ys fun o=>?_
  exact .inr ⟨hk,rfl,o.sub⟩
def D40 (l:List UInt8):List UInt8:=(l++List.replicate 32 0).take 32
theorem Ig3 (l:List UInt8):(D40 l).length=32:=by simp [D40]
theorem Eh1 {l:List UInt8} (h:l.length=32):D40 l=l:=by simp [D40,← h]
def Bh8 (l:List UInt8):PipeS:=⟨byI l 1,byI l 2,byI l 3,byI l 4,D40 (l.drop 8),Ig3 _⟩
def isP (l:List UInt8):Bool:=okP (Bh8 l) && decide (N0 (Bh8 l)=l)
theorem Iv6 (a:Option Addr) (c:Nat) (l:List UInt8) (hl:l.length=40):Ct A6 Bn7 [.slice a 40 c] [slC false A4 1 a 40 c (A0 l)] fun v own=>v=.tuple ⟨[.agg ⟨R0 (Bh8 l)⟩,.bool (isP l)]⟩∧own [slC false A4 1 a 40 c (A0 l)]:=by
 have hd:=(Bh8 l).len
 have hp:D40 (l.drop 8)=l.drop 8:=Eh1 (by simp [hl])
 have key:∀ a1:Option Addr,CtP A6 D1 [.slice a1 40 40,.slice a 40 c] [slC false A4 1 a1 40 40 (A0 (N0 (Bh8 l))),slC false A4 1 a 40 c (A0 l)] (.bool (decide (N0 (Bh8 l)=l))):=fun a1=>by
  have e:=Dz3 hd
  have J:=Ez8 (slC false A4 1 a1 (N0 (Bh8 l)).length 40 (A0 (N0 (Bh8 l)))) (slC false A4 1 a l.length c (A0 l)) a1 false 40 a false c (N0 (Bh8 l)) l (by rw [e];simp [A8])
  rwa [hl,e] at J
 refine Ct.of H05 rfl fun h r=>Tr.eq (H11 ..) ?_;refine Je ?_
 refine Yn fun b1 h=>?_
 refine Ae9 1 rfl fun hl2 hc2 _=>?_
 (refine Ja ?_;intros;repeat(refine Gw ?_;rintro px rfl;refine Ja ?_;intros))
 refine Tr.xIntS (v:=byI l 1) (Ag0 (by omega)) ?_
 (refine Ja ?_;intros)
 refine Tr.xIntS (v:=byI l 2) (Ag0 (by omega)) ?_
 (refine Ja ?_;intros)
 refine Tr.xIntS (v:=byI l 3) (Ag0 (by omega)) ?_
 (refine Ja ?_;intros)
 refine Tr.xIntS (v:=byI l 4) (Ag0 (by omega)) ?_
 simp only [byI,Aq6]
 refine Yn fun b2 h=>?_
 (refine Jb ?_;intros)
 rw [Gv3 (show 8<c by omega),Ha4]
 refine Tr.xAggS (xs:=A0 (l.drop 8)) ⟨by omega,by simp [Y0,hl],?_⟩ ?_
 ·rw [Db8,List.take_of_length_le (by simp [Y0,hl])]
 rw [show pCells (some (⟨b2,4,none⟩:Addr))=pAgg ⟨b2,4,none⟩ from rfl]
 refine Tr.xPAgg (cs':=R0 (Bh8 l)) ⟨by simp [Y0,hl],Aj2 _,by simp [R0,Bh8,byI,Y0,hl,hp]⟩ fun h=>?_
 (refine Ja ?_;intros)
 refine Yc (H09 (Bh8 l)) ?_
 rintro v h (⟨hk,a1,rfl,o⟩|⟨hk,rfl,o⟩)
 ·refine (?_:Tr _ _ _ _) o
  refine Je ?_
  (refine Jb ?_;intros)
  refine Yb (Yt rfl ?_)
  refine Tr.pcall (key a1) ?_;refine Je ?_;(refine Jb ?_;intros)
  refine Ys fun o=>(?_:Tr _ _ _ _) o;refine Je ?_
  (refine Ja ?_;intros)
  refine Ys fun o=>?_
  exact ⟨by unfold isP;rw [hk,Bool.true_and],o.sub⟩
 ·refine (?_:Tr _ _ _ _) o
  refine Je ?_
  (refine Ja ?_;intros)
  refine Ys fun o=>?_
  exact ⟨by unfold isP;rw [hk];rfl,o.sub⟩
theorem Hk6 (k:Nat) (pb:HP) (ro:Bool) (a:Option Addr) (c:Nat) (l:List UInt8) (hl:l.length=40) [ks:IsSl pb a ro A4 1 40 c (A0 l)]:Ct A6 Z0 [P0 k,.slice a 40 c] [Gf6 k,pb] fun v own=>v=.tuple ⟨[.agg ⟨R0 (if isP l then Bh8 l else .zero)⟩,.bool (isP l)]⟩∧own [Gf6 k,pb]:=by
 have hd:=(Bh8 l).len
 have hp:D40 (l.drop 8)=l.drop 8:=Eh1 (by simp [hl])
 refine Ct.of B95 rfl fun h r=>Tr.eq (B99 ..) ?_;refine Je ?_
 (refine Ja ?_;intros)
 refine Yf rfl ?_
 (refine Jb ?_;intros)
 refine Yc (Eo1 40 pb ro a c l hl (by simp [A8])) ?_;rintro _ h ⟨a1,c1,rfl,o⟩<;>(refine Jg o ?_;intros)
 refine Yc (Iv6 a1 c1 l hl) ?_;rintro _ h ⟨rfl,o⟩<;>(refine Jg o ?_;intros)
 cases hk:isP l with
 | false =>
  (refine Ja ?_;intros)
  refine Ys fun o=>?_
  exact ⟨rfl,o.sub⟩
 | true =>
  (refine Ja ?_;intros)
  refine Ys fun o=>?_
  exact ⟨rfl,o.sub⟩
def Y5 (l:List UInt8):PipeS × Int:=if l.all (·==0) then (.zero,0) else if isP l then (Bh8 l,1) else (.zero,2)
theorem Ho5 (pb:HP) (ro:Bool) (a:Option Addr) (c:Nat) (l:List UInt8) (hl:l.length=40) [ks:IsSl pb a ro A4 1 40 c (A0 l)]:Ct A6 Ap9 [.slice a 40 c] [pb] fun v own=>v=.tuple ⟨[.agg ⟨R0 (Y5 l).1⟩,int (Y5 l).2]⟩∧own [pb]:=by
 have hd:=(Bh8 l).len
 have hp:D40 (l.drop 8)=l.drop 8:=Eh1 (by simp [hl])
 refine Ct.of G61 rfl fun h r=>Tr.eq (G60 ..) ?_;refine Je ?_
 refine Yn fun b1 h=>?_
 refine Yb (Yt rfl ?_)
 refine Tr.pcall (Ei8 40 pb ro a c l hl (by simp [A8])) ?_;refine Je ?_;(refine Jb ?_;intros)
 refine Ys fun o=>(?_:Tr _ _ _ _) o;refine Je ?_
 cases hb:l.all (·==0) with
 | true =>
  (refine Ja ?_;intros)
  refine Ys fun o=>?_
  exact ⟨by unfold Y5;rw [hb];rfl,o.sub⟩
 | false =>
  (refine Jb ?_;intros)
  refine Yc (Gx8) ?_;rintro _ h ⟨k,rfl,o⟩<;>(refine Jg o ?_;intros)
  refine Yc (Hk6 k pb ro a c l hl) ?_;rintro _ h ⟨rfl,o⟩<;>(refine Jg o ?_;intros)
  cases hk:isP l with
  | false =>
   (refine Ja ?_;intros)
   refine Ys fun o=>?_
   exact ⟨by unfold Y5;rw [hb,hk];rfl,o.sub⟩
  | true =>
   (refine Ja ?_;intros)
   refine Ys fun o=>?_
   exact ⟨by unfold Y5;rw [hb,hk];rfl,o.sub⟩
theorem H42 (a:Option Addr) (c:Nat) (l:List UInt8) (hl:l.length=40):Ct A6 Ap9 [.slice a 40 c] [slC false A4 1 a 40 c (A0 l)] fun v own=>v=.tuple ⟨[.agg ⟨R0 (Y5 l).1⟩,int (Y5 l).2]⟩∧own [slC false A4 1 a 40 c (A0 l)]:=Ho5 (slC false A4 1 a 40 c (A0 l)) false a c l hl
structure ProcS where
 state:Int
 parent:Int
 group:Int
 code:Int
 pending:Int
 mask:Int
 ignored:Int
 caught:Int
 fds:List Int
 len:fds.length=8
abbrev Go2:List Int:=[0,0,0,0,0,0,0,0]
abbrev ProcS.zero:ProcS:=⟨0,0,0,0,0,0,0,0,Go2,rfl⟩
abbrev B5 (p:ProcS):List Value:=int p.state::int p.parent::int p.group::int p.code::int p.pending::int p.mask::int p.ignored::int p.caught::p.fds.map int
theorem B08 (p:ProcS):(B5 p).length=16:=by simp [B5,p.len]
theorem Ig8 (p:ProcS):(B5 p).all Value.oneCell=true:=by simp [B5,Value.oneCell]
instance {p:ProcS}:LenC (B5 p) 16:=⟨B08 p⟩
instance {p:ProcS}:PartC (B5 p) 0 16 (B5 p):=⟨Bl8 (B08 p)⟩
instance {p:ProcS}:PartC (B5 p) 8 8 (p.fds.map int):=⟨by
 have h:Nat.ble (8+8) (B5 p).length=true:=by rw [B08];rfl
 have e:((B5 p).drop 8).take 8=p.fds.map int:=by rw [show (B5 p).drop 8=p.fds.map int from rfl,List.take_of_length_le (by simp [p.len])]
 rw [B32,h,e];rfl⟩
instance {p:ProcS} {cs:List Value} [k:LenC cs 16]:SetsC cs 0 (B5 p) (B5 p):=⟨Bm1 k.ok (B08 p) (Ig8 p)⟩
instance {p:ProcS}:SameC (.agg ⟨B5 p⟩):=⟨D18 (by simp [B5])⟩
def A18 (n w:Int):Bool:=J7 .i64 n 65534==0 && D2 .i64 n w==0
def okS (p:ProcS):Bool :=
 !(decide (p.state<1) || decide (p.state>3) || decide (p.parent<0) || decide (p.parent>8) || decide (p.group<0) || decide (p.group≥8) || decide (p.code<0) || decide (p.code>255)) &&
 (!(!A18 p.pending 0 || !A18 p.mask 16896 || !A18 p.ignored 16896 || !A18 p.caught 16896 || D2 .i64 p.ignored p.caught != 0) &&
 (!(p.fds.any fun f=>decide (f<0) || decide (f>12)) &&
 (if p.state=2 then p.pending==0 && decide (p.fds=Go2) else p.code==0)))
def hi2 (n:Int):UInt8:=if 0≤n∧n≤65535 then b8 (n / 256) else 0
def lo2 (n:Int):UInt8:=if 0≤n∧n≤65535 then b8 n else 0
abbrev put2 (n:Int):List UInt8:=[hi2 n,lo2 n]
def Eh7 (p:ProcS):List UInt8:=[b8 p.state,b8 p.parent,b8 p.group,b8 p.code]++(put2 p.pending++(put2 p.mask++(put2 p.ignored++(put2 p.caught++(p.fds.map b8++[167])))))
theorem Io3 (n:Int):(put2 n).length=2:=rfl
theorem Ic6 (p:ProcS):(Eh7 p).length=21:=by simp [Eh7,Io3,p.len]
def Az7 (p:ProcS):List UInt8:=Eh7 p++[By6 (Eh7 p),0,0]
theorem Eh3 (p:ProcS):(Az7 p).length=24:=by simp [Az7,Ic6]
theorem It4 (n w:Int):CtP A6 An5 [int n,int w] [] (.bool (A18 n w)):=by
 refine CtP.of Hl0 rfl fun h r=>Tr.eq (Hh4 ..) ?_;refine Je ?_
 exact Jz
instance {n w:Int} {l:List HP}:PCi A6 An5 [.int .i64 n,.int .i64 w] l (.bool (A18 n w)):=PCi.of (It4 n w)
theorem Iw6 (f:Int):CtP A6 Bm4 [int f] [] (.bool (decide (f<0) || decide (f>12))):=by
 refine CtP.of Hk4 rfl fun h r=>Tr.eq (Hi9 ..) ?_;refine Je ?_
 exact Jz
theorem Gh1 (p:HP) (a:Option Addr) (ro:Bool) (c:Nat) (l:List Int) (g:FuncId) (f:Int→Bool) {e:TypeId} [ks:IsSl p a ro e 1 l.length c (l.map int)] (hl:l.length≤A8) (hf:∀ x,CtP A6 g [int x] [] (.bool (f x))):∀ (m i:Nat),l.length-i=m→i≤l.length →
  Y3 I4 D7 O7 [(0,.slice a l.length c),(1,.func (.func g) ⟨[]⟩ ⟨[]⟩),(7,int l.length),(8,int i)] [p] (int (Bx1 f i (l.drop i))):=by
 intro m
 induction m with
 | zero =>
  intro i hm hi
  refine Y3.of O0 fun h r=>Tr.eq (V6 ..) ?_;refine Je ?_
  refine Yf (by simp;omega) ?_
  refine Ys fun o=>?_
  rw [List.drop_eq_nil_of_le (by omega)];exact ⟨rfl,rfl⟩
 | succ m ih =>
  intro i hm hi
  have hlt:i<l.length:=by omega
  have hp:l[i]?=some l[i]:=List.getElem?_eq_getElem hlt
  have hd:l.drop i=l[i]::l.drop (i+1):=List.drop_eq_getElem_cons hlt
  generalize l[i]=x at hp hd
  have e1:IntKind.wrap .i64 ((i:Int)+1)=((i+1:Nat):Int):=by rw [B4];simp only [A8] at hl;omega
  refine Y3.of O0 fun h r=>Tr.eq (V6 ..) ?_;refine Je ?_
  refine Yt (by simp;omega) ?_
  (refine Ja ?_;unhygienic intros;repeat(refine Gw ?_;rintro px rfl;refine Ja ?_;unhygienic intros))
  refine Tr.xIntS (v:=x) (by simp [hp]) ?_
  (refine Ja ?_;unhygienic intros)
  refine Tr.pcall (hf x) ?_
  cases hx:f x with
  | true =>
   (refine Ja ?_;unhygienic intros)
   refine Ys fun o=>?_
   rw [hd,Bx1,if_pos hx];exact ⟨by first|rfl|trivial,by first|rfl|trivial⟩
  | false =>
   (refine Ja ?_;unhygienic intros)
   rw [e1]
   refine Ab2 (ih (i+1) (by omega) (by omega)) (r:=r) (by simp) fun o=>?_
   rw [hd,Bx1,if_neg (by simp [hx])];exact ⟨by first|rfl|trivial,by first|rfl|trivial⟩
theorem Gg7 (p:HP) (a:Option Addr) (ro:Bool) (c:Nat) (l:List Int) (g:FuncId) (f:Int→Bool) {e:TypeId} [ks:IsSl p a ro e 1 l.length c (l.map int)] (hl:l.length≤A8) (hf:∀ x,CtP A6 g [int x] [] (.bool (f x))) :
  CtP A6 E5 [.slice a l.length c,.func (.func g) ⟨[]⟩ ⟨[]⟩] [p] (.bool (l.any f)):=by
 have j:CtP A6 D7 [.slice a l.length c,.func (.func g) ⟨[]⟩ ⟨[]⟩] [p] (int (Bx1 f 0 l)):=by
  refine CtP.of O0 rfl fun h r=>Tr.eq (A97 ..) ?_;refine Je ?_
  exact Ab2 (Gh1 p a ro c l g f hl hf _ 0 rfl (by omega)) (r:=r) (by simp) fun o=>⟨rfl,rfl⟩
 refine CtP.of Az5 rfl fun h r=>Tr.eq (Az4 ..) ?_;refine Je ?_
 refine B09 j (r:=r) (by simp) ?_
 (refine Ja ?_;unhygienic intros)
 refine Ys fun o=>?_
 rw [E09];exact ⟨by first|rfl|trivial,by first|rfl|trivial⟩
theorem G81:∀ (l m:List Int),l.length=m.length→eqs (l.map int) (m.map int)=some (decide (l=m))
 | [],[],_=>rfl
 | [],_::_,h=>by simp at h
 | _::_,[],h=>by simp at h
 | a::l,b::m,h=>by
  have ih:=G81 l m (by simpa using h)
  simp only [List.map_cons,eqs,eq1,decide_true,ih]
  by_cases h1:a=b<;>by_cases h2:l=m<;>simp [h1,h2]
theorem Ge2:∀ (l:List Int),I8 (List.replicate l.length (TypeDesc.int .i64)) (l.map int)=true
 | []=>rfl
 | a::l=>by
  have:=Ge2 l
  simp only [List.length_cons,List.replicate_succ,List.map_cons,I8,decide_true,this,Bool.and_self]
theorem eq8 {α:Type} (l m:List Int) (hl:l.length=8) (hm:m.length=8) (k:Bool→Option α):Df4 PR Gx1 (l.map int) (m.map int) k=k (decide (l=m)):=by
 have e:An0 PR 8 Gx1=some (List.replicate 8 (TypeDesc.int .i64)):=by kernel_rfl
 have f1:=Ge2 l;have f2:=Ge2 m
 rw [hl] at f1;rw [hm] at f2
 rw [Df4,e]
 simp only [f1,f2,G81 l m (by omega),Bool.and_self,ckB,cond_true,eqK]
theorem Ix9 (p:ProcS):Ct A6 Ds0 [.agg ⟨B5 p⟩] [] fun v own=>v=.bool (okS p)∧own []:=by
 have h8:=p.len
 refine Ct.of H61 rfl fun h r=>Tr.eq (Hy8 ..) ?_;refine Je ?_
 (refine Ja ?_;unhygienic intros)
 refine Tr.cond (fun h1=>?_) fun h1=>?_
 ·refine Ys fun o=>?_
  refine ⟨?_,o.sub⟩
  unfold okS;rw [h1];rfl
 (refine Ja ?_;unhygienic intros)
 refine Tr.cond (fun h2=>?_) fun h2=>?_
 ·refine Ys fun o=>?_
  refine ⟨?_,o.sub⟩
  unfold okS;rw [h1,h2];rfl
 (refine Ja ?_;unhygienic intros)
 refine Gs3 0 rfl [int p.state,int p.parent,int p.group,int p.code,int p.pending,int p.mask,int p.ignored,int p.caught] (p.fds.map int) [] (by simp [B5]) 1 8 8 8 ⟨by simp [h8],by omega,by simp,by simp [B5],by omega,by omega⟩ ?_
 refine Je ?_
 have J:=Gg7 (e:=B2) (slX false B2 1 (some ⟨b,8,none⟩) p.fds.length 8 ([int p.state,int p.parent,int p.group,int p.code,int p.pending,int p.mask,int p.ignored,int p.caught],[]) (p.fds.map int)) (some ⟨b,8,none⟩) false 8 p.fds Bm4 (fun f=>decide (f<0) || decide (f>12)) (by rw [h8];simp [A8]) Iw6
 rw [h8] at J
 refine Tr.pcall (J) ?_;refine Je ?_;(refine Ja ?_;unhygienic intros)
 refine Eu9 0 rfl (B5 p) (by simp [B5]) ?_
 refine Je ?_
 cases h3:p.fds.any fun f=>decide (f<0) || decide (f>12) with
 | true =>
  (refine Ja ?_;unhygienic intros)
  refine Ys fun o=>?_
  refine ⟨?_,o.sub⟩
  unfold okS;rw [h1,h2,h3];rfl
 | false =>
  (refine Ja ?_;unhygienic intros)
  have e:okS p=if p.state=2 then p.pending==0 && decide (p.fds=Go2) else p.code==0:=by unfold okS;rw [h1,h2,h3];rfl
  rw [e]
  by_cases h4:p.state=2
  ·refine Yt (by simpa using h4) ?_
   rw [if_pos h4]
   (repeat' first|refine Gu ?_|(with_reducible first|refine Gn fun b h=>?_|apply Gx|apply Gy|rintro px rfl|apply Gw|refine fun(h:H)=>?_|intro hb)|refine Gs ?_|refine Gt ?_|exact Gz rfl|fail)
   rw [show ([int 0,int 0,int 0,int 0,int 0,int 0,int 0,int 0]:List Value)=Go2.map int from rfl,eq8 _ _ h8 rfl]
   (repeat' first|refine Gu ?_|(with_reducible first|refine Gn fun b h=>?_|apply Gx|apply Gy|rintro px rfl|apply Gw|refine fun(h:H)=>?_|intro hb)|refine Gs ?_|refine Gt ?_|exact Gz rfl|fail)
   refine Ys fun o=>?_
   exact ⟨rfl,o.sub⟩
  ·refine Yf (by simpa using h4) ?_
   rw [if_neg h4]
   (refine Ja ?_;unhygienic intros)
   refine Ys fun o=>?_
   exact ⟨rfl,o.sub⟩
theorem It0 (a:Option Addr) (c:Nat) (cs:List Value) (j:Nat) (n:Int) (hj:j+2≤cs.length) (hm:cs.length≤A8):Ct A6 Bn3 [.slice a cs.length c,int j,int n] [slC false A4 1 a cs.length c cs] fun v own =>
  (∃ ok,v=.bool ok)∧own [slC false A4 1 a cs.length c (if 0≤n∧n≤65535 then (cs.set j (.int .u8 ((b8 (n / 256)).toNat:Int))).set (j+1) (.int .u8 ((b8 n).toNat:Int)) else cs)]:=by
 simp only [A8] at hm
 have e1:IntKind.wrap .i64 ((cs.length:Int)-2)=(cs.length:Int)-2:=by rw [B4];omega
 have e2:=wN j
 refine Ct.of Hg8 rfl fun h r=>Tr.eq (Hb1 ..) ?_;refine Je ?_
 rw [e1,e2]
 (refine Ja ?_;unhygienic intros)
 by_cases h:0≤n∧n≤65535
 ·refine Yf (by simp;omega) ?_
  rw [if_pos h]
  (refine Ja ?_;unhygienic intros;repeat(refine Gw ?_;rintro px rfl;refine Ja ?_;unhygienic intros))
  rw [Int.toNat_natCast,show Int.fdiv n (2 ^ 8)=n / 256 by rw [Int.fdiv_eq_ediv_of_nonneg _ (by omega)];rfl,Bl7,Bl7]
  refine Je ?_
  refine Tr.xVS (cs':=cs.set j (.int .u8 ((b8 (n / 256)).toNat:Int))) ⟨by omega,rfl,rfl⟩ fun h=>?_
  (refine Ja ?_;unhygienic intros)
  rw [Int.toNat_natCast]
  refine Je ?_
  refine Tr.xVS (cs':=(cs.set j (.int .u8 ((b8 (n / 256)).toNat:Int))).set (j+1) (.int .u8 ((b8 n).toNat:Int))) ⟨by simp;omega,rfl,rfl⟩ fun h=>?_
  refine Ys fun o=>?_
  exact ⟨⟨_,rfl⟩,o.sub⟩
 ·refine Yt (by simp;omega) ?_
  rw [if_neg h]
  refine Ys fun o=>?_
  exact ⟨⟨_,rfl⟩,o.sub⟩
theorem Ed6 (l:List UInt8) (j:Nat) (x:UInt8):(A0 l).set j (.int .u8 (x.toNat:Int))=A0 (l.set j x):=by simp [A0,List.map_set]
theorem Ef0 (a:Option Addr) (c m:Nat) (l:List UInt8) (j:Nat) (n:Int) (hm:l.length=m) (hj:j+2≤m) (h1:l[j]?=some 0) (h2:l[j+1]?=some 0) (hl:m≤A8):Ct A6 Bn3 [.slice a m c,int j,int n] [slC false A4 1 a m c (A0 l)] fun v own =>
  (∃ ok,v=.bool ok)∧own [slC false A4 1 a m c (A0 ((l.set j (hi2 n)).set (j+1) (lo2 n)))]:=by
 subst hm
 have J:=It0 a c (A0 l) j n (by rw [Y0];omega) (by rw [Y0];omega)
 rw [Y0] at J
 have e:(if 0≤n∧n≤65535 then ((A0 l).set j (.int .u8 ((b8 (n / 256)).toNat:Int))).set (j+1) (.int .u8 ((b8 n).toNat:Int)) else A0 l)=A0 ((l.set j (hi2 n)).set (j+1) (lo2 n)):=by
  unfold hi2 lo2
  split
  ·rw [Ed6,Ed6]
  ·rw [E12 h1,E12 h2]
 rw [e] at J
 exact J
def two (l:List UInt8) (j:Nat):Int:=byI l j*256+byI l (j+1)
theorem Iy0 (x y:UInt8):Bb7 .i64 (IntKind.wrap .i64 (IntKind.wrap .i64 (x.toNat:Int)*2 ^ 8)) (IntKind.wrap .i64 (y.toNat:Int))=(x.toNat:Int)*256+y.toNat:=by
 have hx:=x.toNat_lt;have hy:=y.toNat_lt
 have e1:IntKind.wrap .i64 (IntKind.wrap .i64 (x.toNat:Int)*2 ^ 8)=((x.toNat*256:Nat):Int):=by rw [Aq6,B4];omega
 rw [e1,Aq6]
 unfold Bb7
 have e0:IntKind.bits .i64=64:=rfl
 rw [e0,BitVec.ofInt_natCast,BitVec.ofInt_natCast,BitVec.toNat_or,BitVec.toNat_ofNat,BitVec.toNat_ofNat,Nat.mod_eq_of_lt (by omega),Nat.mod_eq_of_lt (by omega)]
 have e2:x.toNat*256 ||| y.toNat=x.toNat*256+y.toNat:=by
  have:=Nat.two_pow_add_eq_or_of_lt (i:=8) (b:=y.toNat) (by omega) x.toNat
  rw [show 2 ^ 8*x.toNat=x.toNat*256 by omega] at this
  exact this.symm
 rw [e2,B4];omega
theorem E48 (a:Option Addr) (c n:Nat) (l:List UInt8) (j:Nat) (hn:l.length=n) (hj:j+2≤n) (hm:n≤A8):CtP A6 B74 [.slice a n c,int j] [slC false A4 1 a n c (A0 l)] (.tuple ⟨[int (two l j),.bool true]⟩):=by
 simp only [A8] at hm
 have e1:IntKind.wrap .i64 ((n:Int)-2)=(n:Int)-2:=by rw [B4];omega
 have e2:=wN j
 refine CtP.of Hd2 rfl fun h r=>Tr.eq (Hi1 ..) ?_;refine Je ?_
 rw [e1,e2]
 (refine Ja ?_;unhygienic intros)
 refine Yf (by simp;omega) ?_
 (refine Ja ?_;unhygienic intros;repeat(refine Gw ?_;rintro px rfl;refine Ja ?_;unhygienic intros))
 rw [Int.toNat_natCast]
 refine Je ?_
 refine Tr.xIntS (v:=byI l j) (Ag0 (by omega)) ?_
 (refine Ja ?_;unhygienic intros)
 rw [Int.toNat_natCast]
 refine Je ?_
 refine Tr.xIntS (v:=byI l (j+1)) (Ag0 (by omega)) ?_
 refine Ys fun o=>?_
 rw [Iy0];exact ⟨rfl,rfl⟩
theorem It8 (a:Option Addr) (c:Nat) (p:ProcS):Ct A6 P6 [.agg ⟨B5 p⟩,.slice a 24 c] [slC false A4 1 a 24 c (A0 (List.replicate 24 0))] fun v own=>v=.bool (okS p)∧own [slC false A4 1 a 24 c (A0 (if okS p then Az7 p else List.replicate 24 0))]:=by
 refine Ct.of J4 rfl fun h r=>Tr.eq (Hu1 ..) ?_;refine Je ?_
 refine Yn fun b1 h=>?_
 (refine Ja ?_;intros)
 refine Yc (Ix9 p) ?_;rintro _ h ⟨rfl,o⟩<;>(refine Jf o ?_;intros)
 cases hk:okS p with
 | false =>
  (refine Ja ?_;intros)
  refine Ys fun o=>?_
  rw [if_neg (by simp)]
  exact ⟨rfl,o.sub⟩
 | true =>
  simp only [if_true]
  obtain ⟨st,pa,gr,co,pe,ma,ig,ca,fds,len⟩:=p
  match fds,len with
  | [f0,f1,f2,f3,f4,f5,f6,f7],len =>
  (refine Ja ?_;intros)
  rename_i b2 h2
  refine Ae9 2 rfl fun hl hc _=>?_
  simp only [List.map]
  refine Tr.jmp J4 (Tr.eq (A79 ..) ?_);(try simp only[Nr,Nl,wl,Nat.reduceAdd,Nat.reduceMul,Int.reduceToNat])
  (refine Jd ?_;intros;repeat(refine Gw ?_;rintro px rfl;refine Jd ?_;intros))
  refine Tr.jmp J4 (Tr.eq (A79 ..) ?_);(try simp only[Nr,Nl,wl,Nat.reduceAdd,Nat.reduceMul,Int.reduceToNat])
  (refine Jd ?_;intros)
  refine Tr.jmp J4 (Tr.eq (A79 ..) ?_);(try simp only[Nr,Nl,wl,Nat.reduceAdd,Nat.reduceMul,Int.reduceToNat])
  (refine Jd ?_;intros)
  refine Tr.jmp J4 (Tr.eq (A79 ..) ?_);(try simp only[Nr,Nl,wl,Nat.reduceAdd,Nat.reduceMul,Int.reduceToNat])
  (refine Jd ?_;intros)
  refine Tr.jmp J4 (Tr.eq (A79 ..) ?_);(try simp only[Nr,Nl,wl,Nat.reduceAdd,Nat.reduceMul,Int.reduceToNat])
  (refine Jd ?_;intros)
  simp only [Bl7,Ed6,List.replicate,List.set_cons_zero,List.set_cons_succ,Nat.mul_one]
  refine Tr.jmp J4 (Tr.eq (A95 ..) ?_);(try simp only[Nr,Nl,wl,Nat.reduceAdd,Nat.reduceMul,Int.reduceToNat])
  (refine Jd ?_;intros)
  refine Yc (Ef0 (some px) c 24 [b8 st,b8 pa,b8 gr,b8 co,0,0,0,0,0,0,0,0,0,0,0,0,0,0,0,0,0,0,0,0] 4 pe rfl (by omega) rfl rfl (by simp [A8])) ?_;rintro _ h ⟨⟨_,rfl⟩,o⟩<;>(refine Jf o ?_;intros)
  refine Tr.jmp J4 (Tr.eq (A95 ..) ?_);(try simp only[Nr,Nl,wl,Nat.reduceAdd,Nat.reduceMul,Int.reduceToNat])
  (refine Jd ?_;intros)
  refine Yc (Ef0 (some px) c 24 [b8 st,b8 pa,b8 gr,b8 co,hi2 pe,lo2 pe,0,0,0,0,0,0,0,0,0,0,0,0,0,0,0,0,0,0] 6 ma rfl (by omega) rfl rfl (by simp [A8])) ?_;rintro _ h ⟨⟨_,rfl⟩,o⟩<;>(refine Jf o ?_;intros)
  refine Tr.jmp J4 (Tr.eq (A95 ..) ?_);(try simp only[Nr,Nl,wl,Nat.reduceAdd,Nat.reduceMul,Int.reduceToNat])
  (refine Jd ?_;intros)
  refine Yc (Ef0 (some px) c 24 [b8 st,b8 pa,b8 gr,b8 co,hi2 pe,lo2 pe,hi2 ma,lo2 ma,0,0,0,0,0,0,0,0,0,0,0,0,0,0,0,0] 8 ig rfl (by omega) rfl rfl (by simp [A8])) ?_;rintro _ h ⟨⟨_,rfl⟩,o⟩<;>(refine Jf o ?_;intros)
  refine Tr.jmp J4 (Tr.eq (A95 ..) ?_);(try simp only[Nr,Nl,wl,Nat.reduceAdd,Nat.reduceMul,Int.reduceToNat])
  (refine Jd ?_;intros)
  refine Yc (Ef0 (some px) c 24 [b8 st,b8 pa,b8 gr,b8 co,hi2 pe,lo2 pe,hi2 ma,lo2 ma,hi2 ig,lo2 ig,0,0,0,0,0,0,0,0,0,0,0,0,0,0] 10 ca rfl (by omega) rfl rfl (by simp [A8])) ?_;rintro _ h ⟨⟨_,rfl⟩,o⟩<;>(refine Jf o ?_;intros)
  refine Tr.jmp J4 (Tr.eq (A95 ..) ?_);(try simp only[Nr,Nl,wl,Nat.reduceAdd,Nat.reduceMul,Int.reduceToNat])
  (refine Jd ?_;intros)
  refine Tr.jmp J4 (Tr.eq (Aa9 ..) ?_);(try simp only[Nr,Nl,wl,Nat.reduceAdd,Nat.reduceMul,Int.reduceToNat])
  (refine Jd ?_;intros)
  refine Tr.jmp J4 (Tr.eq (Aa9 ..) ?_);(try simp only[Nr,Nl,wl,Nat.reduceAdd,Nat.reduceMul,Int.reduceToNat])
  (refine Jd ?_;intros)
  refine Tr.jmp J4 (Tr.eq (Aa9 ..) ?_);(try simp only[Nr,Nl,wl,Nat.reduceAdd,Nat.reduceMul,Int.reduceToNat])
  (refine Jd ?_;intros)
  refine Tr.jmp J4 (Tr.eq (Aa9 ..) ?_);(try simp only[Nr,Nl,wl,Nat.reduceAdd,Nat.reduceMul,Int.reduceToNat])
  (refine Jd ?_;intros)
  refine Tr.jmp J4 (Tr.eq (Aa9 ..) ?_);(try simp only[Nr,Nl,wl,Nat.reduceAdd,Nat.reduceMul,Int.reduceToNat])
  (refine Jd ?_;intros)
  refine Tr.jmp J4 (Tr.eq (Aa9 ..) ?_);(try simp only[Nr,Nl,wl,Nat.reduceAdd,Nat.reduceMul,Int.reduceToNat])
  (refine Jd ?_;intros)
  refine Tr.jmp J4 (Tr.eq (Aa9 ..) ?_);(try simp only[Nr,Nl,wl,Nat.reduceAdd,Nat.reduceMul,Int.reduceToNat])
  (refine Jd ?_;intros)
  refine Tr.jmp J4 (Tr.eq (Aa9 ..) ?_);(try simp only[Nr,Nl,wl,Nat.reduceAdd,Nat.reduceMul,Int.reduceToNat])
  (refine Jd ?_;intros)
  refine Tr.jmp J4 (Tr.eq (Aa9 ..) ?_);(try simp only[Nr,Nl,wl,Nat.reduceAdd,Nat.reduceMul,Int.reduceToNat])
  (refine Jd ?_;intros)
  simp only [Bl7,Ed6,List.set_cons_zero,List.set_cons_succ,Nat.mul_one]
  rw [show (.int .u8 167:Value)=.int .u8 ((167:UInt8).toNat:Int) from rfl,Ed6]
  simp only [List.set_cons_zero,List.set_cons_succ]
  refine Tr.pcall (Gq0 (slC false A4 1 (some px) 24 c (A0 [b8 st,b8 pa,b8 gr,b8 co,hi2 pe,lo2 pe,hi2 ma,lo2 ma,hi2 ig,lo2 ig,hi2 ca,lo2 ca,b8 f0,b8 f1,b8 f2,b8 f3,b8 f4,b8 f5,b8 f6,b8 f7,167,0,0,0])) (some px) false 24 c c [b8 st,b8 pa,b8 gr,b8 co,hi2 pe,lo2 pe,hi2 ma,lo2 ma,hi2 ig,lo2 ig,hi2 ca,lo2 ca,b8 f0,b8 f1,b8 f2,b8 f3,b8 f4,b8 f5,b8 f6,b8 f7,167,0,0,0] 21 (by simp) (by simp [A8])) ?_
  refine Je ?_
  (refine Ja ?_;intros)
  rw [Dv7]
  (refine Jd ?_;intros)
  refine Ys fun o=>?_
  rw [Ed6] at o
  simp only [List.set_cons_zero,List.set_cons_succ] at o
  simp only [Az7,Eh7,put2,List.map,List.cons_append,List.nil_append]
  exact ⟨trivial,o.sub⟩
abbrev Gd2 (k:Nat):HP:=pt k (.cells Bv0 false [int 24,.func (.func P6) ⟨[]⟩ ⟨[]⟩,.func (.func Aa2) ⟨[]⟩ ⟨[]⟩])
theorem Ho2 (k:Nat) (f:ProcS):Ct A6 Z2 [P0 k,.agg ⟨B5 f⟩] [Gd2 k] fun v own=>(okS f=true∧∃ a,v=.tuple ⟨[.slice a 24 24,.bool true]⟩∧own [Gd2 k,slC false A4 1 a 24 24 (A0 (Az7 f))])∨(okS f=false∧v=.tuple ⟨[.slice none 0 0,.bool false]⟩∧own [Gd2 k]):=by
 refine Ct.of B93 rfl fun h r=>Tr.eq (B98 ..) ?_;refine Je ?_
 (refine Ja ?_;intros)
 refine Tr.ck ⟨by omega,by omega,by simp [A8]⟩ ?_
 refine Yn fun b1 h=>?_
 rw [show L8 (Int.toNat 24) [.int .u8 0]=A0 (List.replicate 24 0) from rfl]
 refine Ao6 0 rfl 1 24 rfl (by omega) ?_
 simp only [List.set_cons_zero]
 refine Je ?_
 (refine Jb ?_;intros)
 refine Yb (Yf rfl ?_)
 (refine Jb ?_;intros)
 refine Yc (It8 (some ⟨b1,0,none⟩) 24 f) ?_;rintro _ h ⟨rfl,o⟩<;>(refine Jg o ?_;intros)
 refine Ys fun o=>(?_:Tr _ _ _ _) o;refine Je ?_
 cases hk:okS f with
 | false =>
  (refine Ja ?_;intros)
  refine Ys fun o=>?_
  exact .inr ⟨rfl,rfl,o.sub⟩
 | true =>
  (refine Ja ?_;intros)
  refine Ys fun o=>?_
  simp only [if_true] at o
  exact .inl ⟨rfl,_,rfl,o.sub⟩
theorem Ix4:Ct A6 As8 [int 24,.func (.func P6) ⟨[]⟩ ⟨[]⟩,.func (.func Aa2) ⟨[]⟩ ⟨[]⟩] [] fun v own=>∃ k,v=P0 k∧own [Gd2 k]:=by
 refine Ct.of Ef5 rfl fun h r=>Tr.eq (El3 ..) ?_;refine Je ?_
 rw [show mm2 false (mm2 true 24 0) 64=24 from rfl]
 (refine Ja ?_;intros)
 refine Ys fun o=>?_
 exact ⟨_,rfl,o.sub⟩
theorem G20:Ct A6 Bf5 [] [] fun v own=>∃ k,v=P0 k∧own [Gd2 k]:=by
 refine Ct.of G45 rfl fun h r=>Tr.eq (G59 ..) ?_;refine Je ?_
 refine Yc (Ix4) ?_;rintro _ h ⟨k,rfl,o⟩<;>(refine Jf o ?_;intros)
 refine Ys fun o=>?_
 exact ⟨_,rfl,o.sub⟩
theorem Gl9 (f:ProcS):Ct A6 Ba4 [.agg ⟨B5 f⟩] [] fun v own=>(okS f=true∧∃ a,v=.tuple ⟨[.slice a 24 24,.bool true]⟩∧own [slC false A4 1 a 24 24 (A0 (Az7 f))])∨(okS f=false∧v=.tuple ⟨[.slice none 0 0,.bool false]⟩∧own []):=by
 refine Ct.of Gu0 rfl fun h r=>Tr.eq (Gs0 ..) ?_;refine Je ?_
 (refine Ja ?_;intros)
 refine Yc (G20) ?_;rintro _ h ⟨k,rfl,o⟩<;>(refine Jg o ?_;intros)
 refine Yc (Ho2 k f) ?_
 rintro v h (⟨hk,a,rfl,o⟩|⟨hk,rfl,o⟩)
 ·refine (?_:Tr _ _ _ _) o
  refine Je ?_
  (refine Ja ?_;intros)
  refine Ys fun o=>?_
  exact .inl ⟨hk,a,rfl,o.sub⟩
 ·refine (?_:Tr _ _ _ _) o
  refine Je ?_
  (refine Ja ?_;intros)
  refine Ys fun o=>?_
  exact .inr ⟨hk,rfl,o.sub⟩
def Bh2 (l:List UInt8):ProcS:=⟨byI l 0,byI l 1,byI l 2,byI l 3,two l 4,two l 6,two l 8,two l 10,[byI l 12,byI l 13,byI l 14,byI l 15,byI l 16,byI l 17,byI l 18,byI l 19],rfl⟩
def isS (l:List UInt8):Bool:=okS (Bh2 l) && decide (Az7 (Bh2 l)=l)
theorem Iu5 (a:Option Addr) (c:Nat) (l:List UInt8) (hl:l.length=24):Ct A6 Aa2 [.slice a 24 c] [slC false A4 1 a 24 c (A0 l)] fun v own=>v=.tuple ⟨[.agg ⟨B5 (Bh2 l)⟩,.bool (isS l)]⟩∧own [slC false A4 1 a 24 c (A0 l)]:=by
 have key:∀ a1:Option Addr,CtP A6 D1 [.slice a1 24 24,.slice a 24 c] [slC false A4 1 a1 24 24 (A0 (Az7 (Bh2 l))),slC false A4 1 a 24 c (A0 l)] (.bool (decide (Az7 (Bh2 l)=l))):=fun a1=>by
  have e:=Eh3 (Bh2 l)
  have J:=Ez8 (slC false A4 1 a1 (Az7 (Bh2 l)).length 24 (A0 (Az7 (Bh2 l)))) (slC false A4 1 a l.length c (A0 l)) a1 false 24 a false c (Az7 (Bh2 l)) l (by rw [e];simp [A8])
  rwa [hl,e] at J
 refine Ct.of Q0 rfl fun h r=>Tr.eq (Hn0 ..) ?_;refine Je ?_
 refine Yn fun b1 h=>?_
 refine Ae9 1 rfl fun hl2 hc2 _=>?_
 (refine Ja ?_;intros;repeat(refine Gw ?_;rintro px rfl;refine Ja ?_;intros))
 refine Tr.xIntS (v:=byI l 0) (Ag0 (by omega)) ?_
 (refine Ja ?_;intros)
 refine Tr.xIntS (v:=byI l 1) (Ag0 (by omega)) ?_
 (refine Ja ?_;intros)
 refine Tr.xIntS (v:=byI l 2) (Ag0 (by omega)) ?_
 (refine Ja ?_;intros)
 refine Tr.xIntS (v:=byI l 3) (Ag0 (by omega)) ?_
 (refine Ja ?_;intros)
 simp only [byI,Aq6]
 refine Tr.jmp Q0 (Tr.eq (Ba5 ..) ?_);(try simp only[Nr,Nl,wl,Nat.reduceAdd,Nat.reduceMul,Int.reduceToNat])
 (refine Jd ?_;intros)
 refine Tr.pcall (E48 (some px) c 24 l 4 hl (by omega) (by simp [A8])) ?_;refine Je ?_;(refine Ja ?_;intros)
 refine Tr.jmp Q0 (Tr.eq (Ba5 ..) ?_);(try simp only[Nr,Nl,wl,Nat.reduceAdd,Nat.reduceMul,Int.reduceToNat])
 (refine Jd ?_;intros)
 refine Tr.pcall (E48 (some px) c 24 l 6 hl (by omega) (by simp [A8])) ?_;refine Je ?_;(refine Ja ?_;intros)
 refine Tr.jmp Q0 (Tr.eq (Ba5 ..) ?_);(try simp only[Nr,Nl,wl,Nat.reduceAdd,Nat.reduceMul,Int.reduceToNat])
 (refine Jd ?_;intros)
 refine Tr.pcall (E48 (some px) c 24 l 8 hl (by omega) (by simp [A8])) ?_;refine Je ?_;(refine Ja ?_;intros)
 refine Tr.jmp Q0 (Tr.eq (Ba5 ..) ?_);(try simp only[Nr,Nl,wl,Nat.reduceAdd,Nat.reduceMul,Int.reduceToNat])
 (refine Jd ?_;intros)
 refine Tr.pcall (E48 (some px) c 24 l 10 hl (by omega) (by simp [A8])) ?_;refine Je ?_;(refine Ja ?_;intros)
 refine Tr.jmp Q0 (Tr.eq (Ba5 ..) ?_);(try simp only[Nr,Nl,wl,Nat.reduceAdd,Nat.reduceMul,Int.reduceToNat])
 (refine Jd ?_;intros)
 refine Tr.jmp Q0 (Tr.eq (Aa4 ..) ?_);(try simp only[Nr,Nl,wl,Nat.reduceAdd,Nat.reduceMul,Int.reduceToNat])
 (refine Jd ?_;intros)
 refine Tr.xIntS (v:=byI l 12) (Ag0 (by omega)) ?_
 (refine Jd ?_;intros)
 simp only [byI,Aq6]
 refine Tr.jmp Q0 (Tr.eq (Aa4 ..) ?_);(try simp only[Nr,Nl,wl,Nat.reduceAdd,Nat.reduceMul,Int.reduceToNat])
 (refine Jd ?_;intros)
 refine Tr.xIntS (v:=byI l 13) (Ag0 (by omega)) ?_
 (refine Jd ?_;intros)
 simp only [byI,Aq6]
 refine Tr.jmp Q0 (Tr.eq (Aa4 ..) ?_);(try simp only[Nr,Nl,wl,Nat.reduceAdd,Nat.reduceMul,Int.reduceToNat])
 (refine Jd ?_;intros)
 refine Tr.xIntS (v:=byI l 14) (Ag0 (by omega)) ?_
 (refine Jd ?_;intros)
 simp only [byI,Aq6]
 refine Tr.jmp Q0 (Tr.eq (Aa4 ..) ?_);(try simp only[Nr,Nl,wl,Nat.reduceAdd,Nat.reduceMul,Int.reduceToNat])
 (refine Jd ?_;intros)
 refine Tr.xIntS (v:=byI l 15) (Ag0 (by omega)) ?_
 (refine Jd ?_;intros)
 simp only [byI,Aq6]
 refine Tr.jmp Q0 (Tr.eq (Aa4 ..) ?_);(try simp only[Nr,Nl,wl,Nat.reduceAdd,Nat.reduceMul,Int.reduceToNat])
 (refine Jd ?_;intros)
 refine Tr.xIntS (v:=byI l 16) (Ag0 (by omega)) ?_
 (refine Jd ?_;intros)
 simp only [byI,Aq6]
 refine Tr.jmp Q0 (Tr.eq (Aa4 ..) ?_);(try simp only[Nr,Nl,wl,Nat.reduceAdd,Nat.reduceMul,Int.reduceToNat])
 (refine Jd ?_;intros)
 refine Tr.xIntS (v:=byI l 17) (Ag0 (by omega)) ?_
 (refine Jd ?_;intros)
 simp only [byI,Aq6]
 refine Tr.jmp Q0 (Tr.eq (Aa4 ..) ?_);(try simp only[Nr,Nl,wl,Nat.reduceAdd,Nat.reduceMul,Int.reduceToNat])
 (refine Jd ?_;intros)
 refine Tr.xIntS (v:=byI l 18) (Ag0 (by omega)) ?_
 (refine Jd ?_;intros)
 simp only [byI,Aq6]
 refine Tr.jmp Q0 (Tr.eq (Aa4 ..) ?_);(try simp only[Nr,Nl,wl,Nat.reduceAdd,Nat.reduceMul,Int.reduceToNat])
 (refine Jd ?_;intros)
 refine Tr.xIntS (v:=byI l 19) (Ag0 (by omega)) ?_
 (refine Jd ?_;intros)
 simp only [byI,Aq6]
 refine Tr.jmp Q0 (Tr.eq (Aa4 ..) ?_);(try simp only[Nr,Nl,wl,Nat.reduceAdd,Nat.reduceMul,Int.reduceToNat])
 refine Yf rfl ?_
 refine Tr.xAgg (xs:=B5 (Bh2 l)) ⟨Nat.le_of_ble_eq_true rfl,rfl⟩ ?_
 refine Yc (Gl9 (Bh2 l)) ?_
 rintro v h (⟨hk,a1,rfl,o⟩|⟨hk,rfl,o⟩)
 ·refine (?_:Tr _ _ _ _) o
  refine Je ?_
  refine Tr.dx ?_
  refine Tr.dx ?_
  refine Tr.dx ?_
  refine Tr.xAgg (xs:=B5 (Bh2 l)) ⟨Nat.le_of_ble_eq_true rfl,rfl⟩ ?_
  refine Yb (Yt rfl ?_)
  refine Tr.pcall (key a1) ?_
  refine Tr.dx ?_
  refine Tr.xAgg (xs:=B5 (Bh2 l)) ⟨Nat.le_of_ble_eq_true rfl,rfl⟩ ?_
  (refine Ja ?_;intros)
  refine Ys fun o=>(?_:Tr _ _ _ _) o;refine Je ?_
  (refine Ja ?_;intros)
  refine Ys fun o=>?_
  exact ⟨by unfold isS;rw [hk,Bool.true_and],o.sub⟩
 ·refine (?_:Tr _ _ _ _) o
  refine Je ?_
  refine Tr.dx ?_
  refine Tr.dx ?_
  refine Tr.dx ?_
  refine Tr.xAgg (xs:=B5 (Bh2 l)) ⟨Nat.le_of_ble_eq_true rfl,rfl⟩ ?_
  (refine Ja ?_;intros)
  refine Ys fun o=>?_
  exact ⟨by unfold isS;rw [hk];rfl,o.sub⟩
theorem Hk1 (k:Nat) (pb:HP) (ro:Bool) (a:Option Addr) (c:Nat) (l:List UInt8) (hl:l.length=24) [ks:IsSl pb a ro A4 1 24 c (A0 l)]:Ct A6 Y8 [P0 k,.slice a 24 c] [Gd2 k,pb] fun v own=>v=.tuple ⟨[.agg ⟨B5 (if isS l then Bh2 l else .zero)⟩,.bool (isS l)]⟩∧own [Gd2 k,pb]:=by
 refine Ct.of Da1 rfl fun h r=>Tr.eq (B94 ..) ?_;refine Je ?_
 (refine Ja ?_;intros)
 refine Yf rfl ?_
 (refine Jb ?_;intros)
 refine Yc (Eo1 24 pb ro a c l hl (by simp [A8])) ?_;rintro _ h ⟨a1,c1,rfl,o⟩<;>(refine Jg o ?_;intros)
 refine Yc (Iu5 a1 c1 l hl) ?_;rintro _ h ⟨rfl,o⟩<;>(refine Jg o ?_;intros)
 cases hk:isS l with
 | false =>
  (refine Ja ?_;intros)
  refine Ys fun o=>?_
  exact ⟨rfl,o.sub⟩
 | true =>
  (refine Ja ?_;intros)
  refine Ys fun o=>?_
  exact ⟨rfl,o.sub⟩
def Aa3 (l:List UInt8):ProcS × Int:=if l.all (·==0) then (.zero,0) else if isS l then (Bh2 l,1) else (.zero,2)
theorem Hp0 (pb:HP) (ro:Bool) (a:Option Addr) (c:Nat) (l:List UInt8) (hl:l.length=24) [ks:IsSl pb a ro A4 1 24 c (A0 l)]:Ct A6 Aw4 [.slice a 24 c] [pb] fun v own=>v=.tuple ⟨[.agg ⟨B5 (Aa3 l).1⟩,int (Aa3 l).2]⟩∧own [pb]:=by
 refine Ct.of Gw4 rfl fun h r=>Tr.eq (Gr6 ..) ?_;refine Je ?_
 refine Yn fun b1 h=>?_
 refine Yb (Yt rfl ?_)
 refine Tr.pcall (Ei8 24 pb ro a c l hl (by simp [A8])) ?_;refine Je ?_;(refine Jb ?_;intros)
 refine Ys fun o=>(?_:Tr _ _ _ _) o;refine Je ?_
 cases hb:l.all (·==0) with
 | true =>
  (refine Ja ?_;intros)
  refine Ys fun o=>?_
  exact ⟨by unfold Aa3;rw [hb];rfl,o.sub⟩
 | false =>
  (refine Jb ?_;intros)
  refine Yc (G20) ?_;rintro _ h ⟨k,rfl,o⟩<;>(refine Jg o ?_;intros)
  refine Yc (Hk1 k pb ro a c l hl) ?_;rintro _ h ⟨rfl,o⟩<;>(refine Jg o ?_;intros)
  cases hk:isS l with
  | false =>
   (refine Ja ?_;intros)
   refine Ys fun o=>?_
   exact ⟨by unfold Aa3;rw [hb,hk];rfl,o.sub⟩
  | true =>
   (refine Ja ?_;intros)
   refine Ys fun o=>?_
   exact ⟨by unfold Aa3;rw [hb,hk];rfl,o.sub⟩
theorem H28 (a:Option Addr) (c:Nat) (l:List UInt8) (hl:l.length=24):Ct A6 Aw4 [.slice a 24 c] [slC false A4 1 a 24 c (A0 l)] fun v own=>v=.tuple ⟨[.agg ⟨B5 (Aa3 l).1⟩,int (Aa3 l).2]⟩∧own [slC false A4 1 a 24 c (A0 l)]:=Hp0 (slC false A4 1 a 24 c (A0 l)) false a c l hl
def N8 (l:List UInt8) (a:Nat) (b:List UInt8):List UInt8:=l.take a++b++l.drop (a+b.length)
theorem Ah1 {l b:List UInt8} {a:Nat} (h:a+b.length≤l.length):(N8 l a b).length=l.length:=by simp [N8];omega
theorem Bo1 {l b:List UInt8} {a:Nat} (h:a+b.length≤l.length) (i:Nat):(N8 l a b)[i]?=if a≤i∧i<a+b.length then b[i-a]? else l[i]?:=by
 unfold N8
 by_cases h1:i<a
 ·rw [if_neg (by omega),List.append_assoc,List.getElem?_append_left (by simp;omega),List.getElem?_take,if_pos h1]
 ·rw [List.append_assoc,List.getElem?_append_right (by simp;omega),List.length_take,Nat.min_eq_left (by omega)]
  by_cases h2:i<a+b.length
  ·rw [if_pos ⟨by omega,h2⟩,List.getElem?_append_left (by omega)]
  ·rw [if_neg (by omega),List.getElem?_append_right (by omega),List.getElem?_drop];congr 1;omega
def slice (l:List UInt8) (a n:Nat):List UInt8:=(l.drop a).take n
theorem B15 (l:List UInt8) (a n i:Nat):(slice l a n)[i]?=if i<n then l[a+i]? else none:=by
 unfold slice;rw [List.getElem?_take];split
 ·rw [List.getElem?_drop]
 ·rfl
theorem Gy7 {l:List UInt8} {a n:Nat} (h:a+n≤l.length):(slice l a n).length=n:=by simp [slice];omega
abbrev Rg:=List (Nat × Nat)
def U8:List UInt8→Rg→List (List UInt8)→List UInt8
 | l,(lo,_)::rg,x::m=>U8 (N8 l lo x) rg m
 | l,_,_=>l
structure Fit (size:Nat) (rg:Rg) (m:List (List UInt8)):Prop where
 len:m.length=rg.length
 each:∀ (j lo n:Nat),rg[j]?=some (lo,n)→lo+n≤size∧∃ x,m[j]?=some x∧x.length=n
def RgOk (rg:Rg):Prop:=∀ (i j lo n lo' n':Nat),i≠j→rg[i]?=some (lo,n)→rg[j]?=some (lo',n')→lo+n≤lo'∨lo'+n'≤lo
theorem Fit.tail {size:Nat} {p:Nat × Nat} {rg:Rg} {x:List UInt8} {m:List (List UInt8)} (f:Fit size (p::rg) (x::m)):Fit size rg m:=⟨by simpa using f.len,fun j lo n h=>by simpa using f.each (j+1) lo n (by simpa using h)⟩
theorem Fit.head {size lo n:Nat} {rg:Rg} {x:List UInt8} {m:List (List UInt8)} (f:Fit size ((lo,n)::rg) (x::m)):lo+n≤size∧x.length=n:=by
 obtain ⟨h,y,hy,hl⟩:=f.each 0 lo n rfl
 simp at hy;subst hy;exact ⟨h,hl⟩
theorem RgOk.tail {p:Nat × Nat} {rg:Rg} (k:RgOk (p::rg)):RgOk rg:=fun i j lo n lo' n' hij hi hj=>k (i+1) (j+1) lo n lo' n' (by omega) (by simpa using hi) (by simpa using hj)
theorem De8:∀ {rg:Rg} {m:List (List UInt8)} {l:List UInt8},Fit l.length rg m→(U8 l rg m).length=l.length
 | [],m,l,f=>by simp [U8]
 | (lo,n)::rg,[],l,f=>by simp [U8]
 | (lo,n)::rg,x::m,l,f=>by
  have h:=f.head
  have e:=Ah1 (l:=l) (b:=x) (a:=lo) (by omega)
  unfold U8
  rw [De8 (by rw [e];exact f.tail),e]
theorem Dy1:∀ {rg:Rg} {m:List (List UInt8)} {l:List UInt8},Fit l.length rg m→∀ i,(∀ (j lo n:Nat),rg[j]?=some (lo,n)→i<lo∨lo+n≤i)→(U8 l rg m)[i]?=l[i]?
 | [],m,l,f,i,h=>by simp [U8]
 | (lo,n)::rg,[],l,f,i,h=>by simp [U8]
 | (lo,n)::rg,x::m,l,f,i,h=>by
  have h0:=f.head
  have e:=Ah1 (l:=l) (b:=x) (a:=lo) (by omega)
  unfold U8
  rw [Dy1 (by rw [e];exact f.tail) i (fun j lo' n' hj=>h (j+1) lo' n' (by simpa using hj)),Bo1 (by omega),if_neg]
  have:=h 0 lo n rfl;omega
theorem Da8:∀ {rg:Rg} {m:List (List UInt8)} {l:List UInt8},Fit l.length rg m→RgOk rg→∀ (j lo n:Nat) (x:List UInt8),rg[j]?=some (lo,n)→m[j]?=some x→∀ i,i<n→(U8 l rg m)[lo+i]?=x[i]?
 | [],m,l,f,k,j,lo,n,x,h,hx,i,hi=>by simp at h
 | (lo0,n0)::rg,[],l,f,k,j,lo,n,x,h,hx,i,hi=>by simp at hx
 | (lo0,n0)::rg,x0::m,l,f,k,j,lo,n,x,h,hx,i,hi=>by
  have h0:=f.head
  have e:=Ah1 (l:=l) (b:=x0) (a:=lo0) (by omega)
  unfold U8
  cases j with
  | zero =>
   simp at h hx
   obtain ⟨rfl,rfl⟩:=h;subst hx
   rw [Dy1 (by rw [e];exact f.tail) (lo0+i) (fun j lo' n' hj=>by
    have:=k 0 (j+1) lo0 n0 lo' n' (by omega) rfl (by simpa using hj)
    omega),Bo1 (by omega),if_pos (by omega)]
   congr 1;omega
  | succ j=>exact Da8 (by rw [e];exact f.tail) k.tail j lo n x (by simpa using h) (by simpa using hx) i hi
theorem H15 {rg:Rg} {m:List (List UInt8)} {l:List UInt8} (f:Fit l.length rg m) (k:RgOk rg) {j lo n:Nat} {x:List UInt8} (h:rg[j]?=some (lo,n)) (hx:m[j]?=some x) {a c:Nat} (hc:a+c≤n):slice (U8 l rg m) (lo+a) c=slice x a c:=by
 refine List.ext_getElem? fun i=>?_
 rw [B15,B15]
 split
 ·rw [Nat.add_assoc,Da8 f k j lo n x h hx (a+i) (by omega)]
 ·rfl
theorem Fit.set {size:Nat} {rg:Rg} {m:List (List UInt8)} (f:Fit size rg m) {j lo n:Nat} (h:rg[j]?=some (lo,n)) {y:List UInt8} (hy:y.length=n):Fit size rg (m.set j y):=⟨by simpa using f.len,fun i lo' n' hi=>by
 obtain ⟨h1,z,hz,hl⟩:=f.each i lo' n' hi
 refine ⟨h1,?_⟩
 by_cases hij:j=i
 ·subst hij
  rw [h] at hi;cases hi
  exact ⟨y,by simp [(List.getElem?_eq_some_iff.1 hz).1],hy⟩
 ·exact ⟨z,by rw [List.getElem?_set_ne hij];exact hz,hl⟩⟩
theorem Hs7 {rg:Rg} {m:List (List UInt8)} {l:List UInt8} (f:Fit l.length rg m) (k:RgOk rg) {j lo n:Nat} {x:List UInt8} (h:rg[j]?=some (lo,n)) (hx:m[j]?=some x) {a:Nat} {b:List UInt8} (hc:a+b.length≤n):N8 (U8 l rg m) (lo+a) b=U8 l rg (m.set j (N8 x a b)):=by
 obtain ⟨h1,y,hy,hl⟩:=f.each j lo n h
 rw [hx] at hy;cases hy
 have e:=Ah1 (l:=x) (b:=b) (a:=a) (by omega)
 have f2:=f.set h (y:=N8 x a b) (by omega)
 have lp:=De8 f
 refine List.ext_getElem? fun i=>?_
 rw [Bo1 (by omega)]
 by_cases hi:lo≤i∧i<lo+n
 ·obtain ⟨i',rfl⟩:∃ i',i=lo+i':=⟨i-lo,by omega⟩
  rw [Da8 f2 k j lo n (N8 x a b) h (by simp [(List.getElem?_eq_some_iff.1 hx).1]) i' (by omega),Bo1 (by omega),Da8 f k j lo n x h hx i' (by omega)]
  by_cases h2:a≤i'∧i'<a+b.length
  ·rw [if_pos (by omega),if_pos h2];congr 1;omega
  ·rw [if_neg (by omega),if_neg h2]
 ·rw [if_neg (by omega)]
  by_cases ho:∃ (j' lo' n':Nat),rg[j']?=some (lo',n')∧lo'≤i∧i<lo'+n'
  ·obtain ⟨j',lo',n',hj',h3,h4⟩:=ho
   have hne:j≠j':=fun e=>by subst e;rw [h] at hj';cases hj';omega
   obtain ⟨_,z,hz,_⟩:=f.each j' lo' n' hj'
   obtain ⟨i',rfl⟩:∃ i',i=lo'+i':=⟨i-lo',by omega⟩
   rw [Da8 f k j' lo' n' z hj' hz i' (by omega),Da8 f2 k j' lo' n' z hj' (by rw [List.getElem?_set_ne hne];exact hz) i' (by omega)]
  ·have hall:∀ (j' lo' n':Nat),rg[j']?=some (lo',n')→i<lo'∨lo'+n'≤i:=fun j' lo' n' hj'=>by
    by_cases hh:lo'≤i∧i<lo'+n'
    ·exact absurd ⟨j',lo',n',hj',hh.1,hh.2⟩ ho
    ·omega
   rw [Dy1 f i hall,Dy1 f2 i hall]
structure RecS where
 kind:Int
 index:Int
deriving DecidableEq
abbrev Ac7 (r:RecS):List Value:=[int r.kind,int r.index]
structure Fr where
 S:KS
 N:Nat
 env:Int
 caps:List Int
 rg:Rg
structure FrOk (F:Fr):Prop where
 ok:KOk F.N F.S
 hN:F.N+1<1000000000
 ne:0<F.caps.length
 small:F.caps.length≤40
 len:F.rg.length=F.caps.length
 env:¬ (F.env<0∨F.env≥(F.S.envs.length:Int))
 pl:∀ (j:Nat) (cap:Int) (lo n:Nat),F.caps[j]?=some cap→F.rg[j]?=some (lo,n)→∀ (a m:Nat) (right:Int),right=1∨right=2→a+m≤n→S5 F.S.tabs F.S.regs F.env cap right a m=(((lo+a:Nat):Int),0)
 dj:RgOk F.rg
 own:∃ lo,F.rg[0]?=some (lo,492)
 brs:∀ (j lo n:Nat),0<j→F.rg[j]?=some (lo,n)→n=40
def Fr.at (F:Fr) (m:List (List UInt8)):KS:=J9 F.S (U8 F.S.mem F.rg m)
structure CX where
 m:List (List UInt8)
 bad:List RecS
def Ak1:Nat→List RecS→List MapEntry
 | _,[]=>[]
 | i,r::l=>{ key:=.agg ⟨Ac7 r⟩,val:=int 1,born:=i }::Ak1 (i+1) l
abbrev Iz0 (c k:Nat) (env:Int) (caps:List Int) (bad:List RecS) (x:Option Addr × Nat × Nat):List HP :=
 [pt c (.cells Dm9 false [P0 k,int env,.slice x.1 caps.length x.2.1,.map (some x.2.2)]),slC false B3 1 x.1 caps.length x.2.1 (caps.map int),pt x.2.2 (.map (Ak1 0 bad) bad.length)]
def Y4 (c k:Nat) (env:Int) (caps:List Int) (bad:List RecS):HP:=hex fun x=>sl (Iz0 c k env caps bad x)
instance {c k:Nat} {env:Int} {caps:List Int} {bad:List RecS}:Chk (Y4 c k env caps bad) (Iz0 c k env caps bad):=⟨rfl⟩
abbrev cmF (c k:Nat) (F:Fr) (x:CX):List HP:=[D4 k (F.at x.m),Y4 c k F.env F.caps x.bad,pu (Fit F.S.mem.length F.rg x.m)]
def cmC (c k:Nat) (F:Fr) (x:CX):HP:=hex fun _:Unit=>sl (cmF c k F x)
instance {c k:Nat} {F:Fr} {x:CX}:Chk (cmC c k F x) (fun _:Unit=>cmF c k F x):=⟨rfl⟩
def Ab6 (nc:Nat) (kind:Int):Int:=if kind=1 then 8 else if kind=2 then 12 else if kind=3 then 3+nc else 1
def J8 (nc:Nat) (r:RecS):Option (Nat × Nat × Nat) :=
 if r.index<0∨r.index≥Ab6 nc r.kind then none
 else if r.kind=1 then some (0,24*r.index.toNat,24)
 else if r.kind=2 then some (0,192+8*r.index.toNat,8)
 else if r.kind=3 then if r.index<4 then some (0,288+40*r.index.toNat,40) else some (r.index.toNat-3,0,40)
 else if r.kind=4 then some (0,448,40)
 else some (0,488,4)
def Hd7 (caps:List Int):Option (Nat × Nat × Nat)→List Value
 | some (j,a,n)=>[int (caps.getD j 0),int a,int n]
 | none=>[int 0,int 0,int 0]
theorem Hg5 (c k:Nat) (env:Int) (caps:List Int) (bad:List RecS) (kind:Int) (hs:caps.length≤40):CtP A6 Ac6 [P0 c,int kind] [Y4 c k env caps bad] (int (Ab6 caps.length kind)):=by
 have e:IntKind.wrap .i64 (IntKind.wrap .i64 (4+(caps.length:Int))-1)=3+(caps.length:Int):=by rw [B4,B4];omega
 refine CtP.of Ea1 rfl fun h r=>Tr.eq (D65 ..) ?_;refine Je ?_
 refine A9 (Y4 c k env caps bad) fun ⟨a,n,mb⟩=>?_;refine Je ?_
 unfold Ab6
 by_cases h1:kind=1
 ·refine Yt (by simpa using h1) ?_
  rw [if_pos h1];exact Jz
 refine Yf (by simpa using h1) ?_
 rw [if_neg h1]
 by_cases h2:kind=2
 ·refine Yt (by simpa using h2) ?_
  rw [if_pos h2];exact Jz
 refine Yf (by simpa using h2) ?_
 rw [if_neg h2]
 by_cases h3:kind=3
 ·refine Yt (by simpa using h3) ?_
  rw [if_pos h3];(refine Ja ?_;intros)
  refine Ys fun o=>?_
  rw [e];exact ⟨by first|rfl|trivial,by first|rfl|trivial⟩
 refine Yf (by simpa using h3) ?_
 rw [if_neg h3];exact Jz
theorem Gx2 (c k:Nat) (env:Int) (caps:List Int) (bad:List RecS) (rc:RecS) (hs:caps.length≤40) (hn:0<caps.length):Ct A6 Ab0 [P0 c,.agg ⟨Ac7 rc⟩] [Y4 c k env caps bad] fun v own =>
  v=.tuple ⟨[.agg ⟨Hd7 caps (J8 caps.length rc)⟩,.bool (J8 caps.length rc).isSome]⟩∧own [Y4 c k env caps bad]:=by
 have hg:∀ j,j<caps.length→(caps.map int)[j]?=some (int (caps.getD j 0)):=fun j hj=>by rw [List.getElem?_map,P7 0 hj];rfl
 refine Ct.of D02 rfl fun h r=>Tr.eq (Dz9 ..) ?_;refine Je ?_
 (refine Jb ?_;intros)
 refine Tr.orG (c:=decide (rc.index≥Ab6 caps.length rc.kind)) (fun hb=>?_) ?_
 ·(refine Ja ?_;intros)
  refine Tr.pcall (Hg5 c k env caps bad rc.kind hs) ?_;refine Je ?_;exact Jz
 by_cases hi:rc.index<0∨rc.index≥Ab6 caps.length rc.kind
 ·refine Yt (by simp only [Bool.or_eq_true,decide_eq_true_eq];exact hi) ?_
  have e:J8 caps.length rc=none:=by unfold J8;rw [if_pos hi]
  rw [e]
  (refine Ja ?_;intros)
  refine Ys fun o=>?_
  exact ⟨rfl,o.sub⟩
 refine Yf (by simp only [Bool.or_eq_false_iff,decide_eq_false_iff_not];omega) ?_
 refine A9 (Y4 c k env caps bad) fun ⟨a,n,mb⟩=>?_;refine Je ?_
 (refine Ja ?_;intros;repeat(refine Gw ?_;rintro px rfl;refine Ja ?_;intros))
 refine Tr.xIntS (v:=caps.getD 0 0) (hg 0 hn) ?_
 (refine Ja ?_;intros)
 by_cases h1:rc.kind=1
 ·refine Yt (by simpa using h1) ?_
  have e:J8 caps.length rc=some (0,24*rc.index.toNat,24):=by unfold J8;rw [if_neg hi,if_pos h1]
  have hm:Ab6 caps.length rc.kind=8:=by unfold Ab6;rw [if_pos h1]
  have e1:IntKind.wrap .i64 (24*rc.index)=((24*rc.index.toNat:Nat):Int):=by rw [B4];omega
  rw [e,e1]
  (refine Ja ?_;intros)
  refine A7 (Y4 c k env caps bad) ⟨some px,n,mb⟩ ?_;refine Je ?_
  refine Ys fun o=>?_
  exact ⟨rfl,o.sub⟩
 refine Yf (by simpa using h1) ?_
 by_cases h2:rc.kind=2
 ·(refine Ja ?_;intros)
  refine Yt (by simpa using h2) ?_
  have e:J8 caps.length rc=some (0,192+8*rc.index.toNat,8):=by unfold J8;rw [if_neg hi,if_neg h1,if_pos h2]
  have hm:Ab6 caps.length rc.kind=12:=by unfold Ab6;rw [if_neg h1,if_pos h2]
  have e1:IntKind.wrap .i64 (192+IntKind.wrap .i64 (8*rc.index))=((192+8*rc.index.toNat:Nat):Int):=by rw [B4,B4];omega
  rw [e,e1]
  (refine Ja ?_;intros)
  refine A7 (Y4 c k env caps bad) ⟨some px,n,mb⟩ ?_;refine Je ?_
  refine Ys fun o=>?_
  exact ⟨rfl,o.sub⟩
 (refine Ja ?_;intros)
 refine Yf (by simpa using h2) ?_
 (refine Jb ?_;intros)
 refine Tr.andG (c:=decide (rc.index<4)) (fun hb=>?_) ?_
 ·exact Jz
 by_cases h3:rc.kind=3
 ·have hm:Ab6 caps.length rc.kind=3+caps.length:=by unfold Ab6;rw [if_neg h1,if_neg h2,if_pos h3]
  by_cases h4:rc.index<4
  ·refine Yt (by simp [h3,h4]) ?_
   have e:J8 caps.length rc=some (0,288+40*rc.index.toNat,40):=by unfold J8;rw [if_neg hi,if_neg h1,if_neg h2,if_pos h3,if_pos h4]
   have e1:IntKind.wrap .i64 (288+IntKind.wrap .i64 (40*rc.index))=((288+40*rc.index.toNat:Nat):Int):=by rw [B4,B4];omega
   rw [e,e1]
   (refine Ja ?_;intros)
   refine A7 (Y4 c k env caps bad) ⟨some px,n,mb⟩ ?_;refine Je ?_
   refine Ys fun o=>?_
   exact ⟨rfl,o.sub⟩
  ·refine Yf (by simp [h4]) ?_
   have e:J8 caps.length rc=some (rc.index.toNat-3,0,40):=by unfold J8;rw [if_neg hi,if_neg h1,if_neg h2,if_pos h3,if_neg h4]
   have e1:IntKind.wrap .i64 (IntKind.wrap .i64 (rc.index-4)+1)=((rc.index.toNat-3:Nat):Int):=by rw [B4,B4];omega
   rw [e,e1]
   (refine Ja ?_;intros)
   refine Yt (by simpa using h3) ?_
   (refine Ja ?_;intros)
   rw [Int.toNat_natCast]
   refine Je ?_
   refine Tr.xIntS (v:=caps.getD (rc.index.toNat-3) 0) (hg _ (by omega)) ?_
   (refine Ja ?_;intros)
   refine A7 (Y4 c k env caps bad) ⟨some px,n,mb⟩ ?_;refine Je ?_
   refine Ys fun o=>?_
   exact ⟨rfl,o.sub⟩
 refine Yf (by simp [h3]) ?_
 (refine Ja ?_;intros)
 refine Yf (by simpa using h3) ?_
 (refine Ja ?_;intros)
 by_cases h4:rc.kind=4
 ·refine Yt (by simpa using h4) ?_
  have e:J8 caps.length rc=some (0,448,40):=by unfold J8;rw [if_neg hi,if_neg h1,if_neg h2,if_neg h3,if_pos h4]
  rw [e]
  (refine Ja ?_;intros)
  refine A7 (Y4 c k env caps bad) ⟨some px,n,mb⟩ ?_;refine Je ?_
  refine Ys fun o=>?_
  exact ⟨rfl,o.sub⟩
 refine Yf (by simpa using h4) ?_
 have e:J8 caps.length rc=some (0,488,4):=by unfold J8;rw [if_neg hi,if_neg h1,if_neg h2,if_neg h3,if_neg h4]
 rw [e]
 (refine Ja ?_;intros)
 refine A7 (Y4 c k env caps bad) ⟨some px,n,mb⟩ ?_;refine Je ?_
 refine Ys fun o=>?_
 exact ⟨rfl,o.sub⟩
theorem Ih4:An0 PR 8 E0=some [TypeDesc.int .i64,TypeDesc.int .i64]:=by kernel_rfl
theorem It7:En4 PR E0=some true:=by kernel_rfl
instance {a b:Int}:KeyC PR E0 (.agg ⟨[.int .i64 a,.int .i64 b]⟩):=⟨fun x=>by
 unfold NN.keyN;rw [Ih4,It7];rfl⟩
theorem Ex0 (r:RecS):∀ (l:List RecS) (i j:Nat),Ak4 (.agg ⟨Ac7 r⟩) (Ak1 j l) i=some (if r ∈ l then some (i+l.idxOf r) else none)
 | [],i,j=>by simp [Ak1,Ak4]
 | q::l,i,j=>by
  have ih:=Ex0 r l (i+1) (j+1)
  obtain ⟨qk,qi⟩:=q
  obtain ⟨rk,ri⟩:=r
  simp only [Ak1,Ak4,Bi6,Ac7,eqs,eq1,decide_true,List.mem_cons] at ih ⊢
  by_cases h:rk=qk∧ri=qi
  ·obtain ⟨rfl,rfl⟩:=h
   simp
  ·have e:(rk==qk && (ri==qi && true))=false:=by
    rw [Bool.and_eq_false_iff]
    by_cases h1:rk=qk
    ·right;simp;intro h2;exact h ⟨h1,h2⟩
    ·left;simpa using h1
   have hne:¬ (({ kind:=rk,index:=ri }:RecS)={ kind:=qk,index:=qi }):=fun e=>by
    rw [RecS.mk.injEq] at e;exact h e
   rw [e]
   simp only [hne,false_or]
   rw [ih,List.idxOf_cons]
   have:(({ kind:=qk,index:=qi }:RecS)=={ kind:=rk,index:=ri })=false:=by
    rw [beq_eq_false_iff_ne];exact fun e=>hne e.symm
   rw [this,cond_false]
   split<;>simp;omega
theorem Dx9:∀ (l:List RecS) (j:Nat),(Ak1 j l).length=l.length
 | [],_=>rfl
 | _::l,j=>by simp [Ak1,Dx9 l]
theorem Hc9:∀ (l:List RecS) (j i:Nat) (r:RecS),l[i]?=some r→(Ak1 j l)[i]?=some { key:=.agg ⟨Ac7 r⟩,val:=int 1,born:=j+i }
 | [],_,i,r,h=>by simp at h
 | q::l,j,0,r,h=>by simp at h;subst h;rfl
 | q::l,j,i+1,r,h=>by
  have:=Hc9 l (j+1) i r (by simpa using h)
  rw [Ak1,List.getElem?_cons_succ,this];congr 2;omega
theorem B12 (r:RecS) (l:List RecS):Ap6 (int 0) (.agg ⟨Ac7 r⟩) (Ak1 0 l)=some (if r ∈ l then (int 1,true) else (int 0,false)):=by
 unfold Ap6
 rw [Ex0]
 by_cases h:r ∈ l
 ·rw [if_pos h,if_pos h]
  have hi:=List.idxOf_lt_length_of_mem h
  have hg:l[l.idxOf r]?=some r:=by rw [List.getElem?_eq_getElem hi,List.getElem_idxOf]
  simp only [Nat.zero_add]
  rw [Hc9 l 0 _ r hg]
 ·rw [if_neg h,if_neg h]
theorem G85:∀ (l m:List RecS) (j:Nat),Ak1 j (l++m)=Ak1 j l++Ak1 (j+l.length) m
 | [],m,j=>by simp [Ak1]
 | q::l,m,j=>by simp only [List.cons_append,Ak1,G85 l m (j+1),List.length_cons];congr 2;congr 1;omega
theorem En9 {r:RecS} {l:List RecS} (h:¬ r ∈ l):D95 (int 0) (.agg ⟨Ac7 r⟩) (Ak1 0 l) l.length=some (int 0,l.length,.map (Ak1 0 l++[{ key:=.agg ⟨Ac7 r⟩,val:=int 0,born:=l.length }]) (l.length+1)):=by
 unfold D95;rw [Ex0,if_neg h]
theorem G00 (r:RecS) (e:MapEntry):∀ (l:List RecS) (i j:Nat),¬ r ∈ l→Ak4 (.agg ⟨Ac7 r⟩) (Ak1 j l++[e]) i=Ak4 (.agg ⟨Ac7 r⟩) [e] (i+l.length)
 | [],i,j,h=>by simp [Ak1]
 | q::l,i,j,h=>by
  have ih:=G00 r e l (i+1) (j+1) (fun hm=>h (List.mem_cons_of_mem _ hm))
  have hq:Bi6 (.agg ⟨Ac7 r⟩) (.agg ⟨Ac7 q⟩)=some false:=by
   obtain ⟨qk,qi⟩:=q
   obtain ⟨rk,ri⟩:=r
   simp only [Bi6,Ac7,eqs,eq1,decide_true]
   congr 1
   rw [Bool.and_eq_false_iff]
   by_cases h1:rk=qk
   ·right;simp;intro h2;exact h (by subst h1 h2;exact List.mem_cons_self ..)
   ·left;simpa using h1
  show (match Bi6 (.agg ⟨Ac7 r⟩) (.agg ⟨Ac7 q⟩) with
   | some true=>some (some i)
   | some false=>Ak4 (.agg ⟨Ac7 r⟩) (Ak1 (j+1) l++[e]) (i+1)
   | none=>none)=_
  rw [hq]
  simp only
  rw [ih];congr 1;simp;omega
theorem D24 {r:RecS} {l:List RecS} (h:¬ r ∈ l):Ap6 (int 0) (.agg ⟨Ac7 r⟩) (Ak1 0 l++[{ key:=.agg ⟨Ac7 r⟩,val:=int 0,born:=l.length }])=some (int 0,true):=by
 unfold Ap6
 rw [G00 r _ l 0 0 h]
 obtain ⟨rk,ri⟩:=r
 simp only [Ak4,Bi6,Ac7,eqs,eq1,decide_true,BEq.rfl,Bool.and_self,Nat.zero_add]
 rw [List.getElem?_append_right (by rw [Dx9];exact Nat.le_refl _),Dx9];simp
theorem Dj5:∀ (l:List RecS) (j:Nat) (n:Nat) (e:MapEntry) (i:Nat),e.born=n→j+l.length≤n→Bq3 (n:Int) (Ak1 j l++[e]) i=some (i+l.length)
 | [],j,n,e,i,h,hl=>by simp [Ak1,Bq3,h]
 | q::l,j,n,e,i,h,hl=>by
  have ih:=Dj5 l (j+1) n e (i+1) h (by simp at hl;omega)
  simp only [Ak1,List.cons_append,Bq3]
  have:(((j:Nat):Int)==(n:Int))=false:=by simp at hl ⊢;omega
  rw [this,cond_false,ih];congr 1;simp;omega
theorem G16 (f:MapEntry→MapEntry) (e:MapEntry):∀ (l:List MapEntry),modN f l.length (l++[e])=l++[f e]
 | []=>rfl
 | q::l=>by simp [modN,G16 f e l]
theorem En2 (r:RecS) (l:List RecS):modN (fun e=>{ e with val:=int (IntKind.wrap .i64 (0+1)) }) l.length (Ak1 0 l++[{ key:=.agg ⟨Ac7 r⟩,val:=int 0,born:=l.length }])=Ak1 0 (l++[r]):=by
 rw [show l.length=(Ak1 0 l).length from (Dx9 l 0).symm,G16,G85]
 simp [Ak1,Dx9];decide
theorem Fr.mem_at (F:Fr) (m:List (List UInt8)):(F.at m).mem=U8 F.S.mem F.rg m:=rfl
theorem Fr.at_ok {F:Fr} (k:FrOk F) {m:List (List UInt8)} (f:Fit F.S.mem.length F.rg m):KOk F.N (F.at m):=by
 have:=k.ok
 exact ⟨this.envs,this.tabs,this.space,this.quota,by rw [Fr.mem_at,De8 f];exact this.mem,this.regs,this.may,this.mayl,this.nsect,this.sects,this.now⟩
theorem Ip7 {F:Fr} (k:FrOk F) {r:RecS} {j a n:Nat} (h:J8 F.caps.length r=some (j,a,n)):∃ lo z,F.rg[j]?=some (lo,z)∧a+n≤z∧j<F.caps.length:=by
 obtain ⟨lo0,h0⟩:=k.own
 have hl:=k.len;have hn:=k.ne
 unfold J8 at h
 split at h;· cases h
 rename_i hi
 split at h
 ·rename_i h1
  have hm:Ab6 F.caps.length r.kind=8:=by unfold Ab6;rw [if_pos h1]
  cases h;exact ⟨lo0,492,h0,by omega,hn⟩
 rename_i h1
 split at h
 ·rename_i h2
  have hm:Ab6 F.caps.length r.kind=12:=by unfold Ab6;rw [if_neg h1,if_pos h2]
  cases h;exact ⟨lo0,492,h0,by omega,hn⟩
 rename_i h2
 split at h
 ·rename_i h3
  have hm:Ab6 F.caps.length r.kind=3+F.caps.length:=by unfold Ab6;rw [if_neg h1,if_neg h2,if_pos h3]
  split at h
  ·cases h;exact ⟨lo0,492,h0,by omega,hn⟩
  ·cases h
   have hlt:r.index.toNat-3<F.rg.length:=by omega
   have hg:=List.getElem?_eq_getElem hlt
   generalize hx:F.rg[r.index.toNat-3]=x at hg
   obtain ⟨lo,z⟩:=x
   have:=k.brs _ lo z (by omega) hg
   exact ⟨lo,z,hg,by omega,by omega⟩
 split at h<;>(cases h;exact ⟨lo0,492,h0,by omega,hn⟩)
def Ah3 (kind:Int):Nat:=if kind=1 then 24 else if kind=2 then 8 else if kind=3 then 40 else if kind=4 then 40 else 4
theorem Eh5 {nc:Nat} {r:RecS} {j a n:Nat} (h:J8 nc r=some (j,a,n)):n=Ah3 r.kind:=by
 unfold J8 at h;unfold Ah3
 split at h;· cases h
 split at h
 ·rename_i h1;cases h;rw [if_pos h1]
 rename_i h1
 rw [if_neg h1]
 split at h
 ·rename_i h2;cases h;rw [if_pos h2]
 rename_i h2
 rw [if_neg h2]
 split at h
 ·rename_i h3;rw [if_pos h3];split at h<;>(cases h;rfl)
 rename_i h3
 rw [if_neg h3]
 split at h
 ·rename_i h4;cases h;rw [if_pos h4]
 ·rename_i h4;cases h;rw [if_neg h4]
def rdX (X:CX) (r:RecS):Option (List UInt8) :=
 match J8 X.m.length r with
 | some (j,a,n)=>if r ∈ X.bad then none else some (slice (X.m.getD j []) a n)
 | none=>none
def wrX (X:CX) (r:RecS) (b:List UInt8) (ok:Bool):Bool × CX :=
 match J8 X.m.length r with
 | some (j,a,n)=>if ok=true∧¬ r ∈ X.bad then (true,{ X with m:=X.m.set j (N8 (X.m.getD j []) a b) }) else (false,X)
 | none=>(false,X)
theorem Fit.mlen {F:Fr} (k:FrOk F) {m:List (List UInt8)} (f:Fit F.S.mem.length F.rg m):m.length=F.caps.length:=by rw [f.len,k.len]
theorem Eg0 {F:Fr} (k:FrOk F) {m:List (List UInt8)} (f:Fit F.S.mem.length F.rg m) {r:RecS} {j a n:Nat} (h:J8 F.caps.length r=some (j,a,n)) :
  ∃ lo z cap,F.caps[j]?=some cap∧F.rg[j]?=some (lo,z)∧a+n≤z∧m[j]?=some (m.getD j [])∧(m.getD j []).length=z∧lo+z≤F.S.mem.length∧cap=F.caps.getD j 0:=by
 obtain ⟨lo,z,hr,ha,hj⟩:=Ip7 k h
 obtain ⟨h1,x,hx,hl⟩:=f.each j lo z hr
 have e:m.getD j []=x:=by rw [List.getD_eq_getElem?_getD,hx];rfl
 exact ⟨lo,z,F.caps.getD j 0,P7 0 hj,hr,ha,by rw [e];exact hx,by rw [e];exact hl,h1,rfl⟩
theorem Iu1 {F:Fr} (k:FrOk F) {X:CX} (f:Fit F.S.mem.length F.rg X.m) {r:RecS} {l:List UInt8} (h:rdX X r=some l):l.length=Ah3 r.kind:=by
 unfold rdX at h
 rw [f.mlen k] at h
 cases hp:J8 F.caps.length r with
 | none=>rw [hp] at h;cases h
 | some p =>
  obtain ⟨j,a,n⟩:=p
  rw [hp] at h
  obtain ⟨lo,z,cap,_,_,ha,hx,hl,_⟩:=Eg0 k f hp
  simp only at h
  split at h
  ·cases h
  ·cases h;rw [Gy7 (by omega),Eh5 hp]
theorem I39 {F:Fr} (k:FrOk F) {m:List (List UInt8)} (f:Fit F.S.mem.length F.rg m) {r:RecS} {j a n:Nat} (h:J8 F.caps.length r=some (j,a,n)) :
  W5 (F.at m) F.env ⟨1,F.caps.getD j 0,(a:Int),(n:Int),0,0,[]⟩=((0,0,slice (m.getD j []) a n),F.at m):=by
 obtain ⟨lo,z,cap,hc,hr,ha,hx,hl,hz,rfl⟩:=Eg0 k f h
 have hp:=k.pl j _ lo z hc hr a n 1 (.inl rfl) ha
 have lp:=De8 f
 have hb:D08 (U8 F.S.mem F.rg m) ((lo+a:Nat):Int) (n:Int)=some (slice (m.getD j []) a n):=by
  unfold D08
  rw [if_pos (by rw [lp];omega),Int.toNat_natCast,Int.toNat_natCast]
  rw [← H15 f k.dj hr hx ha];rfl
 have e:At1 (F.at m).tabs (F.at m).regs (F.at m).mem F.env (F.caps.getD j 0) (a:Int) (n:Int)=(slice (m.getD j []) a n,0):=by
  unfold At1
  rw [show S5 (F.at m).tabs (F.at m).regs F.env (F.caps.getD j 0) 1 (a:Int) (n:Int)=(((lo+a:Nat):Int),0) from hp]
  rw [if_neg (by simp),show D08 (F.at m).mem _ _=_ from hb]
 unfold W5
 rw [if_neg (show ¬ (F.env<0∨F.env≥((F.at m).envs.length:Int)) from k.env)]
 unfold kDo
 rw [if_pos rfl,e]
theorem I07 {F:Fr} (k:FrOk F) {m:List (List UInt8)} (f:Fit F.S.mem.length F.rg m) {r:RecS} {j a n:Nat} (h:J8 F.caps.length r=some (j,a,n)) {b:List UInt8} (hb:b.length=n) :
  W5 (F.at m) F.env ⟨2,F.caps.getD j 0,(a:Int),0,0,0,b⟩=((0,0,[]),F.at (m.set j (N8 (m.getD j []) a b))):=by
 obtain ⟨lo,z,cap,hc,hr,ha,hx,hl,hz,rfl⟩:=Eg0 k f h
 have hp:=k.pl j _ lo z hc hr a n 2 (.inr rfl) ha
 have lp:=De8 f
 have hs:Bf6 (U8 F.S.mem F.rg m) ((lo+a:Nat):Int) b=some (U8 F.S.mem F.rg (m.set j (N8 (m.getD j []) a b))):=by
  unfold Bf6
  rw [if_pos (by rw [lp];omega),Int.toNat_natCast]
  rw [← Hs7 f k.dj hr hx (by omega)];rfl
 have e:Ao1 (F.at m).tabs (F.at m).regs (F.at m).mem F.env (F.caps.getD j 0) (a:Int) b=(0,U8 F.S.mem F.rg (m.set j (N8 (m.getD j []) a b))):=by
  unfold Ao1
  rw [hb,show S5 (F.at m).tabs (F.at m).regs F.env (F.caps.getD j 0) 2 (a:Int) (n:Int)=(((lo+a:Nat):Int),0) from hp]
  rw [if_neg (by simp),show Bf6 (F.at m).mem _ _=_ from hs]
 unfold W5
 rw [if_neg (show ¬ (F.env<0∨F.env≥((F.at m).envs.length:Int)) from k.env)]
 unfold kDo
 rw [if_neg (show ¬ ((2:Int)=1) by decide),if_pos rfl,e];rfl
theorem Iu7 {F:Fr} (k:FrOk F) {X:CX} (f:Fit F.S.mem.length F.rg X.m) {r:RecS} {b:List UInt8} {ok:Bool} (hb:ok=true→b.length=Ah3 r.kind):Fit F.S.mem.length F.rg (wrX X r b ok).2.m:=by
 unfold wrX
 rw [f.mlen k]
 cases hp:J8 F.caps.length r with
 | none=>exact f
 | some p =>
  obtain ⟨j,a,n⟩:=p
  obtain ⟨lo,z,cap,hc,hr,ha,hx,hl,hz,_⟩:=Eg0 k f hp
  simp only
  split
  ·rename_i hk
   exact f.set hr (by rw [Ah1 (by rw [hb hk.1,← Eh5 hp];omega)];exact hl)
  ·exact f
instance {caps:List Int} {o:Option (Nat × Nat × Nat)}:LenC (Hd7 caps o) 3:=⟨by cases o<;>rfl⟩
theorem Ik3 (caps:List Int) (o:Option (Nat × Nat × Nat)):(Hd7 caps o).all Value.oneCell=true:=by cases o<;>rfl
instance {caps:List Int} {o:Option (Nat × Nat × Nat)} {cs:List Value} [k:LenC cs 3]:SetsC cs 0 (Hd7 caps o) (Hd7 caps o):=⟨Bm1 k.ok LenC.ok (Ik3 caps o)⟩
instance {rc:RecS}:PartC (Ac7 rc) 0 2 (Ac7 rc):=⟨rfl⟩
theorem Hx0 (r:RecS) (l:List RecS):(if r ∈ l then (int 1,true) else (int 0,false))=(int (if r ∈ l then 1 else 0),decide (r ∈ l)):=by split<;>simp [*]
theorem Hw7 (r:RecS) (l:List RecS):decide ((if r ∈ l then (1:Int) else 0)>0)=decide (r ∈ l):=by split<;>simp [*]
theorem Ed7 (k:Nat) (S:KS) (N:Nat) (ok:KOk N S) (hN:N+1<1000000000) (env:Int) (c:CallS) (ba:Option Addr) (bc:Nat) (ro:Bool) (h5:c.op≠5) :
  Ct A6 M7 [P0 k,int env,.agg ⟨Bp8 c ba bc⟩] [D4 k S,slC ro A4 1 ba c.b.length bc (A0 c.b)] fun v own=>∃ x d,v=.agg ⟨[int (W5 S env c).1.1,int (W5 S env c).1.2.1,.slice x (W5 S env c).1.2.2.length d]⟩ ∧
    own [slC false A4 1 x (W5 S env c).1.2.2.length d (A0 (W5 S env c).1.2.2),D4 k (W5 S env c).2,slC ro A4 1 ba c.b.length bc (A0 c.b)]:=by
 intro h r o
 obtain ⟨pq,o1⟩:=Own.ex (f:=fun pq=>slX ro A4 1 ba c.b.length bc pq (A0 c.b)) (o.perm (.swap _ _ _))
 obtain ⟨v,h',e,x,d,rfl,o2⟩:=Ic7 k S N ok hN env c ba bc ro pq h5 h r (o1.perm (.swap _ _ _))
 refine ⟨_,h',e,x,d,rfl,?_⟩
 have o3:=o2.picks [2] rfl
 exact (Own.inex (f:=fun pq=>slX ro A4 1 ba c.b.length bc pq (A0 c.b)) pq o3).picks [1,1,0] rfl
theorem Ef3 (c k:Nat) (F:Fr) (X:CX) (rc:RecS) (ok:FrOk F):Ct A6 Q1 [P0 c,.agg ⟨Ac7 rc⟩] [cmC c k F X] fun v own =>
  (∃ l a cp,rdX X rc=some l∧l.length=Ah3 rc.kind∧v=.tuple ⟨[.slice a l.length cp,.bool true]⟩∧own [slC false A4 1 a l.length cp (A0 l),cmC c k F X]) ∨
  (rdX X rc=none∧v=.tuple ⟨[.slice none 0 0,.bool false]⟩∧own [cmC c k F X]):=by
 refine Ct.of D86 rfl fun h r=>Tr.eq (D58 ..) ?_;refine Je ?_
 refine A9 (cmC c k F X) fun u=>?_;refine Je ?_
 refine P5 2 rfl fun f=>?_
 (refine Ja ?_;intros)
 refine Yc (Gx2 c k F.env F.caps X.bad rc ok.small ok.ne) ?_;rintro _ h ⟨rfl,o⟩<;>(refine Jg o ?_;intros)
 have em:=f.mlen ok
 cases hp:J8 F.caps.length rc with
 | none =>
  (refine Jb ?_;intros)
  refine Yb (Yt rfl ?_)
  refine Ys fun o=>(?_:Tr _ _ _ _) o;refine Je ?_
  (refine Ja ?_;intros)
  refine A7 (cmC c k F X) () ?_;refine Je ?_
  refine Ys fun o=>?_
  exact .inr ⟨by unfold rdX;rw [em,hp],rfl,o.sub⟩
 | some p =>
  obtain ⟨j,a,n⟩:=p
  refine A9 (Y4 c k F.env F.caps X.bad) fun ⟨ca,cn,mb⟩=>?_;refine Je ?_
  (refine Jb ?_;intros)
  refine Tr.orG (c:=decide (rc ∈ X.bad)) (fun _=>?_) ?_
  ·(refine Ja ?_;intros)
   rw [B12,Hx0]
   (refine Ja ?_;intros)
   refine Ys fun o=>?_
   rw [Hw7];exact ⟨by first|rfl|trivial,by first|rfl|trivial⟩
  by_cases hb:rc ∈ X.bad
  ·rw [decide_eq_true hb]
   (refine Ja ?_;intros)
   refine A7 (Y4 c k F.env F.caps X.bad) ⟨ca,cn,mb⟩ ?_;refine Je ?_
   refine A7 (cmC c k F X) () ?_;refine Je ?_
   refine Ys fun o=>?_
   exact .inr ⟨by unfold rdX;rw [em,hp];exact if_pos hb,rfl,o.sub⟩
  ·rw [decide_eq_false hb]
   refine Yf rfl ?_
   (refine Ja ?_;intros)
   refine A7 (Y4 c k F.env F.caps X.bad) ⟨ca,cn,mb⟩ ?_;refine Je ?_
   have J:=Gu6 k (F.at X.m) F.N (F.at_ok ok f) ok.hN F.env 1 (F.caps.getD j 0) (a:Int) (n:Int) 0 0 (by decide)
   rw [I39 ok f hp] at J
   refine Yc (J) ?_;rintro _ h ⟨y,d,rfl,o⟩<;>(refine Jf o ?_;intros)
   refine Yf rfl ?_
   (refine Ja ?_;intros)
   refine A7 (cmC c k F X) () ?_;refine Je ?_
   refine Ys fun o=>?_
   have e:rdX X rc=some (slice (X.m.getD j []) a n):=by unfold rdX;rw [em,hp];exact if_neg hb
   exact .inl ⟨_,y,d,e,Iu1 ok f e,rfl,o.sub⟩
theorem Ey2 (c k:Nat) (F:Fr) (X:CX) (rc:RecS) (ok:FrOk F) (bs:List UInt8) (g:Bool) (ba:Option Addr) (bc:Nat) (hb:g=true→bs.length=Ah3 rc.kind) :
  Ct A6 S9 [P0 c,.agg ⟨Ac7 rc⟩,.slice ba bs.length bc,.bool g] [cmC c k F X,slC false A4 1 ba bs.length bc (A0 bs)] fun v own =>
   v=.bool (wrX X rc bs g).1∧own [cmC c k F (wrX X rc bs g).2,slC false A4 1 ba bs.length bc (A0 bs)]:=by
 refine Ct.of D04 rfl fun h r=>Tr.eq (D01 ..) ?_;refine Je ?_
 refine A9 (cmC c k F X) fun u=>?_;refine Je ?_
 refine P5 2 rfl fun f=>?_
 (refine Ja ?_;intros)
 refine Yc (Gx2 c k F.env F.caps X.bad rc ok.small ok.ne) ?_;rintro _ h ⟨rfl,o⟩<;>(refine Jg o ?_;intros)
 have em:=f.mlen ok
 cases hp:J8 F.caps.length rc with
 | none =>
  (refine Jb ?_;intros)
  refine Yb (Yt rfl ?_)
  refine Ys fun o=>(?_:Tr _ _ _ _) o;refine Je ?_
  refine Yb (Yt rfl ?_)
  refine Ys fun o=>(?_:Tr _ _ _ _) o;refine Je ?_
  (refine Ja ?_;intros)
  refine A7 (cmC c k F X) () ?_;refine Je ?_
  refine Ys fun o=>?_
  have e:wrX X rc bs g=(false,X):=by unfold wrX;rw [em,hp]
  rw [e]
  exact ⟨by first|rfl|trivial,o.sub⟩
 | some p =>
  obtain ⟨j,a,n⟩:=p
  refine A9 (Y4 c k F.env F.caps X.bad) fun ⟨ca,cn,mb⟩=>?_;refine Je ?_
  (refine Jb ?_;intros)
  refine Yb (Yf rfl ?_)
  refine Ys fun o=>(?_:Tr _ _ _ _) o;refine Je ?_
  (refine Jb ?_;intros)
  refine Tr.orG (c:=decide (rc ∈ X.bad)) (fun _=>?_) ?_
  ·(refine Ja ?_;intros)
   rw [B12,Hx0]
   (refine Ja ?_;intros)
   refine Ys fun o=>?_
   rw [Hw7];exact ⟨by first|rfl|trivial,by first|rfl|trivial⟩
  by_cases hg:g=true∧¬ rc ∈ X.bad
  ·have e:wrX X rc bs g=(true,{ X with m:=X.m.set j (N8 (X.m.getD j []) a bs) }):=by unfold wrX;rw [em,hp];exact if_pos hg
   have f2:=Iu7 (r:=rc) (b:=bs) (ok:=g) ok f hb
   rw [e] at f2
   obtain ⟨rfl,hg2⟩:=hg
   rw [e,decide_eq_false hg2]
   refine Yf rfl ?_
   (refine Ja ?_;intros)
   refine A7 (Y4 c k F.env F.caps X.bad) ⟨ca,cn,mb⟩ ?_;refine Je ?_
   have hl:bs.length=n:=by rw [hb rfl,Eh5 hp]
   have J:=Ed7 k (F.at X.m) F.N (F.at_ok ok f) ok.hN F.env ⟨2,F.caps.getD j 0,(a:Int),0,0,0,bs⟩ ba bc false (show ((2:Int)≠5) by decide)
   rw [I07 ok f hp hl] at J
   refine Yc (J) ?_;rintro _ h ⟨y,d,rfl,o⟩<;>(refine Jf o ?_;intros)
   refine At7 (show Fit F.S.mem.length F.rg (X.m.set j (N8 (X.m.getD j []) a bs)) from f2) ?_
   refine A7 (cmC c k F { X with m:=X.m.set j (N8 (X.m.getD j []) a bs) }) () ?_;refine Je ?_
   refine Ys fun o=>?_
   exact ⟨rfl,o.sub⟩
  ·have e:wrX X rc bs g=(false,X):=by unfold wrX;rw [em,hp];exact if_neg hg
   rw [e]
   refine Yt ?_ ?_
   ·cases g with
    | false=>rfl
    | true=>simpa using hg
   refine A7 (Y4 c k F.env F.caps X.bad) ⟨ca,cn,mb⟩ ?_;refine Je ?_
   refine A7 (cmC c k F X) () ?_;refine Je ?_
   refine Ys fun o=>?_
   exact ⟨by first|rfl|trivial,o.sub⟩
def Z9 {α:Type} (dec:List UInt8→α × Int) (z:α) (X:CX) (rc:RecS):(α × Int) × CX :=
 match rdX X rc with
 | some l=>(dec l,if (dec l).2=2 then { X with bad:=X.bad++[rc] } else X)
 | none=>((z,2),X)
theorem El7 {X:CX} {rc:RecS} {l:List UInt8} (h:rdX X rc=some l):¬ rc ∈ X.bad:=by
 unfold rdX at h
 split at h
 ·split at h
  ·cases h
  ·assumption
 ·cases h
theorem Ie2 (l:List UInt8) (h:(Aa3 l).2≠1):(Aa3 l).1=.zero:=by
 unfold Aa3 at *;split<;>first|rfl|(split<;>first|rfl|(simp_all;done))
theorem Ia4 (l:List UInt8) (h:(Aa6 l).2≠1):(Aa6 l).1=.zero:=by
 unfold Aa6 at *;split<;>first|rfl|(split<;>first|rfl|(simp_all;done))
theorem Ih5 (l:List UInt8) (h:(Y5 l).2≠1):(Y5 l).1=.zero:=by
 unfold Y5 at *;split<;>first|rfl|(split<;>first|rfl|(simp_all;done))
theorem Iw1 (c k:Nat) (F:Fr) (X:CX) (rc:RecS) (ok:FrOk F) (hk:Ah3 rc.kind=24):Ct A6 N5 [P0 c,.agg ⟨Ac7 rc⟩,.func (.func Aw4) ⟨[]⟩ ⟨[]⟩] [cmC c k F X] fun v own =>
  v=.tuple ⟨[.agg ⟨B5 (Z9 Aa3 .zero X rc).1.1⟩,int (Z9 Aa3 .zero X rc).1.2]⟩∧own [cmC c k F (Z9 Aa3 .zero X rc).2]:=by
 refine Ct.of Ar3 rfl fun h r=>Tr.eq (Dq0 ..) ?_;refine Je ?_
 (refine Ja ?_;intros)
 refine Yc (Ef3 c k F X rc ok) ?_
 rintro v h (⟨l,a,cp,hr,hl,rfl,o⟩|⟨hr,rfl,o⟩)
 ·refine (?_:Tr _ _ _ _) o
  refine Je ?_
  have e:Z9 Aa3 .zero X rc=(Aa3 l,if (Aa3 l).2=2 then { X with bad:=X.bad++[rc] } else X):=by unfold Z9;rw [hr]
  have hb:=El7 hr
  rw [e]
  rw [hk] at hl
  rw [hl]
  (refine Ja ?_;intros)
  refine Yc (H28 a cp l hl) ?_;rintro _ h ⟨rfl,o⟩<;>(refine Jf o ?_;intros)
  by_cases h2:(Aa3 l).2=2
  ·refine Yt (by simpa using h2) ?_
   have hz:=Ie2 l (by omega)
   simp only [if_pos h2]
   refine A9 (cmC c k F X) fun u=>?_;refine Je ?_
   refine A9 (Y4 c k F.env F.caps X.bad) fun ⟨ca,cn,mb⟩=>?_;refine Je ?_
   (refine Ja ?_;intros)
   rw [B12,if_neg hb]
   (refine Ja ?_;intros)
   rw [En9 hb]
   (refine Ja ?_;intros)
   rw [D24 hb]
   (refine Ja ?_;intros)
   rw [Dj5 X.bad 0 X.bad.length _ 0 rfl (by omega),Nat.zero_add]
   (refine Ja ?_;intros)
   rw [En2]
   refine Tr.jmp Ar3 (Tr.eq (A83 ..) ?_);(try simp only[Nr,Nl,wl,Nat.reduceAdd,Nat.reduceMul,Int.reduceToNat])
   refine Yt (by rw [bne_iff_ne];omega) ?_
   (refine Ja ?_;intros)
   rw [show X.bad.length+1=(X.bad++[rc]).length by simp]
   refine A7 (Y4 c k F.env F.caps (X.bad++[rc])) ⟨ca,cn,mb⟩ ?_;refine Je ?_
   refine A7 (cmC c k F { X with bad:=X.bad++[rc] }) () ?_;refine Je ?_
   refine Ys fun o=>?_
   exact ⟨by rw [hz]<;>rfl,o.sub⟩
  ·refine Yf (by simpa using h2) ?_
   simp only [if_neg h2]
   refine Tr.jmp Ar3 (Tr.eq (A83 ..) ?_);(try simp only[Nr,Nl,wl,Nat.reduceAdd,Nat.reduceMul,Int.reduceToNat])
   by_cases h1:(Aa3 l).2=1
   ·refine Yf (by simpa using h1) ?_
    (refine Ja ?_;intros)
    refine Ys fun o=>?_
    exact ⟨rfl,o.sub⟩
   ·refine Yt (by simpa using h1) ?_
    (refine Ja ?_;intros)
    refine Ys fun o=>?_
    exact ⟨by rw [Ie2 l h1]<;>rfl,o.sub⟩
 ·refine (?_:Tr _ _ _ _) o
  refine Je ?_
  have e:Z9 Aa3 .zero X rc=((.zero,2),X):=by unfold Z9;rw [hr]
  rw [e]
  (refine Ja ?_;intros)
  refine Ys fun o=>?_
  exact ⟨rfl,o.sub⟩
theorem It5 (c k:Nat) (F:Fr) (X:CX) (rc:RecS) (ok:FrOk F) (hk:Ah3 rc.kind=8):Ct A6 N3 [P0 c,.agg ⟨Ac7 rc⟩,.func (.func Aw3) ⟨[]⟩ ⟨[]⟩] [cmC c k F X] fun v own =>
  v=.tuple ⟨[.agg ⟨Bv8 (Z9 Aa6 .zero X rc).1.1⟩,int (Z9 Aa6 .zero X rc).1.2]⟩∧own [cmC c k F (Z9 Aa6 .zero X rc).2]:=by
 refine Ct.of As7 rfl fun h r=>Tr.eq (Dr1 ..) ?_;refine Je ?_
 (refine Ja ?_;intros)
 refine Yc (Ef3 c k F X rc ok) ?_
 rintro v h (⟨l,a,cp,hr,hl,rfl,o⟩|⟨hr,rfl,o⟩)
 ·refine (?_:Tr _ _ _ _) o
  refine Je ?_
  have e:Z9 Aa6 .zero X rc=(Aa6 l,if (Aa6 l).2=2 then { X with bad:=X.bad++[rc] } else X):=by unfold Z9;rw [hr]
  have hb:=El7 hr
  rw [e]
  rw [hk] at hl
  rw [hl]
  (refine Ja ?_;intros)
  refine Yc (Hx5 a cp l hl) ?_;rintro _ h ⟨rfl,o⟩<;>(refine Jf o ?_;intros)
  by_cases h2:(Aa6 l).2=2
  ·refine Yt (by simpa using h2) ?_
   have hz:=Ia4 l (by omega)
   simp only [if_pos h2]
   refine A9 (cmC c k F X) fun u=>?_;refine Je ?_
   refine A9 (Y4 c k F.env F.caps X.bad) fun ⟨ca,cn,mb⟩=>?_;refine Je ?_
   (refine Ja ?_;intros)
   rw [B12,if_neg hb]
   (refine Ja ?_;intros)
   rw [En9 hb]
   (refine Ja ?_;intros)
   rw [D24 hb]
   (refine Ja ?_;intros)
   rw [Dj5 X.bad 0 X.bad.length _ 0 rfl (by omega),Nat.zero_add]
   (refine Ja ?_;intros)
   rw [En2]
   refine Tr.jmp As7 (Tr.eq (A99 ..) ?_);(try simp only[Nr,Nl,wl,Nat.reduceAdd,Nat.reduceMul,Int.reduceToNat])
   refine Yt (by rw [bne_iff_ne];omega) ?_
   (refine Ja ?_;intros)
   rw [show X.bad.length+1=(X.bad++[rc]).length by simp]
   refine A7 (Y4 c k F.env F.caps (X.bad++[rc])) ⟨ca,cn,mb⟩ ?_;refine Je ?_
   refine A7 (cmC c k F { X with bad:=X.bad++[rc] }) () ?_;refine Je ?_
   refine Ys fun o=>?_
   exact ⟨by rw [hz]<;>rfl,o.sub⟩
  ·refine Yf (by simpa using h2) ?_
   simp only [if_neg h2]
   refine Tr.jmp As7 (Tr.eq (A99 ..) ?_);(try simp only[Nr,Nl,wl,Nat.reduceAdd,Nat.reduceMul,Int.reduceToNat])
   by_cases h1:(Aa6 l).2=1
   ·refine Yf (by simpa using h1) ?_
    (refine Ja ?_;intros)
    refine Ys fun o=>?_
    exact ⟨rfl,o.sub⟩
   ·refine Yt (by simpa using h1) ?_
    (refine Ja ?_;intros)
    refine Ys fun o=>?_
    exact ⟨by rw [Ia4 l h1]<;>rfl,o.sub⟩
 ·refine (?_:Tr _ _ _ _) o
  refine Je ?_
  have e:Z9 Aa6 .zero X rc=((.zero,2),X):=by unfold Z9;rw [hr]
  rw [e]
  (refine Ja ?_;intros)
  refine Ys fun o=>?_
  exact ⟨rfl,o.sub⟩
theorem Hu6 (c k:Nat) (F:Fr) (X:CX) (rc:RecS) (ok:FrOk F) (hk:Ah3 rc.kind=40):Ct A6 L0 [P0 c,.agg ⟨Ac7 rc⟩,.func (.func Ap9) ⟨[]⟩ ⟨[]⟩] [cmC c k F X] fun v own =>
  v=.tuple ⟨[.agg ⟨R0 (Z9 Y5 .zero X rc).1.1⟩,int (Z9 Y5 .zero X rc).1.2]⟩∧own [cmC c k F (Z9 Y5 .zero X rc).2]:=by
 refine Ct.of As4 rfl fun h r=>Tr.eq (Dr8 ..) ?_;refine Je ?_
 (refine Ja ?_;intros)
 refine Yc (Ef3 c k F X rc ok) ?_
 rintro v h (⟨l,a,cp,hr,hl,rfl,o⟩|⟨hr,rfl,o⟩)
 ·refine (?_:Tr _ _ _ _) o
  refine Je ?_
  have e:Z9 Y5 .zero X rc=(Y5 l,if (Y5 l).2=2 then { X with bad:=X.bad++[rc] } else X):=by unfold Z9;rw [hr]
  have hb:=El7 hr
  rw [e]
  rw [hk] at hl
  rw [hl]
  (refine Ja ?_;intros)
  refine Yc (H42 a cp l hl) ?_;rintro _ h ⟨rfl,o⟩<;>(refine Jf o ?_;intros)
  by_cases h2:(Y5 l).2=2
  ·refine Yt (by simpa using h2) ?_
   have hz:=Ih5 l (by omega)
   simp only [if_pos h2]
   refine A9 (cmC c k F X) fun u=>?_;refine Je ?_
   refine A9 (Y4 c k F.env F.caps X.bad) fun ⟨ca,cn,mb⟩=>?_;refine Je ?_
   (refine Ja ?_;intros)
   rw [B12,if_neg hb]
   (refine Ja ?_;intros)
   rw [En9 hb]
   (refine Ja ?_;intros)
   rw [D24 hb]
   (refine Ja ?_;intros)
   rw [Dj5 X.bad 0 X.bad.length _ 0 rfl (by omega),Nat.zero_add]
   (refine Ja ?_;intros)
   rw [En2]
   refine Tr.jmp As4 (Tr.eq (A78 ..) ?_);(try simp only[Nr,Nl,wl,Nat.reduceAdd,Nat.reduceMul,Int.reduceToNat])
   refine Yt (by rw [bne_iff_ne];omega) ?_
   (refine Ja ?_;intros)
   rw [show X.bad.length+1=(X.bad++[rc]).length by simp]
   refine A7 (Y4 c k F.env F.caps (X.bad++[rc])) ⟨ca,cn,mb⟩ ?_;refine Je ?_
   refine A7 (cmC c k F { X with bad:=X.bad++[rc] }) () ?_;refine Je ?_
   refine Ys fun o=>?_
   exact ⟨by rw [hz]<;>rfl,o.sub⟩
  ·refine Yf (by simpa using h2) ?_
   simp only [if_neg h2]
   refine Tr.jmp As4 (Tr.eq (A78 ..) ?_);(try simp only[Nr,Nl,wl,Nat.reduceAdd,Nat.reduceMul,Int.reduceToNat])
   by_cases h1:(Y5 l).2=1
   ·refine Yf (by simpa using h1) ?_
    (refine Ja ?_;intros)
    refine Ys fun o=>?_
    exact ⟨rfl,o.sub⟩
   ·refine Yt (by simpa using h1) ?_
    (refine Ja ?_;intros)
    refine Ys fun o=>?_
    exact ⟨by rw [Ih5 l h1]<;>rfl,o.sub⟩
 ·refine (?_:Tr _ _ _ _) o
  refine Je ?_
  have e:Z9 Y5 .zero X rc=((.zero,2),X):=by unfold Z9;rw [hr]
  rw [e]
  (refine Ja ?_;intros)
  refine Ys fun o=>?_
  exact ⟨rfl,o.sub⟩
def Gk3 (g:Int):List UInt8:=[b8 g,211,By6 [b8 g,211],0]
def Aq5 (l:List UInt8):Int × Int:=if byI l 0<8∧Gk3 (byI l 0)=l then (byI l 0,1) else (0,2)
theorem G47 (g:Int):Ct A6 At6 [int g] [] fun v own =>
  (0≤g∧g<8∧∃ a c,v=.tuple ⟨[.slice a 4 c,.bool true]⟩∧own [slC false A4 1 a 4 c (A0 (Gk3 g))])∨(¬ (0≤g∧g<8)∧v=.tuple ⟨[.slice none 0 0,.bool false]⟩∧own []):=by
 refine Ct.of El5 rfl fun h r=>Tr.eq (Ej3 ..) ?_;refine Je ?_
 (refine Ja ?_;intros)
 by_cases hg:0≤g∧g<8
 ·refine Yf (by simp;omega) ?_
  rw [Bl7]
  refine Yn fun b h=>?_
  rw [show ([.int .u8 ((b8 g).toNat:Int),.int .u8 211]:List Value)=A0 [b8 g,211] from rfl]
  refine Ao6 0 rfl 1 2 rfl (by omega) ?_
  refine Je ?_
  refine Tr.pcall (Gq0 (slC false A4 1 (some ⟨b,0,none⟩) 2 2 (A0 [b8 g,211])) (some ⟨b,0,none⟩) false 2 2 2 [b8 g,211] 2 (by simp) (by simp [A8])) ?_
  (refine Ja ?_;intros)
  rw [show List.take 2 [b8 g,211]=[b8 g,211] from rfl,Dv7]
  refine Tr.xApd ⟨rfl,rfl,by simp [A8]⟩ fun a' c' h'=>?_
  refine Je ?_
  refine Ys fun o=>?_
  exact .inl ⟨hg.1,hg.2,a',c',rfl,(show Own h' (_::slC false A4 1 a' 4 c' (A0 (Gk3 g))::_) from o).sub⟩
 ·refine Yt (by simp;omega) ?_
  refine Ys fun o=>?_
  exact .inr ⟨hg,rfl,o.sub⟩
theorem Ix1 (l:List UInt8):∀ (m i:Nat) (r:List UInt8),l.length-i=m→ByteArray.toList.loop ⟨⟨l⟩⟩ i r=r.reverse++l.drop i:=by
 intro m
 induction m with
 | zero =>
  intro i r hm
  unfold ByteArray.toList.loop
  rw [if_neg (show ¬ i<(ByteArray.mk ⟨l⟩).size by show ¬ i<l.length;omega),List.drop_eq_nil_of_le (by omega)];simp
 | succ m ih =>
  intro i r hm
  have hlt:i<l.length:=by omega
  unfold ByteArray.toList.loop
  rw [if_pos (show i<(ByteArray.mk ⟨l⟩).size from hlt),ih (i+1) _ (by omega),List.drop_eq_getElem_cons hlt]
  have:(ByteArray.mk ⟨l⟩).get! i=l[i]:=by
   show (Array.mk l)[i]! = l[i]
   simp [hlt]
  rw [this];simp
theorem Gy9 (l:List UInt8):(ByteArray.mk ⟨l⟩).toList=l:=by
 unfold ByteArray.toList
 rw [Ix1 l _ 0 [] rfl];simp
theorem Hp6 (pb:HP) (ro:Bool) (a:Option Addr) (c:Nat) (l:List UInt8) (hl:l.length=4) [ks:IsSl pb a ro A4 1 4 c (A0 l)]:Ct A6 Ai9 [.slice a 4 c] [pb] fun v own=>v=.tuple ⟨[int (Aq5 l).1,int (Aq5 l).2]⟩∧own [pb]:=by
 refine Ct.of E69 rfl fun h r=>Tr.eq (E72 ..) ?_;refine Je ?_
 refine Yf rfl ?_
 (refine Ja ?_;intros;repeat(refine Gw ?_;rintro px rfl;refine Ja ?_;intros))
 refine Tr.xIntS (v:=byI l 0) (Ag0 (by omega)) ?_
 simp only [byI,Aq6]
 refine Yc (G47 (byI l 0)) ?_
 rintro v h (⟨h1,h2,a1,c1,rfl,o⟩|⟨hn,rfl,o⟩)
 ·refine (?_:Tr _ _ _ _) o
  refine Je ?_
  (refine Ja ?_;intros)
  rw [Gy9,Gy9]
  by_cases he:Gk3 (byI l 0)=l
  ·have e:Aq5 l=(byI l 0,1):=by unfold Aq5;rw [if_pos ⟨h2,he⟩]
   refine Yf (by simp [he]) ?_
   (refine Ja ?_;intros)
   refine Tr.xIntS (v:=byI l 0) (Ag0 (by omega)) ?_
   refine Ys fun o=>?_
   rw [e];exact ⟨by simp only [byI,Aq6],o.sub⟩
  ·have e:Aq5 l=(0,2):=by unfold Aq5;rw [if_neg (fun hh=>he hh.2)]
   refine Yt (by simp [he]) ?_
   refine Ys fun o=>?_
   rw [e];exact ⟨rfl,o.sub⟩
 ·refine (?_:Tr _ _ _ _) o
  refine Je ?_
  (refine Jb ?_;intros)
  refine Yb (Yt rfl ?_)
  refine Ys fun o=>(?_:Tr _ _ _ _) o;refine Je ?_
  (refine Ja ?_;intros)
  refine Ys fun o=>?_
  exact ⟨by unfold Aq5;rw [if_neg (by simp only [byI] at *;omega)],o.sub⟩
theorem H49 (a:Option Addr) (c:Nat) (l:List UInt8) (hl:l.length=4):Ct A6 Ai9 [.slice a 4 c] [slC false A4 1 a 4 c (A0 l)] fun v own=>v=.tuple ⟨[int (Aq5 l).1,int (Aq5 l).2]⟩∧own [slC false A4 1 a 4 c (A0 l)]:=Hp6 (slC false A4 1 a 4 c (A0 l)) false a c l hl
theorem H95 (l:List UInt8) (h:(Aq5 l).2≠1):(Aq5 l).1=0:=by
 unfold Aq5 at *;split<;>simp_all
theorem Iu3 (c k:Nat) (F:Fr) (X:CX) (rc:RecS) (ok:FrOk F) (hk:Ah3 rc.kind=4):Ct A6 V0 [P0 c,.agg ⟨Ac7 rc⟩,.func (.func Ai9) ⟨[]⟩ ⟨[]⟩] [cmC c k F X] fun v own =>
  v=.tuple ⟨[int (Z9 Aq5 0 X rc).1.1,int (Z9 Aq5 0 X rc).1.2]⟩∧own [cmC c k F (Z9 Aq5 0 X rc).2]:=by
 refine Ct.of Be5 rfl fun h r=>Tr.eq (El9 ..) ?_;refine Je ?_
 (refine Ja ?_;intros)
 refine Yc (Ef3 c k F X rc ok) ?_
 rintro v h (⟨l,a,cp,hr,hl,rfl,o⟩|⟨hr,rfl,o⟩)
 ·refine (?_:Tr _ _ _ _) o
  refine Je ?_
  have e:Z9 Aq5 0 X rc=(Aq5 l,if (Aq5 l).2=2 then { X with bad:=X.bad++[rc] } else X):=by unfold Z9;rw [hr]
  have hb:=El7 hr
  rw [e]
  rw [hk] at hl
  rw [hl]
  (refine Ja ?_;intros)
  refine Yc (H49 a cp l hl) ?_;rintro _ h ⟨rfl,o⟩<;>(refine Jf o ?_;intros)
  by_cases h2:(Aq5 l).2=2
  ·refine Yt (by simpa using h2) ?_
   have hz:=H95 l (by omega)
   simp only [if_pos h2]
   refine A9 (cmC c k F X) fun u=>?_;refine Je ?_
   refine A9 (Y4 c k F.env F.caps X.bad) fun ⟨ca,cn,mb⟩=>?_;refine Je ?_
   (refine Ja ?_;intros)
   rw [B12,if_neg hb]
   (refine Ja ?_;intros)
   rw [En9 hb]
   (refine Ja ?_;intros)
   rw [D24 hb]
   (refine Ja ?_;intros)
   rw [Dj5 X.bad 0 X.bad.length _ 0 rfl (by omega),Nat.zero_add]
   (refine Ja ?_;intros)
   rw [En2]
   refine Tr.jmp Be5 (Tr.eq (Bq6 ..) ?_);(try simp only[Nr,Nl,wl,Nat.reduceAdd,Nat.reduceMul,Int.reduceToNat])
   refine Yt (by rw [bne_iff_ne];omega) ?_
   rw [show X.bad.length+1=(X.bad++[rc]).length by simp]
   refine A7 (Y4 c k F.env F.caps (X.bad++[rc])) ⟨ca,cn,mb⟩ ?_;refine Je ?_
   refine A7 (cmC c k F { X with bad:=X.bad++[rc] }) () ?_;refine Je ?_
   refine Ys fun o=>?_
   exact ⟨by rw [hz],o.sub⟩
  ·refine Yf (by simpa using h2) ?_
   simp only [if_neg h2]
   refine Tr.jmp Be5 (Tr.eq (Bq6 ..) ?_);(try simp only[Nr,Nl,wl,Nat.reduceAdd,Nat.reduceMul,Int.reduceToNat])
   by_cases h1:(Aq5 l).2=1
   ·refine Yf (by simpa using h1) ?_
    refine Ys fun o=>?_
    exact ⟨rfl,o.sub⟩
   ·refine Yt (by simpa using h1) ?_
    refine Ys fun o=>?_
    exact ⟨by rw [H95 l h1],o.sub⟩
 ·refine (?_:Tr _ _ _ _) o
  refine Je ?_
  have e:Z9 Aq5 0 X rc=((0,2),X):=by unfold Z9;rw [hr]
  rw [e]
  (refine Ja ?_;intros)
  refine Ys fun o=>?_
  exact ⟨rfl,o.sub⟩
abbrev Ek9 (X:CX) (i:Int):(ProcS × Int) × CX:=Z9 Aa3 .zero X ⟨1,i⟩
abbrev Ek8 (X:CX) (i:Int):(FileS × Int) × CX:=Z9 Aa6 .zero X ⟨2,i⟩
abbrev Ei5 (X:CX) (i:Int):(PipeS × Int) × CX:=Z9 Y5 .zero X ⟨3,i⟩
abbrev E45 (X:CX):(PipeS × Int) × CX:=Z9 Y5 .zero X ⟨4,0⟩
abbrev Ex4 (X:CX):(Int × Int) × CX:=Z9 Aq5 0 X ⟨5,0⟩
abbrev A51 (X:CX) (i:Int) (p:ProcS):Bool × CX:=wrX X ⟨1,i⟩ (Az7 p) (okS p)
abbrev Bk6 (X:CX) (i:Int) (p:FileS):Bool × CX:=wrX X ⟨2,i⟩ (Al5 p) (okF p)
abbrev Ge4 (X:CX) (i:Int) (p:PipeS):Bool × CX:=wrX X ⟨3,i⟩ (N0 p) (okP p)
abbrev Iq2 (X:CX) (rc:RecS):Bool × CX:=wrX X rc (List.replicate (Ah3 rc.kind) 0) true
theorem Ha2 (X:CX) (rc:RecS) (b:List UInt8):wrX X rc b false=(false,X):=by
 unfold wrX;split<;>simp
theorem Gn6 (c k:Nat) (F:Fr) (X:CX) (rc:RecS) (ok:FrOk F):Ct A6 S9 [P0 c,.agg ⟨Ac7 rc⟩,.slice none 0 0,.bool false] [cmC c k F X] fun v own=>v=.bool false∧own [cmC c k F X]:=by
 intro h r o
 have o1:Own h (slC false A4 1 none 0 0 (A0 [])::cmC c k F X::r):=o.slNil false A4 (by omega)
 obtain ⟨v,h',e,rfl,o2⟩:=Ey2 c k F X rc ok [] false none 0 (by simp) h r (o1.perm (.swap _ _ _))
 rw [Ha2] at e o2
 exact ⟨_,h',e,rfl,o2.sub⟩
theorem Ge5 (i:Int):Ct A6 A98 [int i] [] fun v own=>v=.agg ⟨Ac7 ⟨1,i⟩⟩∧own []:=by
 refine Ct.of Gt5 rfl fun h r=>Tr.eq (Gw3 ..) ?_;refine Je ?_
 (refine Ja ?_;intros)
 refine Ys fun o=>?_
 exact ⟨rfl,o.sub⟩
theorem Gd4 (i:Int):Ct A6 A89 [int i] [] fun v own=>v=.agg ⟨Ac7 ⟨2,i⟩⟩∧own []:=by
 refine Ct.of Gt0 rfl fun h r=>Tr.eq (Gw7 ..) ?_;refine Je ?_
 (refine Ja ?_;intros)
 refine Ys fun o=>?_
 exact ⟨rfl,o.sub⟩
theorem Il3 (i:Int):Ct A6 Bo4 [int i] [] fun v own=>v=.agg ⟨Ac7 ⟨3,i⟩⟩∧own []:=by
 refine Ct.of Gu4 rfl fun h r=>Tr.eq (Gr2 ..) ?_;refine Je ?_
 (refine Ja ?_;intros)
 refine Ys fun o=>?_
 exact ⟨rfl,o.sub⟩
theorem Z5 (c k:Nat) (F:Fr) (X:CX) (ok:FrOk F) (i:Int):Ct A6 E2 [P0 c,int i] [cmC c k F X] fun v own=>v=.tuple ⟨[.agg ⟨B5 (Ek9 X i).1.1⟩,int (Ek9 X i).1.2]⟩∧own [cmC c k F (Ek9 X i).2]:=by
 refine Ct.of D76 rfl fun h r=>Tr.eq (D84 ..) ?_;refine Je ?_
 (refine Ja ?_;intros)
 refine Yc (Ge5 i) ?_;rintro _ h ⟨rfl,o⟩<;>(refine Jf o ?_;intros)
 refine Yc (Iw1 c k F X ⟨1,i⟩ ok rfl) ?_;rintro _ h ⟨rfl,o⟩<;>(refine Jf o ?_;intros)
 refine Ys fun o=>?_
 exact ⟨rfl,o.sub⟩
theorem Gd6 (c k:Nat) (F:Fr) (X:CX) (ok:FrOk F) (i:Int):Ct A6 W0 [P0 c,int i] [cmC c k F X] fun v own=>v=.tuple ⟨[.agg ⟨Bv8 (Ek8 X i).1.1⟩,int (Ek8 X i).1.2]⟩∧own [cmC c k F (Ek8 X i).2]:=by
 refine Ct.of D81 rfl fun h r=>Tr.eq (D85 ..) ?_;refine Je ?_
 (refine Ja ?_;intros)
 refine Yc (Gd4 i) ?_;rintro _ h ⟨rfl,o⟩<;>(refine Jf o ?_;intros)
 refine Yc (It5 c k F X ⟨2,i⟩ ok rfl) ?_;rintro _ h ⟨rfl,o⟩<;>(refine Jf o ?_;intros)
 refine Ys fun o=>?_
 exact ⟨rfl,o.sub⟩
theorem Ii7 (c k:Nat) (F:Fr) (X:CX) (ok:FrOk F) (i:Int):Ct A6 Am8 [P0 c,int i] [cmC c k F X] fun v own=>v=.tuple ⟨[.agg ⟨R0 (Ei5 X i).1.1⟩,int (Ei5 X i).1.2]⟩∧own [cmC c k F (Ei5 X i).2]:=by
 refine Ct.of D61 rfl fun h r=>Tr.eq (Ea0 ..) ?_;refine Je ?_
 (refine Ja ?_;intros)
 refine Yc (Il3 i) ?_;rintro _ h ⟨rfl,o⟩<;>(refine Jf o ?_;intros)
 refine Yc (Hu6 c k F X ⟨3,i⟩ ok rfl) ?_;rintro _ h ⟨rfl,o⟩<;>(refine Jf o ?_;intros)
 refine Ys fun o=>?_
 exact ⟨rfl,o.sub⟩
theorem Io7 (c k:Nat) (F:Fr) (X:CX) (ok:FrOk F):Ct A6 Am4 [P0 c] [cmC c k F X] fun v own=>v=.tuple ⟨[.agg ⟨R0 (E45 X).1.1⟩,int (E45 X).1.2]⟩∧own [cmC c k F (E45 X).2]:=by
 refine Ct.of D97 rfl fun h r=>Tr.eq (D83 ..) ?_;refine Je ?_
 (refine Ja ?_;intros)
 refine Yc (Hu6 c k F X ⟨4,0⟩ ok rfl) ?_;rintro _ h ⟨rfl,o⟩<;>(refine Jf o ?_;intros)
 refine Ys fun o=>?_
 exact ⟨rfl,o.sub⟩
theorem Ib4 (c k:Nat) (F:Fr) (X:CX) (ok:FrOk F):Ct A6 Ak5 [P0 c] [cmC c k F X] fun v own=>v=.tuple ⟨[int (Ex4 X).1.1,.bool ((Ex4 X).1.2==1)]⟩∧own [cmC c k F (Ex4 X).2]:=by
 refine Ct.of D03 rfl fun h r=>Tr.eq (D00 ..) ?_;refine Je ?_
 (refine Ja ?_;intros)
 refine Yc (Iu3 c k F X ⟨5,0⟩ ok rfl) ?_;rintro _ h ⟨rfl,o⟩<;>(refine Jf o ?_;intros)
 refine Ys fun o=>?_
 exact ⟨rfl,o.sub⟩
theorem Dx6 (f:FileS):(Al5 f).length=8:=rfl
theorem Dg6 (c k:Nat) (F:Fr) (X:CX) (ok:FrOk F) (i:Int) (p:ProcS):Ct A6 Q2 [P0 c,int i,.agg ⟨B5 p⟩] [cmC c k F X] fun v own=>v=.bool (A51 X i p).1∧own [cmC c k F (A51 X i p).2]:=by
 refine Ct.of Dq5 rfl fun h r=>Tr.eq (Dr5 ..) ?_;refine Je ?_
 (refine Ja ?_;intros)
 refine Yc (Gl9 p) ?_
 rintro v h (⟨hk,a,rfl,o⟩|⟨hk,rfl,o⟩)
 ·refine (?_:Tr _ _ _ _) o
  refine Je ?_
  (refine Ja ?_;intros)
  refine Yc (Ge5 i) ?_;rintro _ h ⟨rfl,o⟩<;>(refine Jf o ?_;intros)
  have J:=Ey2 c k F X ⟨1,i⟩ ok (Az7 p) true a 24 (fun _=>Eh3 p)
  rw [Eh3] at J
  refine Yc (J) ?_;rintro _ h ⟨rfl,o⟩<;>(refine Jf o ?_;intros)
  refine Ys fun o=>?_
  unfold A51;rw [hk]
  exact ⟨rfl,o.sub⟩
 ·refine (?_:Tr _ _ _ _) o
  refine Je ?_
  (refine Ja ?_;intros)
  refine Yc (Ge5 i) ?_;rintro _ h ⟨rfl,o⟩<;>(refine Jf o ?_;intros)
  refine Yc (Gn6 c k F X ⟨1,i⟩ ok) ?_;rintro _ h ⟨rfl,o⟩<;>(refine Jf o ?_;intros)
  refine Ys fun o=>?_
  unfold A51;rw [hk,Ha2]
  exact ⟨rfl,o.sub⟩
theorem Hm9 (c k:Nat) (F:Fr) (X:CX) (ok:FrOk F) (i:Int) (p:FileS):Ct A6 Ag1 [P0 c,int i,.agg ⟨Bv8 p⟩] [cmC c k F X] fun v own=>v=.bool (Bk6 X i p).1∧own [cmC c k F (Bk6 X i p).2]:=by
 refine Ct.of Dq8 rfl fun h r=>Tr.eq (Do3 ..) ?_;refine Je ?_
 (refine Ja ?_;intros)
 refine Yc (Gn3 p) ?_
 rintro v h (⟨hk,a,rfl,o⟩|⟨hk,rfl,o⟩)
 ·refine (?_:Tr _ _ _ _) o
  refine Je ?_
  (refine Ja ?_;intros)
  refine Yc (Gd4 i) ?_;rintro _ h ⟨rfl,o⟩<;>(refine Jf o ?_;intros)
  have J:=Ey2 c k F X ⟨2,i⟩ ok (Al5 p) true a 8 (fun _=>Dx6 p)
  rw [Dx6] at J
  refine Yc (J) ?_;rintro _ h ⟨rfl,o⟩<;>(refine Jf o ?_;intros)
  refine Ys fun o=>?_
  unfold Bk6;rw [hk]
  exact ⟨rfl,o.sub⟩
 ·refine (?_:Tr _ _ _ _) o
  refine Je ?_
  (refine Ja ?_;intros)
  refine Yc (Gd4 i) ?_;rintro _ h ⟨rfl,o⟩<;>(refine Jf o ?_;intros)
  refine Yc (Gn6 c k F X ⟨2,i⟩ ok) ?_;rintro _ h ⟨rfl,o⟩<;>(refine Jf o ?_;intros)
  refine Ys fun o=>?_
  unfold Bk6;rw [hk,Ha2]
  exact ⟨rfl,o.sub⟩
def Dp9 (f:CX→Int→CX):Nat→Int→CX→CX
 | 0,_,X=>X
 | m+1,i,X=>Dp9 f m (i+1) (f X i)
def Gp6 (X:CX):CX:=(Ex4 (E45 X).2).2
def G86 (nc:Nat) (X:CX):CX:=Gp6 (Dp9 (fun X i=>(Ei5 X i).2) (3+nc) 0 X)
def Hk3 (nc:Nat) (X:CX):CX:=G86 nc (Dp9 (fun X i=>(Ek8 X i).2) 12 0 X)
def lookN (nc:Nat) (X:CX):CX:=Hk3 nc (Dp9 (fun X i=>(Ek9 X i).2) 8 0 X)
def Gn7 (X:CX):CX:=lookN X.m.length X
theorem H40 (c k:Nat) (F:Fr) (ok:FrOk F):∀ (m:Nat) (i:Int) (X:CX),0≤i→i+m=3+F.caps.length →
  CtJ I4 B8 Ag3 [(0,P0 c),(20,int (3+F.caps.length)),(21,int i)] [cmC c k F X] fun v own=>v=.tuple ⟨[]⟩∧own [cmC c k F (Gp6 (Dp9 (fun X i=>(Ei5 X i).2) m i X))]:=by
 have hs:=ok.small
 intro m
 induction m with
 | zero =>
  intro i X h0 hi
  refine CtJ.of P8 fun h r=>Tr.eq (Bj9 ..) ?_;refine Je ?_
  refine Yf (by simp;omega) ?_
  refine Yc (Io7 c k F X ok) ?_;rintro _ h ⟨rfl,o⟩<;>(refine Jf o ?_;intros)
  refine Yc (Ib4 c k F (E45 X).2 ok) ?_;rintro _ h ⟨rfl,o⟩<;>(refine Jf o ?_;intros)
  refine Ys fun o=>?_
  exact ⟨rfl,o⟩
 | succ m ih =>
  intro i X h0 hi
  have e1:=wI i
  refine CtJ.of P8 fun h r=>Tr.eq (Bj9 ..) ?_;refine Je ?_
  refine Yt (by simp;omega) ?_
  refine Yc (Ii7 c k F X ok i) ?_;rintro _ h ⟨rfl,o⟩<;>(refine Jf o ?_;intros)
  rw [e1]
  refine Yr (ih (i+1) (Ei5 X i).2 (by omega) (by omega)) ?_
  rintro _ h ⟨rfl,o⟩
  exact ⟨rfl,o⟩
theorem H31 (c k:Nat) (F:Fr) (ok:FrOk F):∀ (m:Nat) (i:Int) (X:CX),0≤i→i+m=12 →
  CtJ I4 B8 Af7 [(0,P0 c),(12,int i)] [cmC c k F X] fun v own=>v=.tuple ⟨[]⟩∧own [cmC c k F (G86 F.caps.length (Dp9 (fun X i=>(Ek8 X i).2) m i X))]:=by
 have hs:=ok.small
 intro m
 induction m with
 | zero =>
  intro i X h0 hi
  refine CtJ.of P8 fun h r=>Tr.eq (Bi3 ..) ?_;refine Je ?_
  refine Yf (by simp;omega) ?_
  refine A9 (cmC c k F X) fun u=>?_;refine Je ?_
  refine Tr.pcall (Hg5 c k F.env F.caps X.bad 3 ok.small) ?_;refine Je ?_;(refine Ja ?_;intros)
  refine A7 (cmC c k F X) () ?_;refine Je ?_
  refine Yr (H40 c k F ok (3+F.caps.length) 0 X (by omega) (by omega)) ?_
  rintro _ h ⟨rfl,o⟩
  exact ⟨rfl,o⟩
 | succ m ih =>
  intro i X h0 hi
  have e1:=wI i
  refine CtJ.of P8 fun h r=>Tr.eq (Bi3 ..) ?_;refine Je ?_
  refine Yt (by simp;omega) ?_
  refine Yc (Gd6 c k F X ok i) ?_;rintro _ h ⟨rfl,o⟩<;>(refine Jf o ?_;intros)
  rw [e1]
  refine Yr (ih (i+1) (Ek8 X i).2 (by omega) (by omega)) ?_
  rintro _ h ⟨rfl,o⟩
  exact ⟨rfl,o⟩
theorem H26 (c k:Nat) (F:Fr) (ok:FrOk F):∀ (m:Nat) (i:Int) (X:CX),0≤i→i+m=8 →
  CtJ I4 B8 Ag2 [(0,P0 c),(5,int i)] [cmC c k F X] fun v own=>v=.tuple ⟨[]⟩∧own [cmC c k F (Hk3 F.caps.length (Dp9 (fun X i=>(Ek9 X i).2) m i X))]:=by
 intro m
 induction m with
 | zero =>
  intro i X h0 hi
  refine CtJ.of P8 fun h r=>Tr.eq (Bj7 ..) ?_;refine Je ?_
  refine Yf (by simp;omega) ?_
  refine Yr (H31 c k F ok 12 0 X (by omega) (by omega)) ?_
  rintro _ h ⟨rfl,o⟩
  exact ⟨rfl,o⟩
 | succ m ih =>
  intro i X h0 hi
  have e1:=wI i
  refine CtJ.of P8 fun h r=>Tr.eq (Bj7 ..) ?_;refine Je ?_
  refine Yt (by simp;omega) ?_
  refine Yc (Z5 c k F X ok i) ?_;rintro _ h ⟨rfl,o⟩<;>(refine Jf o ?_;intros)
  rw [e1]
  refine Yr (ih (i+1) (Ek9 X i).2 (by omega) (by omega)) ?_
  rintro _ h ⟨rfl,o⟩
  exact ⟨rfl,o⟩
theorem Al1 (c k:Nat) (F:Fr) (X:CX) (ok:FrOk F):Ct A6 B8 [P0 c] [cmC c k F X] fun v own=>v=.tuple ⟨[]⟩∧own [cmC c k F (Gn7 X)]:=by
 refine Ct.of P8 rfl fun h r=>Tr.eq (D72 ..) ?_;refine Je ?_
 intro o
 obtain ⟨u,o1⟩:=Own.unfold (cmC c k F X) o
 have f:=(Own.front o1 (i:=2) rfl).pure
 have e:Gn7 X=lookN F.caps.length X:=by unfold Gn7;rw [f.mlen ok]
 rw [e]
 refine (?_:Tr _ _ _ _) o
 refine Yr (H26 c k F ok 8 0 X (by omega) (by omega)) ?_
 rintro _ h ⟨rfl,o⟩
 exact ⟨rfl,o⟩
end Go.EQ
