/- A read that found nothing is woken by bytes, and by the end, and by nothing else: till then its picks do nothing. -/
import Derived.Test.YtonlefldpebcpaaGreatDoorMf
set_option linter.all false
set_option maxRecDepth 10000
namespace Go.EQ
open Go Go.NN
theorem Z0 (l:List UInt8):(A0 l).length=l.length:=by simp [A0]
theorem Eo4 {l:List UInt8} {i:Nat} {x:UInt8} (h:l[i]?=some x):(A0 l)[i]?=some (.int .u8 x.toNat):=by
 unfold A0;rw [List.getElem?_map,h];rfl
theorem Jl8 (l:List UInt8) (x:Nat):(A0 l).take x=A0 (l.take x):=by unfold A0;rw [List.map_take]
theorem Jo8 (l m:List UInt8):A0 (l++m)=A0 l++A0 m:=by simp [A0]
def Ey5 (n:Int) (l:List UInt8):Int:=l.foldl (fun n c=>IntKind.wrap .u8 (n+c.toNat)) n
def Ha0 (l:List UInt8):Int:=Ey5 (IntKind.wrap .u8 l.length) l
theorem I10 (p:HP) (a:Option Addr) (ro:Bool) (n c d:Nat) (l:List UInt8) [ks:IsSl p a ro A5 1 n c (A0 l)] (x:Nat) (hx:x≤l.length) (hl:l.length≤A8):∀ (m i:Nat) (acc:Int),x-i=m→i≤x →
  Z8 I1 Af2 Bu7 [(3,.int .u8 acc),(9,.slice a x d),(10,int x),(11,int i)] [p] (.int .u8 (Ey5 acc ((l.take x).drop i))):=by
 intro m
 induction m with
 | zero =>
  intro i acc hm hi
  refine Z8.of Eh9 fun h r=>Tr.eq (El9 ..) ?_;refine Je ?_
  refine Yf (by simp;omega) ?_
  refine Ys fun o=>?_
  rw [List.drop_eq_nil_of_le (by simp;omega)];exact ⟨rfl,rfl⟩
 | succ m ih =>
  intro i acc hm hi
  have hlt:i<(l.take x).length:=by rw [List.length_take];omega
  have hp:l[i]?=some (l.take x)[i]:=by
   rw [List.getElem_take];exact List.getElem?_eq_getElem (by omega)
  have hd:(l.take x).drop i=(l.take x)[i]::(l.take x).drop (i+1):=List.drop_eq_getElem_cons hlt
  generalize (l.take x)[i]=y at hp hd
  have e1:IntKind.wrap .i64 ((i:Int)+1)=((i+1:Nat):Int):=by rw [B4];simp only [A8] at hl;omega
  refine Z8.of Eh9 fun h r=>Tr.eq (El9 ..) ?_;refine Je ?_
  refine Yt (by simp;omega) ?_
  refine V5 0 rfl fun h1 h2 h3=>?_
  rw [Z0] at h1
  (refine Ja ?_;intros;repeat(refine Gw ?_;rintro px rfl;refine Ja ?_;intros))
  refine Tr.xIntS (v:=y.toNat) (by simpa using Eo4 hp) ?_
  rw [e1,hd]
  exact Ad5 (ih (i+1) _ (by omega) (by omega)) (r:=r) (by simp) fun o=>⟨rfl,rfl⟩
theorem G03 (p:HP) (a:Option Addr) (ro:Bool) (n c d:Nat) (l:List UInt8) [ks:IsSl p a ro A5 1 n c (A0 l)] (x:Nat) (hx:x≤l.length) (hl:l.length≤A8) :
  CtP A7 Af2 [.slice a x d] [p] (.int .u8 (Ha0 (l.take x))):=by
 refine CtP.of Eh9 rfl fun h r=>Tr.eq (Id8 ..) ?_;refine Je ?_
 have e:(l.take x).length=x:=by rw [List.length_take];omega
 have J:=I10 p a ro n c d l x hx hl _ 0 (IntKind.wrap .u8 x) rfl (by omega)
 rw [List.drop_zero] at J
 refine Ad5 J (r:=r) (by simp) fun o=>⟨?_,rfl⟩
 unfold Ha0;rw [e]
def Eb9:Nat→List UInt8→Int
 | _,[]=>-1
 | i,x::l=>if x≠0 then i else Eb9 (i+1) l
theorem Hg6:∀ (l:List UInt8) (i:Nat),decide (Eb9 i l≥0)=!l.all (·==0)
 | [],i=>by simp [Eb9]
 | x::l,i=>by
  unfold Eb9
  by_cases h:x=0
  ·rw [if_neg (by simp [h]),Hg6 l (i+1)];simp [h]
  ·rw [if_pos h];simp [h]
theorem Jt9 (x:UInt8):CtP A7 Ak8 [.int .u8 x.toNat] [] (.bool (x != 0)):=by
 refine CtP.of G06 rfl fun h r=>Tr.eq (Gz7 ..) ?_;refine Je ?_
 refine Ys fun o=>?_
 refine ⟨?_,rfl⟩
 congr 1
 have:((x.toNat:Int)=0)↔x=0:=by
  constructor
  ·intro h;exact UInt8.toNat.inj (by simpa using (show x.toNat=0 by omega))
  ·rintro rfl;rfl
 by_cases h:x=0
 ·subst h;rfl
 ·rw [bne_iff_ne.2 h,bne_iff_ne];intro h2;exact h (this.1 h2)
theorem Gw7 (p:HP) (a:Option Addr) (ro:Bool) (c:Nat) (l:List UInt8) [ks:IsSl p a ro A5 1 l.length c (A0 l)] (hl:l.length≤A8):∀ (m i:Nat),l.length-i=m→i≤l.length →
  Z8 I1 I0 U7 [(0,.slice a l.length c),(1,.func (.func Ak8) ⟨[]⟩ ⟨[]⟩),(7,int l.length),(8,int i)] [p] (int (Eb9 i (l.drop i))):=by
 intro m
 induction m with
 | zero =>
  intro i hm hi
  refine Z8.of Ak2 fun h r=>Tr.eq (Ax8 ..) ?_;refine Je ?_
  refine Yf (by simp;omega) ?_
  refine Ys fun o=>?_
  rw [List.drop_eq_nil_of_le (by omega)];exact ⟨rfl,rfl⟩
 | succ m ih =>
  intro i hm hi
  have hlt:i<l.length:=by omega
  have hp:l[i]?=some l[i]:=List.getElem?_eq_getElem hlt
  have hd:l.drop i=l[i]::l.drop (i+1):=List.drop_eq_getElem_cons hlt
  generalize l[i]=x at hp hd
  have e1:IntKind.wrap .i64 ((i:Int)+1)=((i+1:Nat):Int):=by rw [B4];simp only [A8] at hl;omega
  refine Z8.of Ak2 fun h r=>Tr.eq (Ax8 ..) ?_;refine Je ?_
  refine Yt (by simp;omega) ?_
  (refine Ja ?_;intros;repeat(refine Gw ?_;rintro px rfl;refine Ja ?_;intros))
  refine Tr.xIntS (v:=x.toNat) (by simpa using Eo4 hp) ?_
  (refine Ja ?_;intros)
  refine B80 (Jt9 x) (r:=p::r) (by simp) ?_
  by_cases hx:x=0
  ·have:(x != 0)=false:=by simp [hx]
   rw [this]
   (refine Ja ?_;intros)
   rw [e1]
   refine Ad5 (ih (i+1) (by omega) (by omega)) (r:=r) (by simp) fun o=>?_
   rw [hd,Eb9,if_neg (by simp [hx])];exact ⟨by first|rfl|trivial,by first|rfl|trivial⟩
  ·have:(x != 0)=true:=by simp [hx]
   rw [this]
   (refine Ja ?_;intros)
   refine Ys fun o=>?_
   rw [hd,Eb9,if_pos hx];exact ⟨by first|rfl|trivial,by first|rfl|trivial⟩
theorem I98 (p:HP) (a:Option Addr) (ro:Bool) (c:Nat) (l:List UInt8) [ks:IsSl p a ro A5 1 l.length c (A0 l)] (hl:l.length≤A8) :
  CtP A7 As4 [.slice a l.length c] [p] (.bool (l.all (·==0))):=by
 have j:CtP A7 I0 [.slice a l.length c,.func (.func Ak8) ⟨[]⟩ ⟨[]⟩] [p] (int (Eb9 0 l)):=by
  refine CtP.of Ak2 rfl fun h r=>Tr.eq (B95 ..) ?_;refine Je ?_
  exact Ad5 (Gw7 p a ro c l hl _ 0 rfl (by omega)) (r:=r) (by simp) fun o=>⟨rfl,rfl⟩
 have j2:CtP A7 U9 [.slice a l.length c,.func (.func Ak8) ⟨[]⟩ ⟨[]⟩] [p] (.bool (!l.all (·==0))):=by
  refine CtP.of Bz5 rfl fun h r=>Tr.eq (B04 ..) ?_;refine Je ?_
  refine B80 j (r:=r) (by simp) ?_
  (refine Ja ?_;intros)
  refine Ys fun o=>?_
  rw [Hg6];exact ⟨by first|rfl|trivial,by first|rfl|trivial⟩
 refine CtP.of Hm6 rfl fun h r=>Tr.eq (Hm0 ..) ?_;refine Je ?_
 refine B80 j2 (r:=r) (by simp) ?_
 (refine Ja ?_;intros)
 refine Ys fun o=>?_
 exact ⟨by simp,rfl⟩
theorem Hz5 (p q:HP) (a:Option Addr) (ro:Bool) (c:Nat) (a2:Option Addr) (ro2:Bool) (c2:Nat) (l m:List UInt8) [ks:IsSl p a ro A5 1 l.length c (A0 l)] [ks2:IsSl q a2 ro2 A5 1 m.length c2 (A0 m)] (hl:l.length≤A8) (hlm:m.length=l.length):∀ (k i:Nat),l.length-i=k→i≤l.length →
  Z8 I1 D4 Aa0 [(0,.slice a l.length c),(1,.slice a2 m.length c2),(12,int l.length),(13,int i)] [p,q] (.bool (decide (l.drop i=m.drop i))):=by
 intro k
 induction k with
 | zero =>
  intro i hm hi
  refine Z8.of As3 fun h r=>Tr.eq (A97 ..) ?_;refine Je ?_
  refine Yf (by simp;omega) ?_
  refine Ys fun o=>?_
  rw [List.drop_eq_nil_of_le (by omega),List.drop_eq_nil_of_le (by omega)];exact ⟨rfl,rfl⟩
 | succ k ih =>
  intro i hm hi
  have hlt:i<l.length:=by omega
  have hp:l[i]?=some l[i]:=List.getElem?_eq_getElem hlt
  have hd:l.drop i=l[i]::l.drop (i+1):=List.drop_eq_getElem_cons hlt
  have hlt2:i<m.length:=by omega
  have hp2:m[i]?=some m[i]:=List.getElem?_eq_getElem hlt2
  have hd2:m.drop i=m[i]::m.drop (i+1):=List.drop_eq_getElem_cons hlt2
  generalize l[i]=x at hp hd
  generalize m[i]=y at hp2 hd2
  have e1:IntKind.wrap .i64 ((i:Int)+1)=((i+1:Nat):Int):=by rw [B4];simp only [A8] at hl;omega
  refine Z8.of As3 fun h r=>Tr.eq (A97 ..) ?_;refine Je ?_
  refine Yt (by simp;omega) ?_
  (refine Ja ?_;intros;repeat(refine Gw ?_;rintro px rfl;refine Ja ?_;intros))
  refine Tr.xIntS (v:=x.toNat) (by simpa using Eo4 hp) ?_
  (refine Ja ?_;intros;repeat(refine Gw ?_;rintro px rfl;refine Ja ?_;intros))
  refine Tr.xIntS (v:=y.toNat) (by simpa using Eo4 hp2) ?_
  by_cases hx:x=y
  ·subst hx
   refine Yf (by simp) ?_
   rw [e1]
   refine Ad5 (ih (i+1) (by omega) (by omega)) (r:=r) (by simp) fun o=>?_
   rw [hd,hd2];exact ⟨by simp,rfl⟩
  ·refine Yt (by rw [bne_iff_ne];intro h2;exact hx (UInt8.toNat.inj (by omega))) ?_
   refine Ys fun o=>?_
   rw [hd,hd2];exact ⟨by simp [hx],rfl⟩
theorem E49 (p q:HP) (a:Option Addr) (ro:Bool) (c:Nat) (a2:Option Addr) (ro2:Bool) (c2:Nat) (l m:List UInt8) [ks:IsSl p a ro A5 1 l.length c (A0 l)] [ks2:IsSl q a2 ro2 A5 1 m.length c2 (A0 m)] (hl:l.length≤A8) :
  CtP A7 D4 [.slice a l.length c,.slice a2 m.length c2] [p,q] (.bool (decide (l=m))):=by
 refine CtP.of As3 rfl fun h r=>Tr.eq (Ds4 ..) ?_;refine Je ?_
 by_cases h:m.length=l.length
 ·refine Yf (by simp [h]) ?_
  have J:=Hz5 p q a ro c a2 ro2 c2 l m hl h _ 0 rfl (by omega)
  simp only [List.drop_zero] at J
  exact Ad5 J (r:=r) (by simp) fun o=>⟨rfl,rfl⟩
 ·refine Yt (by rw [bne_iff_ne];omega) ?_
  refine Ys fun o=>?_
  exact ⟨by rw [decide_eq_false (fun e=>h (by rw [e]))],rfl⟩
theorem Hh2 (p:HP) (ro:Bool) (a:Option Addr) (c:Nat) (l:List UInt8) [ks:IsSl p a ro A5 1 l.length c (A0 l)] (hn:l.length≤A8) :
  Ct A7 E9 [.slice a l.length c] [p] fun v own=>∃ a' c',v=.slice a' l.length c'∧own [slC false A5 1 a' l.length c' (A0 l),p]:=by
 refine Ct.of Bj7 rfl fun h r=>Tr.eq (Bj6 ..) ?_;refine Je ?_
 refine V5 0 rfl fun hl hc _=>?_
 refine Tr.cond (fun hb=>?_) fun hb=>?_
 ·obtain rfl:a=none:=by simpa using hb
  refine G6 false A5 1 (by omega) ?_
  intro o
  have o1:=(o.tail.head ks.en).slNone
  obtain rfl:l=[]:=by
   have:=o1.2.2.1
   cases l with
   | nil=>rfl
   | cons x l=>simp [A0] at this
  obtain rfl:c=0:=o1.2.1
  exact ⟨_,_,rfl,none,0,rfl,o⟩
 ·(refine Ja ?_;intros)
  refine Ah3 0 rfl 1 0 rfl (by omega) ?_;refine Je ?_
  (refine Ja ?_;intros)
  refine Tr.xApd ⟨by simp [A0],by simp [A0,Value.oneCell],by omega⟩ fun a' c' h'=>?_
  refine Je ?_
  refine Ys fun o=>⟨a',c',by simp,by simpa using o⟩
end Go.EQ
namespace Go.NN
section
variable {l:List HP} {h:H} {α:Type} {Q:α→H→Prop} {ro:Bool} {e:TypeId} {cs:List Value}
instance {f:Fn} {a c:Array Value} {k:Option α}:Dx (one (.func f a c) k) k:=⟨rfl⟩
theorem Tr.xPCells {a:Option Addr} {n c sz:Nat} {vs cs':List Value} {l':List HP} {k:H→Option (α × H)} [k1:LkO l a false e sz n c cs] (hn:0<n) (hj:vs≠[]∧vs.length≤cs.length∧vs.all Value.oneCell=true∧vs++cs.drop vs.length=cs') [k2:UpO l a (slC false e sz a n c cs') e sz n c cs l'] (t:∀ h',Tr l' h' (k h') Q):Tr l h (NN.pCells a vs h k) Q:=fun ow=>by
 obtain ⟨i,p,hi,hp⟩:=k1.ix
 obtain ⟨y,rfl⟩:=((ow.front hi).head hp).slSome hn
 have:NN.pCells (Option.some y) vs h k=NN.pAgg ((B0 y).add 0) vs h k:=by
  show NN.pAgg (B0 y) vs h k=_
  congr 1
 rw [this]
 exact Tr.xPAggS (k1:=k1) ⟨hj.1,by omega,hj.2.2.1,by simpa using hj.2.2.2⟩ (k2:=k2) t ow
end
end Go.NN

set_option maxRecDepth 10000
namespace Go.EQ
open Go Go.NN
def b8 (x:Int):UInt8:=UInt8.ofNat (x%256).toNat
theorem Dy6 (x:Int):IntKind.wrap .u8 x=x%256:=Jc7 x
theorem Bs3 (x:Int):IntKind.wrap .u8 x=((b8 x).toNat:Int):=by
 rw [Dy6,b8,UInt8.toNat_ofNat']
 omega
def B39 (l:List UInt8):UInt8:=b8 (Ha0 l)
theorem Hp3:∀ (l:List UInt8) (n:Int),0≤n∧n<256→0≤Ey5 n l∧Ey5 n l<256
 | [],n,h=>h
 | x::l,n,h=>Hp3 l _ (by show 0≤IntKind.wrap .u8 (n+x.toNat)∧IntKind.wrap .u8 (n+x.toNat)<256;rw [Dy6];omega)
theorem D39 (l:List UInt8):Ha0 l=((B39 l).toNat:Int):=by
 have:=Hp3 l (IntKind.wrap .u8 l.length) (by rw [Dy6];omega)
 unfold B39
 rw [← Bs3,Dy6]
 unfold Ha0 at *;omega
structure FileS where
 kind:Int
 pipe:Int
 refs:Int
 flags:Int
abbrev FileS.zero:FileS:=⟨0,0,0,0⟩
abbrev Ak6 (f:FileS):List Value:=[int f.kind,int f.pipe,int f.refs,int f.flags]
def okF (f:FileS):Bool:=decide (f.kind≥1) && decide (f.kind≤3) && decide (f.pipe≥0) && decide (f.pipe≤7) && (f.kind != 3 || f.pipe==0) && decide (f.refs≥1) && decide (f.refs≤64) && (f.flags==0 || f.flags==1)
def Bh6 (f:FileS):List UInt8:=[b8 f.kind,b8 f.pipe,b8 f.refs,b8 f.flags,179]
def Ao3 (f:FileS):List UInt8:=Bh6 f++[B39 (Bh6 f),0,0]
theorem Js2 (f:FileS):Ct A7 Dx9 [.agg ⟨Ak6 f⟩] [] fun v own=>v=.bool (okF f)∧own []:=by
 refine Ct.of In5 rfl fun h r=>Tr.eq (Iq3 ..) ?_;refine Je ?_
 (refine Ja ?_;intros)
 refine Ys fun o=>?_
 refine ⟨?_,o.sub⟩
 rfl
theorem Jk2 (a:Option Addr) (c:Nat) (f:FileS):Ct A7 Ax2 [.agg ⟨Ak6 f⟩,.slice a 8 c] [slC false A5 1 a 8 c (A0 (List.replicate 8 0))] fun v own=>v=.bool (okF f)∧own [slC false A5 1 a 8 c (A0 (if okF f then Ao3 f else List.replicate 8 0))]:=by
 refine Ct.of H77 rfl fun h r=>Tr.eq (Ib6 ..) ?_;refine Je ?_
 (refine Ja ?_;intros)
 refine Yc (Js2 f) ?_;rintro _ h ⟨rfl,o⟩<;>(refine Jf o ?_;intros)
 cases hk:okF f with
 | false =>
  (refine Ja ?_;intros)
  refine Ys fun o=>?_
  rw [if_neg (by simp)]
  exact ⟨rfl,o.sub⟩
 | true =>
  (refine Ja ?_;intros)
  simp only [Bs3,List.drop_zero,List.take]
  refine V5 2 rfl fun hl hc _=>?_
  refine Tr.xPCells (cs':=A0 (Bh6 f++[0,0,0])) (by omega) ⟨by simp,by simp [A0],by simp [Value.oneCell],rfl⟩ fun h=>?_
  (refine Ja ?_;intros)
  refine Tr.pcall (G03 (slC false A5 1 a 8 c (A0 (Bh6 f++[0,0,0]))) a false 8 c c (Bh6 f++[0,0,0]) 5 (by simp [Bh6]) (by simp [Bh6,A8])) ?_
  refine Je ?_
  (refine Ja ?_;intros;repeat(refine Gw ?_;rintro px rfl;refine Ja ?_;intros))
  rw [show List.take 5 (Bh6 f++[0,0,0]:List UInt8)=Bh6 f from rfl,D39]
  refine Tr.xVS (cs':=A0 (Ao3 f)) ⟨by simp [A0,Bh6],rfl,rfl⟩ fun h=>?_
  refine Ys fun o=>?_
  simp only [if_true]
  exact ⟨trivial,o.sub⟩
theorem Ee2 {l:List Value} (h:l.all (fun v=>match v with|.int _ _=>true|_=>false)=true):Au9 (.agg ⟨l⟩) (.agg ⟨l⟩)=true:=by
 show B19 l l=true
 induction l with
 | nil=>rfl
 | cons v l ih =>
  simp only [List.all_cons,Bool.and_eq_true] at h
  show (Bb3 v v && B19 l l)=true
  rw [ih h.2,Bool.and_true]
  cases v<;>first|(simp [Bb3];done)|exact absurd h.1 (by simp)
abbrev H48 (k:Nat):HP:=pt k (.cells Ap3 false [int 8,.func (.func Ax2) ⟨[]⟩ ⟨[]⟩,.func (.func Ay3) ⟨[]⟩ ⟨[]⟩])
theorem Ic5 (k:Nat) (f:FileS):Ct A7 Aa3 [P0 k,.agg ⟨Ak6 f⟩] [H48 k] fun v own=>(okF f=true∧∃ a,v=.tuple ⟨[.slice a 8 8,.bool true]⟩∧own [H48 k,slC false A5 1 a 8 8 (A0 (Ao3 f))])∨(okF f=false∧v=.tuple ⟨[.slice none 0 0,.bool false]⟩∧own [H48 k]):=by
 refine Ct.of Dg8 rfl fun h r=>Tr.eq (Dg6 ..) ?_;refine Je ?_
 (refine Ja ?_;intros)
 refine Tr.ck ⟨by omega,by omega,by simp [A8]⟩ ?_
 refine Yn fun b1 h=>?_
 rw [show E7 (Int.toNat 8) [.int .u8 0]=A0 (List.replicate 8 0) from rfl]
 refine Ah3 0 rfl 1 8 rfl (by omega) ?_
 simp only [List.set_cons_zero]
 refine Je ?_
 (refine Jb ?_;intros)
 refine Yb (Yf rfl ?_)
 (refine Jb ?_;intros)
 refine Yc (Jk2 (some ⟨b1,0,none⟩) 8 f) ?_;rintro _ h ⟨rfl,o⟩<;>(refine Jg o ?_;intros)
 refine Ys fun o=>(?_:Tr _ _ _ _) o;refine Je ?_
 cases hk:okF f with
 | false =>
  (refine Ja ?_;intros)
  refine Ys fun o=>?_
  exact .inr ⟨rfl,rfl,o.sub⟩
 | true =>
  (refine Ja ?_;intros)
  refine Ys fun o=>?_
  simp only [if_true] at o
  exact .inl ⟨rfl,_,rfl,o.sub⟩
theorem Jh8:Ct A7 At9 [int 8,.func (.func Ax2) ⟨[]⟩ ⟨[]⟩,.func (.func Ay3) ⟨[]⟩ ⟨[]⟩] [] fun v own=>∃ k,v=P0 k∧own [pt k (.cells Ap3 false [int 8,.func (.func Ax2) ⟨[]⟩ ⟨[]⟩,.func (.func Ay3) ⟨[]⟩ ⟨[]⟩])]:=by
 refine Ct.of Ey7 rfl fun h r=>Tr.eq (Ex3 ..) ?_;refine Je ?_
 rw [show mm2 false (mm2 true 8 0) 64=8 from rfl]
 (refine Ja ?_;intros)
 refine Ys fun o=>?_
 exact ⟨_,rfl,o.sub⟩
theorem Hg3:Ct A7 Bj2 [] [] fun v own=>∃ k,v=P0 k∧own [pt k (.cells Ap3 false [int 8,.func (.func Ax2) ⟨[]⟩ ⟨[]⟩,.func (.func Ay3) ⟨[]⟩ ⟨[]⟩])]:=by
 refine Ct.of Hm7 rfl fun h r=>Tr.eq (Ho2 ..) ?_;refine Je ?_
 refine Yc (Jh8) ?_;rintro _ h ⟨k,rfl,o⟩<;>(refine Jf o ?_;intros)
 refine Ys fun o=>?_
 exact ⟨_,rfl,o.sub⟩
theorem G44 (f:FileS):Ct A7 Bc7 [.agg ⟨Ak6 f⟩] [] fun v own=>(okF f=true∧∃ a,v=.tuple ⟨[.slice a 8 8,.bool true]⟩∧own [slC false A5 1 a 8 8 (A0 (Ao3 f))])∨(okF f=false∧v=.tuple ⟨[.slice none 0 0,.bool false]⟩∧own []):=by
 refine Ct.of Ha9 rfl fun h r=>Tr.eq (G95 ..) ?_;refine Je ?_
 (refine Ja ?_;intros)
 refine Yc (Hg3) ?_;rintro _ h ⟨k,rfl,o⟩<;>(refine Jf o ?_;intros)
 refine Tr.same (Ee2 rfl) ?_
 refine Yc (Ic5 k f) ?_
 rintro v h (⟨hk,a,rfl,o⟩|⟨hk,rfl,o⟩)
 ·refine (?_:Tr _ _ _ _) o
  refine Je ?_
  (refine Ja ?_;intros)
  refine Ys fun o=>?_
  exact .inl ⟨hk,a,rfl,o.sub⟩
 ·refine (?_:Tr _ _ _ _) o
  refine Je ?_
  (refine Ja ?_;intros)
  refine Ys fun o=>?_
  exact .inr ⟨hk,rfl,o.sub⟩
theorem Ag1 {l:List UInt8} {i:Nat} (h:i<l.length):(A0 l)[i]?=some (.int .u8 ((l.getD i 0).toNat:Int)):=by
 rw [List.getD_eq_getElem?_getD,List.getElem?_eq_getElem h];exact Eo4 (List.getElem?_eq_getElem h)
theorem At2 (x:UInt8):IntKind.wrap .i64 (x.toNat:Int)=(x.toNat:Int):=by
 have:=x.toNat_lt;rw [B4];omega
abbrev byI (l:List UInt8) (i:Nat):Int:=((l.getD i 0).toNat:Int)
def Dj7 (l:List UInt8):FileS:=⟨byI l 0,byI l 1,byI l 2,byI l 3⟩
def isF (l:List UInt8):Bool:=okF (Dj7 l) && decide (Ao3 (Dj7 l)=l)
theorem Ji2 (a:Option Addr) (c:Nat) (l:List UInt8) (hl:l.length=8):Ct A7 Ay3 [.slice a 8 c] [slC false A5 1 a 8 c (A0 l)] fun v own=>v=.tuple ⟨[.agg ⟨Ak6 (Dj7 l)⟩,.bool (isF l)]⟩∧own [slC false A5 1 a 8 c (A0 l)]:=by
 have key:∀ a1:Option Addr,CtP A7 D4 [.slice a1 8 8,.slice a 8 c] [slC false A5 1 a1 8 8 (A0 (Ao3 (Dj7 l))),slC false A5 1 a 8 c (A0 l)] (.bool (decide (Ao3 (Dj7 l)=l))):=fun a1=>by
  have J:=E49 (slC false A5 1 a1 8 8 (A0 (Ao3 (Dj7 l)))) (slC false A5 1 a l.length c (A0 l)) a1 false 8 a false c (Ao3 (Dj7 l)) l (by simp [Ao3,Bh6,A8])
  rwa [hl,show (Ao3 (Dj7 l)).length=8 from rfl] at J
 refine Ct.of Id0 rfl fun h r=>Tr.eq (H85 ..) ?_;refine Je ?_
 refine Yn fun b1 h=>?_
 (refine Ja ?_;intros;repeat(refine Gw ?_;rintro px rfl;refine Ja ?_;intros))
 refine Tr.xIntS (v:=byI l 0) (Ag1 (by omega)) ?_
 (refine Ja ?_;intros)
 refine Tr.xIntS (v:=byI l 1) (Ag1 (by omega)) ?_
 (refine Ja ?_;intros)
 refine Tr.xIntS (v:=byI l 2) (Ag1 (by omega)) ?_
 (refine Ja ?_;intros)
 refine Tr.xIntS (v:=byI l 3) (Ag1 (by omega)) ?_
 simp only [byI,At2]
 refine Yn fun b2 h=>?_
 (refine Jb ?_;intros)
 refine Yc (G44 (Dj7 l)) ?_
 rintro v h (⟨hk,a1,rfl,o⟩|⟨hk,rfl,o⟩)
 ·refine (?_:Tr _ _ _ _) o
  refine Je ?_
  (refine Jb ?_;intros)
  refine Yb (Yt rfl ?_)
  refine Tr.pcall (key a1) ?_;refine Je ?_;(refine Jb ?_;intros)
  refine Tr.same (Ee2 rfl) ?_
  refine Ys fun o=>(?_:Tr _ _ _ _) o;refine Je ?_
  (refine Ja ?_;intros)
  refine Ys fun o=>?_
  exact ⟨by unfold isF;rw [hk,Bool.true_and];rfl,o.sub⟩
 ·refine (?_:Tr _ _ _ _) o
  refine Je ?_
  (refine Ja ?_;intros)
  refine Ys fun o=>?_
  exact ⟨by unfold isF;rw [hk];rfl,o.sub⟩
theorem Ew5 (n:Nat) (pb:HP) (ro:Bool) (a:Option Addr) (c:Nat) (l:List UInt8) (hl:l.length=n) (hn:n≤A8) [ks:IsSl pb a ro A5 1 n c (A0 l)]:Ct A7 E9 [.slice a n c] [pb] fun v own=>∃ a' c',v=.slice a' n c'∧own [slC false A5 1 a' n c' (A0 l),pb]:=by
 subst hl;exact Hh2 pb ro a c l hn
theorem Ex8 (n:Nat) (pb:HP) (ro:Bool) (a:Option Addr) (c:Nat) (l:List UInt8) (hl:l.length=n) (hn:n≤A8) [ks:IsSl pb a ro A5 1 n c (A0 l)]:CtP A7 As4 [.slice a n c] [pb] (.bool (l.all (·==0))):=by
 subst hl;exact I98 pb a ro c l hn
theorem H03 (k:Nat) (pb:HP) (ro:Bool) (a:Option Addr) (c:Nat) (l:List UInt8) (hl:l.length=8) [ks:IsSl pb a ro A5 1 8 c (A0 l)]:Ct A7 Aa6 [P0 k,.slice a 8 c] [H48 k,pb] fun v own=>v=.tuple ⟨[.agg ⟨Ak6 (if isF l then Dj7 l else .zero)⟩,.bool (isF l)]⟩∧own [H48 k,pb]:=by
 refine Ct.of Dg5 rfl fun h r=>Tr.eq (Dh0 ..) ?_;refine Je ?_
 (refine Ja ?_;intros)
 refine Yf rfl ?_
 (refine Jb ?_;intros)
 refine Yc (Ew5 8 pb ro a c l hl (by simp [A8])) ?_;rintro _ h ⟨a1,c1,rfl,o⟩<;>(refine Jg o ?_;intros)
 refine Yc (Ji2 a1 c1 l hl) ?_;rintro _ h ⟨rfl,o⟩<;>(refine Jg o ?_;intros)
 cases hk:isF l with
 | false =>
  (refine Ja ?_;intros)
  refine Ys fun o=>?_
  exact ⟨rfl,o.sub⟩
 | true =>
  (refine Ja ?_;intros)
  refine Ys fun o=>?_
  exact ⟨rfl,o.sub⟩
def Ac4 (l:List UInt8):FileS × Int:=if l.all (·==0) then (.zero,0) else if isF l then (Dj7 l,1) else (.zero,2)
theorem Ib2 (pb:HP) (ro:Bool) (a:Option Addr) (c:Nat) (l:List UInt8) (hl:l.length=8) [ks:IsSl pb a ro A5 1 8 c (A0 l)]:Ct A7 Ay8 [.slice a 8 c] [pb] fun v own=>v=.tuple ⟨[.agg ⟨Ak6 (Ac4 l).1⟩,int (Ac4 l).2]⟩∧own [pb]:=by
 refine Ct.of G83 rfl fun h r=>Tr.eq (G93 ..) ?_;refine Je ?_
 refine Yn fun b1 h=>?_
 refine Yb (Yt rfl ?_)
 refine Tr.pcall (Ex8 8 pb ro a c l hl (by simp [A8])) ?_;refine Je ?_;(refine Jb ?_;intros)
 refine Ys fun o=>(?_:Tr _ _ _ _) o;refine Je ?_
 cases hb:l.all (·==0) with
 | true =>
  (refine Ja ?_;intros)
  refine Ys fun o=>?_
  exact ⟨by unfold Ac4;rw [hb];rfl,o.sub⟩
 | false =>
  (refine Jb ?_;intros)
  refine Yc (Hg3) ?_;rintro _ h ⟨k,rfl,o⟩<;>(refine Jg o ?_;intros)
  refine Yc (H03 k pb ro a c l hl) ?_;rintro _ h ⟨rfl,o⟩<;>(refine Jg o ?_;intros)
  cases hk:isF l with
  | false =>
   (refine Ja ?_;intros)
   refine Ys fun o=>?_
   exact ⟨by unfold Ac4;rw [hb,hk];rfl,o.sub⟩
  | true =>
   (refine Ja ?_;intros)
   refine Ys fun o=>?_
   exact ⟨by unfold Ac4;rw [hb,hk];rfl,o.sub⟩
theorem Ir0 (a:Option Addr) (c:Nat) (l:List UInt8) (hl:l.length=8):Ct A7 Ay8 [.slice a 8 c] [slC false A5 1 a 8 c (A0 l)] fun v own=>v=.tuple ⟨[.agg ⟨Ak6 (Ac4 l).1⟩,int (Ac4 l).2]⟩∧own [slC false A5 1 a 8 c (A0 l)]:=Ib2 (slC false A5 1 a 8 c (A0 l)) false a c l hl
structure PipeS where
 head:Int
 count:Int
 readers:Int
 writers:Int
 data:List UInt8
 len:data.length=32
abbrev PipeS.zero:PipeS:=⟨0,0,0,0,List.replicate 32 0,rfl⟩
abbrev E5 (p:PipeS):List Value:=int p.head::int p.count::int p.readers::int p.writers::A0 p.data
theorem Ah4 {p:PipeS} (hd:p.data.length=32):(E5 p).length=36:=by simp [E5,Z0,hd]
theorem Ir4 {p:PipeS} (hd:p.data.length=32):4+32≤(E5 p).length∧((E5 p).drop 4).take 32=A0 p.data:=⟨by rw [Ah4 hd];exact Nat.le_refl _,by
 rw [show (E5 p).drop 4=A0 p.data from rfl,List.take_of_length_le (by rw [Z0,hd];exact Nat.le_refl _)]⟩
theorem Hf5 (p:PipeS):(E5 p).all Value.oneCell=true:=by simp [E5,Al7,Value.oneCell]
theorem Il8 (p:PipeS):Au9 (.agg ⟨E5 p⟩) (.agg ⟨E5 p⟩)=true:=Ee2 (by simp [E5,A0])
instance {p:PipeS}:LenC (E5 p) 36:=⟨Ah4 p.len⟩
instance {p:PipeS}:PartC (E5 p) 0 36 (E5 p):=⟨B77 (Ah4 p.len)⟩
instance {p:PipeS} {cs:List Value} [k:LenC cs 36]:SetsC cs 0 (E5 p) (E5 p):=⟨Br7 k.ok (Ah4 p.len) (Hf5 p)⟩
instance {p:PipeS}:SameC (.agg ⟨E5 p⟩):=⟨Il8 p⟩
def okP (p:PipeS):Bool:=decide (0≤p.head∧p.head≤31) && decide (0≤p.count∧p.count≤32) && decide (0≤p.readers∧p.readers≤8) && decide (0≤p.writers∧p.writers≤8)
def An1 (p:PipeS):List UInt8:=[1,b8 p.head,b8 p.count,b8 p.readers,b8 p.writers,197]
def N6 (p:PipeS):List UInt8:=An1 p++B39 (An1 p)::0::p.data
theorem Bt1 {p:PipeS} (hd:p.data.length=32):(N6 p).length=40:=by simp [N6,An1,hd]
theorem Jo9 (n m:Int):CtP A7 Ay4 [int n,int m] [] (.bool (decide (0≤n∧n≤m))):=by
 refine CtP.of Ia2 rfl fun h r=>Tr.eq (Ic4 ..) ?_;refine Je ?_
 (refine Ja ?_;intros)
 refine Ys fun o=>?_
 refine ⟨?_,rfl⟩
 refine congrArg Value.bool ?_;rw [Bool.eq_iff_iff];simp only [Bool.and_eq_true,Bool.or_eq_true,Bool.not_eq_true',Bool.not_eq_false',decide_eq_true_eq,decide_eq_false_iff_not,bne_iff_ne,beq_iff_eq,ne_eq,B4,Z9,Ae3,ge_iff_le,gt_iff_lt];first|done|omega
instance {n m:Int} {l:List HP}:PCi A7 Ay4 [.int .i64 n,.int .i64 m] l (.bool (decide (0≤n∧n≤m))):=PCi.of (Jo9 n m)
theorem Hs5 (p:PipeS):Ct A7 B76 [.agg ⟨E5 p⟩] [] fun v own=>v=.bool (okP p)∧own []:=by
 refine Ct.of I26 rfl fun h r=>Tr.eq (I19 ..) ?_;refine Je ?_
 (refine Ja ?_;intros)
 refine Ys fun o=>?_
 exact ⟨rfl,o.sub⟩
theorem Jj8 (a:Option Addr) (c:Nat) (p:PipeS):Ct A7 Bv2 [.agg ⟨E5 p⟩,.slice a 40 c] [slC false A5 1 a 40 c (A0 (List.replicate 40 0))] fun v own=>v=.bool (okP p)∧own [slC false A5 1 a 40 c (A0 (if okP p then N6 p else List.replicate 40 0))]:=by
 have hd:=p.len
 refine Ct.of Ij7 rfl fun h r=>Tr.eq (Is4 ..) ?_;refine Je ?_
 refine Yn fun b1 h=>?_
 (refine Ja ?_;intros)
 refine Yc (Hs5 p) ?_;rintro _ h ⟨rfl,o⟩<;>(refine Jg o ?_;intros)
 cases hk:okP p with
 | false =>
  (refine Ja ?_;intros)
  refine Ys fun o=>?_
  rw [if_neg (by simp)]
  exact ⟨rfl,o.sub⟩
 | true =>
  (refine Ja ?_;intros)
  simp only [Bs3,List.drop_zero,List.take]
  refine V5 2 rfl fun hl hc _=>?_
  refine Tr.xPCells (cs':=A0 (An1 p++List.replicate 34 0)) (by omega) ⟨by simp,by simp [A0],by simp [Value.oneCell],rfl⟩ fun h=>?_
  (refine Ja ?_;intros)
  refine Tr.pcall (G03 (slC false A5 1 a 40 c (A0 (An1 p++List.replicate 34 0))) a false 40 c c (An1 p++List.replicate 34 0) 6 (by simp [An1]) (by simp [An1,A8])) ?_
  refine Je ?_
  (refine Ja ?_;intros;repeat(refine Gw ?_;rintro px rfl;refine Ja ?_;intros))
  rw [show List.take 6 (An1 p++List.replicate 34 0:List UInt8)=An1 p from rfl,D39]
  refine Tr.xVS (cs':=A0 (An1 p++B39 (An1 p)::List.replicate 33 0)) ⟨by simp [A0,An1],rfl,rfl⟩ fun h=>?_
  (refine Ja ?_;intros)
  refine Tr.xCellsB (xs:=A0 p.data) (Ir4 p.len) ?_
  rw [Hb3 (by omega),Gb8]
  refine Tr.xPAggS (cs':=A0 (N6 p)) ⟨?_,?_,Al7 _,?_⟩ fun h=>?_
  ·intro e;have:=congrArg List.length e;simp [A0,hd] at this
  ·simp [A0,hd,An1]
  ·rw [Z0,hd]
   simp [A0,N6,An1]
  refine Ys fun o=>?_
  simp only [if_true]
  exact ⟨trivial,o.sub⟩
abbrev Gv8 (k:Nat):HP:=pt k (.cells Bz2 false [int 40,.func (.func Bv2) ⟨[]⟩ ⟨[]⟩,.func (.func Bu3) ⟨[]⟩ ⟨[]⟩])
theorem Ia6 (k:Nat) (f:PipeS):Ct A7 Aa2 [P0 k,.agg ⟨E5 f⟩] [Gv8 k] fun v own=>(okP f=true∧∃ a,v=.tuple ⟨[.slice a 40 40,.bool true]⟩∧own [Gv8 k,slC false A5 1 a 40 40 (A0 (N6 f))])∨(okP f=false∧v=.tuple ⟨[.slice none 0 0,.bool false]⟩∧own [Gv8 k]):=by
 refine Ct.of Dg2 rfl fun h r=>Tr.eq (Dg4 ..) ?_;refine Je ?_
 (refine Ja ?_;intros)
 refine Tr.ck ⟨by omega,by omega,by simp [A8]⟩ ?_
 refine Yn fun b1 h=>?_
 rw [show E7 (Int.toNat 40) [.int .u8 0]=A0 (List.replicate 40 0) from rfl]
 refine Ah3 0 rfl 1 40 rfl (by omega) ?_
 simp only [List.set_cons_zero]
 refine Je ?_
 (refine Jb ?_;intros)
 refine Yb (Yf rfl ?_)
 (refine Jb ?_;intros)
 refine Yc (Jj8 (some ⟨b1,0,none⟩) 40 f) ?_;rintro _ h ⟨rfl,o⟩<;>(refine Jg o ?_;intros)
 refine Ys fun o=>(?_:Tr _ _ _ _) o;refine Je ?_
 cases hk:okP f with
 | false =>
  (refine Ja ?_;intros)
  refine Ys fun o=>?_
  exact .inr ⟨rfl,rfl,o.sub⟩
 | true =>
  (refine Ja ?_;intros)
  refine Ys fun o=>?_
  simp only [if_true] at o
  exact .inl ⟨rfl,_,rfl,o.sub⟩
theorem Jg7:Ct A7 Au7 [int 40,.func (.func Bv2) ⟨[]⟩ ⟨[]⟩,.func (.func Bu3) ⟨[]⟩ ⟨[]⟩] [] fun v own=>∃ k,v=P0 k∧own [Gv8 k]:=by
 refine Ct.of Eu8 rfl fun h r=>Tr.eq (Ey8 ..) ?_;refine Je ?_
 rw [show mm2 false (mm2 true 40 0) 64=40 from rfl]
 (refine Ja ?_;intros)
 refine Ys fun o=>?_
 exact ⟨_,rfl,o.sub⟩
theorem Hj2:Ct A7 Bp4 [] [] fun v own=>∃ k,v=P0 k∧own [Gv8 k]:=by
 refine Ct.of Hz7 rfl fun h r=>Tr.eq (Hv5 ..) ?_;refine Je ?_
 refine Yc (Jg7) ?_;rintro _ h ⟨k,rfl,o⟩<;>(refine Jf o ?_;intros)
 refine Ys fun o=>?_
 exact ⟨_,rfl,o.sub⟩
theorem G73 (f:PipeS):Ct A7 Bk9 [.agg ⟨E5 f⟩] [] fun v own=>(okP f=true∧∃ a,v=.tuple ⟨[.slice a 40 40,.bool true]⟩∧own [slC false A5 1 a 40 40 (A0 (N6 f))])∨(okP f=false∧v=.tuple ⟨[.slice none 0 0,.bool false]⟩∧own []):=by
 refine Ct.of Hl3 rfl fun h r=>Tr.eq (Hm4 ..) ?_;refine Je ?_
 refine Yn fun b1 h=>?_
 (refine Ja ?_;intros)
 refine Yc (Hj2) ?_;rintro _ h ⟨k,rfl,o⟩<;>(refine Jg o ?_;intros)
 (refine Ja ?_;intros)
 refine Yc (Ia6 k f) ?_
 rintro v h (⟨hk,a,rfl,o⟩|⟨hk,rfl,o⟩)
 ·refine (?_:Tr _ _ _ _) o
  refine Je ?_
  (refine Ja ?_;intros)
  refine Ys fun o=>?_
  exact .inl ⟨hk,a,rfl,o.sub⟩
 ·refine (?_:Tr _ _ _ _) o
  refine Je ?_
  (refine Ja ?_;intros)
  refine Ys fun o=>?_
  exact .inr ⟨hk,rfl,o.sub⟩
def Ec8 (l:List UInt8):List UInt8:=(l++List.replicate 32 0).take 32
theorem I28 (l:List UInt8):(Ec8 l).length=32:=by simp [Ec8]
theorem Eq4 {l:List UInt8} (h:l.length=32):Ec8 l=l:=by simp [Ec8,← h]
def Bf9 (l:List UInt8):PipeS:=⟨byI l 1,byI l 2,byI l 3,byI l 4,Ec8 (l.drop 8),I28 _⟩
def isP (l:List UInt8):Bool:=okP (Bf9 l) && decide (N6 (Bf9 l)=l)
theorem Jh1 (a:Option Addr) (c:Nat) (l:List UInt8) (hl:l.length=40):Ct A7 Bu3 [.slice a 40 c] [slC false A5 1 a 40 c (A0 l)] fun v own=>v=.tuple ⟨[.agg ⟨E5 (Bf9 l)⟩,.bool (isP l)]⟩∧own [slC false A5 1 a 40 c (A0 l)]:=by
 have hd:=(Bf9 l).len
 have hp:Ec8 (l.drop 8)=l.drop 8:=Eq4 (by simp [hl])
 have key:∀ a1:Option Addr,CtP A7 D4 [.slice a1 40 40,.slice a 40 c] [slC false A5 1 a1 40 40 (A0 (N6 (Bf9 l))),slC false A5 1 a 40 c (A0 l)] (.bool (decide (N6 (Bf9 l)=l))):=fun a1=>by
  have e:=Bt1 hd
  have J:=E49 (slC false A5 1 a1 (N6 (Bf9 l)).length 40 (A0 (N6 (Bf9 l)))) (slC false A5 1 a l.length c (A0 l)) a1 false 40 a false c (N6 (Bf9 l)) l (by rw [e];simp [A8])
  rwa [hl,e] at J
 refine Ct.of Is5 rfl fun h r=>Tr.eq (In0 ..) ?_;refine Je ?_
 refine Yn fun b1 h=>?_
 refine V5 1 rfl fun hl2 hc2 _=>?_
 (refine Ja ?_;intros;repeat(refine Gw ?_;rintro px rfl;refine Ja ?_;intros))
 refine Tr.xIntS (v:=byI l 1) (Ag1 (by omega)) ?_
 (refine Ja ?_;intros)
 refine Tr.xIntS (v:=byI l 2) (Ag1 (by omega)) ?_
 (refine Ja ?_;intros)
 refine Tr.xIntS (v:=byI l 3) (Ag1 (by omega)) ?_
 (refine Ja ?_;intros)
 refine Tr.xIntS (v:=byI l 4) (Ag1 (by omega)) ?_
 simp only [byI,At2]
 refine Yn fun b2 h=>?_
 (refine Jb ?_;intros)
 rw [Hb3 (show 8<c by omega),Ht0]
 refine Tr.xAggS (xs:=A0 (l.drop 8)) ⟨by omega,by simp [Z0,hl],?_⟩ ?_
 ·rw [Di7,List.take_of_length_le (by simp [Z0,hl])]
 rw [show pCells (some (⟨b2,4,none⟩:Addr))=pAgg ⟨b2,4,none⟩ from rfl]
 refine Tr.xPAgg (cs':=E5 (Bf9 l)) ⟨by simp [Z0,hl],Al7 _,by simp [E5,Bf9,byI,Z0,hl,hp]⟩ fun h=>?_
 (refine Ja ?_;intros)
 refine Yc (G73 (Bf9 l)) ?_
 rintro v h (⟨hk,a1,rfl,o⟩|⟨hk,rfl,o⟩)
 ·refine (?_:Tr _ _ _ _) o
  refine Je ?_
  (refine Jb ?_;intros)
  refine Yb (Yt rfl ?_)
  refine Tr.pcall (key a1) ?_;refine Je ?_;(refine Jb ?_;intros)
  refine Ys fun o=>(?_:Tr _ _ _ _) o;refine Je ?_
  (refine Ja ?_;intros)
  refine Ys fun o=>?_
  exact ⟨by unfold isP;rw [hk,Bool.true_and],o.sub⟩
 ·refine (?_:Tr _ _ _ _) o
  refine Je ?_
  (refine Ja ?_;intros)
  refine Ys fun o=>?_
  exact ⟨by unfold isP;rw [hk];rfl,o.sub⟩
theorem H60 (k:Nat) (pb:HP) (ro:Bool) (a:Option Addr) (c:Nat) (l:List UInt8) (hl:l.length=40) [ks:IsSl pb a ro A5 1 40 c (A0 l)]:Ct A7 Aa4 [P0 k,.slice a 40 c] [Gv8 k,pb] fun v own=>v=.tuple ⟨[.agg ⟨E5 (if isP l then Bf9 l else .zero)⟩,.bool (isP l)]⟩∧own [Gv8 k,pb]:=by
 have hd:=(Bf9 l).len
 have hp:Ec8 (l.drop 8)=l.drop 8:=Eq4 (by simp [hl])
 refine Ct.of Dg9 rfl fun h r=>Tr.eq (Dg1 ..) ?_;refine Je ?_
 (refine Ja ?_;intros)
 refine Yf rfl ?_
 (refine Jb ?_;intros)
 refine Yc (Ew5 40 pb ro a c l hl (by simp [A8])) ?_;rintro _ h ⟨a1,c1,rfl,o⟩<;>(refine Jg o ?_;intros)
 refine Yc (Jh1 a1 c1 l hl) ?_;rintro _ h ⟨rfl,o⟩<;>(refine Jg o ?_;intros)
 cases hk:isP l with
 | false =>
  (refine Ja ?_;intros)
  refine Ys fun o=>?_
  exact ⟨rfl,o.sub⟩
 | true =>
  (refine Ja ?_;intros)
  refine Ys fun o=>?_
  exact ⟨rfl,o.sub⟩
def U6 (l:List UInt8):PipeS × Int:=if l.all (·==0) then (.zero,0) else if isP l then (Bf9 l,1) else (.zero,2)
theorem Ib9 (pb:HP) (ro:Bool) (a:Option Addr) (c:Nat) (l:List UInt8) (hl:l.length=40) [ks:IsSl pb a ro A5 1 40 c (A0 l)]:Ct A7 As6 [.slice a 40 c] [pb] fun v own=>v=.tuple ⟨[.agg ⟨E5 (U6 l).1⟩,int (U6 l).2]⟩∧own [pb]:=by
 have hd:=(Bf9 l).len
 have hp:Ec8 (l.drop 8)=l.drop 8:=Eq4 (by simp [hl])
 refine Ct.of Hn0 rfl fun h r=>Tr.eq (Hl8 ..) ?_;refine Je ?_
 refine Yn fun b1 h=>?_
 refine Yb (Yt rfl ?_)
 refine Tr.pcall (Ex8 40 pb ro a c l hl (by simp [A8])) ?_;refine Je ?_;(refine Jb ?_;intros)
 refine Ys fun o=>(?_:Tr _ _ _ _) o;refine Je ?_
 cases hb:l.all (·==0) with
 | true =>
  (refine Ja ?_;intros)
  refine Ys fun o=>?_
  exact ⟨by unfold U6;rw [hb];rfl,o.sub⟩
 | false =>
  (refine Jb ?_;intros)
  refine Yc (Hj2) ?_;rintro _ h ⟨k,rfl,o⟩<;>(refine Jg o ?_;intros)
  refine Yc (H60 k pb ro a c l hl) ?_;rintro _ h ⟨rfl,o⟩<;>(refine Jg o ?_;intros)
  cases hk:isP l with
  | false =>
   (refine Ja ?_;intros)
   refine Ys fun o=>?_
   exact ⟨by unfold U6;rw [hb,hk];rfl,o.sub⟩
  | true =>
   (refine Ja ?_;intros)
   refine Ys fun o=>?_
   exact ⟨by unfold U6;rw [hb,hk];rfl,o.sub⟩
theorem Io7 (a:Option Addr) (c:Nat) (l:List UInt8) (hl:l.length=40):Ct A7 As6 [.slice a 40 c] [slC false A5 1 a 40 c (A0 l)] fun v own=>v=.tuple ⟨[.agg ⟨E5 (U6 l).1⟩,int (U6 l).2]⟩∧own [slC false A5 1 a 40 c (A0 l)]:=Ib9 (slC false A5 1 a 40 c (A0 l)) false a c l hl
structure ProcS where
 state:Int
 parent:Int
 group:Int
 code:Int
 pending:Int
 mask:Int
 ignored:Int
 caught:Int
 fds:List Int
 len:fds.length=8
abbrev Ho3:List Int:=[0,0,0,0,0,0,0,0]
abbrev ProcS.zero:ProcS:=⟨0,0,0,0,0,0,0,0,Ho3,rfl⟩
abbrev D7 (p:ProcS):List Value:=int p.state::int p.parent::int p.group::int p.code::int p.pending::int p.mask::int p.ignored::int p.caught::p.fds.map int
theorem B68 (p:ProcS):(D7 p).length=16:=by simp [D7,p.len]
theorem Iv6 (p:ProcS):(D7 p).all Value.oneCell=true:=by simp [D7,Value.oneCell]
instance {p:ProcS}:LenC (D7 p) 16:=⟨B68 p⟩
instance {p:ProcS}:PartC (D7 p) 0 16 (D7 p):=⟨B77 (B68 p)⟩
instance {p:ProcS}:PartC (D7 p) 8 8 (p.fds.map int):=⟨by
 have h:Nat.ble (8+8) (D7 p).length=true:=by rw [B68];rfl
 have e:((D7 p).drop 8).take 8=p.fds.map int:=by rw [show (D7 p).drop 8=p.fds.map int from rfl,List.take_of_length_le (by simp [p.len])]
 rw [Dm1,h,e];rfl⟩
instance {p:ProcS} {cs:List Value} [k:LenC cs 16]:SetsC cs 0 (D7 p) (D7 p):=⟨Br7 k.ok (B68 p) (Iv6 p)⟩
instance {p:ProcS}:SameC (.agg ⟨D7 p⟩):=⟨Ee2 (by simp [D7])⟩
def Ex2 (n w:Int):Bool:=Bx3 .i64 n 65534==0 && J8 .i64 n w==0
def okS (p:ProcS):Bool :=
 !(decide (p.state<1) || decide (p.state>3) || decide (p.parent<0) || decide (p.parent>8) || decide (p.group<0) || decide (p.group≥8) || decide (p.code<0) || decide (p.code>255)) &&
 (!(!Ex2 p.pending 0 || !Ex2 p.mask 16896 || !Ex2 p.ignored 16896 || !Ex2 p.caught 16896 || J8 .i64 p.ignored p.caught != 0) &&
 (!(p.fds.any fun f=>decide (f<0) || decide (f>12)) &&
 (if p.state=2 then p.pending==0 && decide (p.fds=Ho3) else p.code==0)))
def hi2 (n:Int):UInt8:=if 0≤n∧n≤65535 then b8 (n / 256) else 0
def lo2 (n:Int):UInt8:=if 0≤n∧n≤65535 then b8 n else 0
abbrev put2 (n:Int):List UInt8:=[hi2 n,lo2 n]
def Eq5 (p:ProcS):List UInt8:=[b8 p.state,b8 p.parent,b8 p.group,b8 p.code]++(put2 p.pending++(put2 p.mask++(put2 p.ignored++(put2 p.caught++(p.fds.map b8++[167])))))
theorem I63 (n:Int):(put2 n).length=2:=rfl
theorem Iu4 (p:ProcS):(Eq5 p).length=21:=by simp [Eq5,I63,p.len]
def A30 (p:ProcS):List UInt8:=Eq5 p++[B39 (Eq5 p),0,0]
theorem Ew0 (p:ProcS):(A30 p).length=24:=by simp [A30,Iu4]
theorem Jj9 (n w:Int):CtP A7 Aq1 [int n,int w] [] (.bool (Ex2 n w)):=by
 refine CtP.of Hy8 rfl fun h r=>Tr.eq (Hw7 ..) ?_;refine Je ?_
 exact Jz
instance {n w:Int} {l:List HP}:PCi A7 Aq1 [.int .i64 n,.int .i64 w] l (.bool (Ex2 n w)):=PCi.of (Jj9 n w)
theorem Jj6 (f:Int):CtP A7 Bp6 [int f] [] (.bool (decide (f<0) || decide (f>12))):=by
 refine CtP.of H53 rfl fun h r=>Tr.eq (Hy0 ..) ?_;refine Je ?_
 exact Jz
theorem Gx5 (p:HP) (a:Option Addr) (ro:Bool) (c:Nat) (l:List Int) (g:FuncId) (f:Int→Bool) {e:TypeId} [ks:IsSl p a ro e 1 l.length c (l.map int)] (hl:l.length≤A8) (hf:∀ x,CtP A7 g [int x] [] (.bool (f x))):∀ (m i:Nat),l.length-i=m→i≤l.length →
  Z8 I1 E2 P8 [(0,.slice a l.length c),(1,.func (.func g) ⟨[]⟩ ⟨[]⟩),(7,int l.length),(8,int i)] [p] (int (B20 f i (l.drop i))):=by
 intro m
 induction m with
 | zero =>
  intro i hm hi
  refine Z8.of O8 fun h r=>Tr.eq (W7 ..) ?_;refine Je ?_
  refine Yf (by simp;omega) ?_
  refine Ys fun o=>?_
  rw [List.drop_eq_nil_of_le (by omega)];exact ⟨rfl,rfl⟩
 | succ m ih =>
  intro i hm hi
  have hlt:i<l.length:=by omega
  have hp:l[i]?=some l[i]:=List.getElem?_eq_getElem hlt
  have hd:l.drop i=l[i]::l.drop (i+1):=List.drop_eq_getElem_cons hlt
  generalize l[i]=x at hp hd
  have e1:IntKind.wrap .i64 ((i:Int)+1)=((i+1:Nat):Int):=by rw [B4];simp only [A8] at hl;omega
  refine Z8.of O8 fun h r=>Tr.eq (W7 ..) ?_;refine Je ?_
  refine Yt (by simp;omega) ?_
  (refine Ja ?_;unhygienic intros;repeat(refine Gw ?_;rintro px rfl;refine Ja ?_;unhygienic intros))
  refine Tr.xIntS (v:=x) (by simp [hp]) ?_
  (refine Ja ?_;unhygienic intros)
  refine Tr.pcall (hf x) ?_
  cases hx:f x with
  | true =>
   (refine Ja ?_;unhygienic intros)
   refine Ys fun o=>?_
   rw [hd,B20,if_pos hx];exact ⟨by first|rfl|trivial,by first|rfl|trivial⟩
  | false =>
   (refine Ja ?_;unhygienic intros)
   rw [e1]
   refine Ad5 (ih (i+1) (by omega) (by omega)) (r:=r) (by simp) fun o=>?_
   rw [hd,B20,if_neg (by simp [hx])];exact ⟨by first|rfl|trivial,by first|rfl|trivial⟩
theorem Gs3 (p:HP) (a:Option Addr) (ro:Bool) (c:Nat) (l:List Int) (g:FuncId) (f:Int→Bool) {e:TypeId} [ks:IsSl p a ro e 1 l.length c (l.map int)] (hl:l.length≤A8) (hf:∀ x,CtP A7 g [int x] [] (.bool (f x))) :
  CtP A7 G7 [.slice a l.length c,.func (.func g) ⟨[]⟩ ⟨[]⟩] [p] (.bool (l.any f)):=by
 have j:CtP A7 E2 [.slice a l.length c,.func (.func g) ⟨[]⟩ ⟨[]⟩] [p] (int (B20 f 0 l)):=by
  refine CtP.of O8 rfl fun h r=>Tr.eq (Bd4 ..) ?_;refine Je ?_
  exact Ad5 (Gx5 p a ro c l g f hl hf _ 0 rfl (by omega)) (r:=r) (by simp) fun o=>⟨rfl,rfl⟩
 refine CtP.of A24 rfl fun h r=>Tr.eq (A23 ..) ?_;refine Je ?_
 refine B80 j (r:=r) (by simp) ?_
 (refine Ja ?_;unhygienic intros)
 refine Ys fun o=>?_
 rw [E48];exact ⟨by first|rfl|trivial,by first|rfl|trivial⟩
theorem Hw1:∀ (l m:List Int),l.length=m.length→eqs (l.map int) (m.map int)=some (decide (l=m))
 | [],[],_=>rfl
 | [],_::_,h=>by simp at h
 | _::_,[],h=>by simp at h
 | a::l,b::m,h=>by
  have ih:=Hw1 l m (by simpa using h)
  simp only [List.map_cons,eqs,eq1,decide_true,ih]
  by_cases h1:a=b<;>by_cases h2:l=m<;>simp [h1,h2]
theorem Gt6:∀ (l:List Int),J5 (List.replicate l.length (TypeDesc.int .i64)) (l.map int)=true
 | []=>rfl
 | a::l=>by
  have:=Gt6 l
  simp only [List.length_cons,List.replicate_succ,List.map_cons,J5,decide_true,this,Bool.and_self]
theorem eq8 {α:Type} (l m:List Int) (hl:l.length=8) (hm:m.length=8) (k:Bool→Option α):Dn0 PR Hb0 (l.map int) (m.map int) k=k (decide (l=m)):=by
 have e:Ao8 PR 8 Hb0=some (List.replicate 8 (TypeDesc.int .i64)):=by kernel_rfl
 have f1:=Gt6 l;have f2:=Gt6 m
 rw [hl] at f1;rw [hm] at f2
 rw [Dn0,e]
 simp only [f1,f2,Hw1 l m (by omega),Bool.and_self,ckB,cond_true,eqK]
theorem Jq0 (p:ProcS):Ct A7 D14 [.agg ⟨D7 p⟩] [] fun v own=>v=.bool (okS p)∧own []:=by
 have h8:=p.len
 refine Ct.of Ir2 rfl fun h r=>Tr.eq (Io2 ..) ?_;refine Je ?_
 (refine Ja ?_;unhygienic intros)
 refine Tr.cond (fun h1=>?_) fun h1=>?_
 ·refine Ys fun o=>?_
  refine ⟨?_,o.sub⟩
  unfold okS;rw [h1];rfl
 (refine Ja ?_;unhygienic intros)
 refine Tr.cond (fun h2=>?_) fun h2=>?_
 ·refine Ys fun o=>?_
  refine ⟨?_,o.sub⟩
  unfold okS;rw [h1,h2];rfl
 (refine Ja ?_;unhygienic intros)
 refine Hd3 0 rfl [int p.state,int p.parent,int p.group,int p.code,int p.pending,int p.mask,int p.ignored,int p.caught] (p.fds.map int) [] (by simp [D7]) 1 8 8 8 ⟨by simp [h8],by omega,by simp,by simp [D7],by omega,by omega⟩ ?_
 refine Je ?_
 have J:=Gs3 (e:=D0) (slX false D0 1 (some ⟨b,8,none⟩) p.fds.length 8 ([int p.state,int p.parent,int p.group,int p.code,int p.pending,int p.mask,int p.ignored,int p.caught],[]) (p.fds.map int)) (some ⟨b,8,none⟩) false 8 p.fds Bp6 (fun f=>decide (f<0) || decide (f>12)) (by rw [h8];simp [A8]) Jj6
 rw [h8] at J
 refine Tr.pcall (J) ?_;refine Je ?_;(refine Ja ?_;unhygienic intros)
 refine Gf6 0 rfl (D7 p) (by simp [D7]) ?_
 refine Je ?_
 cases h3:p.fds.any fun f=>decide (f<0) || decide (f>12) with
 | true =>
  (refine Ja ?_;unhygienic intros)
  refine Ys fun o=>?_
  refine ⟨?_,o.sub⟩
  unfold okS;rw [h1,h2,h3];rfl
 | false =>
  (refine Ja ?_;unhygienic intros)
  have e:okS p=if p.state=2 then p.pending==0 && decide (p.fds=Ho3) else p.code==0:=by unfold okS;rw [h1,h2,h3];rfl
  rw [e]
  by_cases h4:p.state=2
  ·refine Yt (by simpa using h4) ?_
   rw [if_pos h4]
   (repeat' first|refine Gu ?_|(with_reducible first|refine Gn fun b h=>?_|apply Gx|apply Gy|rintro px rfl|apply Gw|refine fun(h:H)=>?_|intro hb)|refine Gs ?_|refine Gt ?_|exact Gz rfl|fail)
   rw [show ([int 0,int 0,int 0,int 0,int 0,int 0,int 0,int 0]:List Value)=Ho3.map int from rfl,eq8 _ _ h8 rfl]
   (repeat' first|refine Gu ?_|(with_reducible first|refine Gn fun b h=>?_|apply Gx|apply Gy|rintro px rfl|apply Gw|refine fun(h:H)=>?_|intro hb)|refine Gs ?_|refine Gt ?_|exact Gz rfl|fail)
   refine Ys fun o=>?_
   exact ⟨rfl,o.sub⟩
  ·refine Yf (by simpa using h4) ?_
   rw [if_neg h4]
   (refine Ja ?_;unhygienic intros)
   refine Ys fun o=>?_
   exact ⟨rfl,o.sub⟩
theorem Jm1 (a:Option Addr) (c:Nat) (cs:List Value) (j:Nat) (n:Int) (hj:j+2≤cs.length) (hm:cs.length≤A8):Ct A7 Bs0 [.slice a cs.length c,int j,int n] [slC false A5 1 a cs.length c cs] fun v own =>
  (∃ ok,v=.bool ok)∧own [slC false A5 1 a cs.length c (if 0≤n∧n≤65535 then (cs.set j (.int .u8 ((b8 (n / 256)).toNat:Int))).set (j+1) (.int .u8 ((b8 n).toNat:Int)) else cs)]:=by
 simp only [A8] at hm
 have e1:IntKind.wrap .i64 ((cs.length:Int)-2)=(cs.length:Int)-2:=by rw [B4];omega
 have e2:=wN j
 refine Ct.of H34 rfl fun h r=>Tr.eq (Hp7 ..) ?_;refine Je ?_
 rw [e1,e2]
 (refine Ja ?_;unhygienic intros)
 by_cases h:0≤n∧n≤65535
 ·refine Yf (by simp;omega) ?_
  rw [if_pos h]
  (refine Ja ?_;unhygienic intros;repeat(refine Gw ?_;rintro px rfl;refine Ja ?_;unhygienic intros))
  rw [Int.toNat_natCast,show Int.fdiv n (2 ^ 8)=n / 256 by rw [Int.fdiv_eq_ediv_of_nonneg _ (by omega)];rfl,Bs3,Bs3]
  refine Je ?_
  refine Tr.xVS (cs':=cs.set j (.int .u8 ((b8 (n / 256)).toNat:Int))) ⟨by omega,rfl,rfl⟩ fun h=>?_
  (refine Ja ?_;unhygienic intros)
  rw [Int.toNat_natCast]
  refine Je ?_
  refine Tr.xVS (cs':=(cs.set j (.int .u8 ((b8 (n / 256)).toNat:Int))).set (j+1) (.int .u8 ((b8 n).toNat:Int))) ⟨by simp;omega,rfl,rfl⟩ fun h=>?_
  refine Ys fun o=>?_
  exact ⟨⟨_,rfl⟩,o.sub⟩
 ·refine Yt (by simp;omega) ?_
  rw [if_neg h]
  refine Ys fun o=>?_
  exact ⟨⟨_,rfl⟩,o.sub⟩
theorem Eo6 (l:List UInt8) (j:Nat) (x:UInt8):(A0 l).set j (.int .u8 (x.toNat:Int))=A0 (l.set j x):=by simp [A0,List.map_set]
theorem Ex7 (a:Option Addr) (c m:Nat) (l:List UInt8) (j:Nat) (n:Int) (hm:l.length=m) (hj:j+2≤m) (h1:l[j]?=some 0) (h2:l[j+1]?=some 0) (hl:m≤A8):Ct A7 Bs0 [.slice a m c,int j,int n] [slC false A5 1 a m c (A0 l)] fun v own =>
  (∃ ok,v=.bool ok)∧own [slC false A5 1 a m c (A0 ((l.set j (hi2 n)).set (j+1) (lo2 n)))]:=by
 subst hm
 have J:=Jm1 a c (A0 l) j n (by rw [Z0];omega) (by rw [Z0];omega)
 rw [Z0] at J
 have e:(if 0≤n∧n≤65535 then ((A0 l).set j (.int .u8 ((b8 (n / 256)).toNat:Int))).set (j+1) (.int .u8 ((b8 n).toNat:Int)) else A0 l)=A0 ((l.set j (hi2 n)).set (j+1) (lo2 n)):=by
  unfold hi2 lo2
  split
  ·rw [Eo6,Eo6]
  ·rw [Gd8 h1,Gd8 h2]
 rw [e] at J
 exact J
def two (l:List UInt8) (j:Nat):Int:=byI l j*256+byI l (j+1)
theorem Jn6 (x y:UInt8):Iq2 .i64 (IntKind.wrap .i64 (IntKind.wrap .i64 (x.toNat:Int)*2 ^ 8)) (IntKind.wrap .i64 (y.toNat:Int))=(x.toNat:Int)*256+y.toNat:=by
 have hx:=x.toNat_lt;have hy:=y.toNat_lt
 have e1:IntKind.wrap .i64 (IntKind.wrap .i64 (x.toNat:Int)*2 ^ 8)=((x.toNat*256:Nat):Int):=by rw [At2,B4];omega
 rw [e1,At2]
 unfold Iq2
 have e0:IntKind.bits .i64=64:=rfl
 rw [e0,BitVec.ofInt_natCast,BitVec.ofInt_natCast,BitVec.toNat_or,BitVec.toNat_ofNat,BitVec.toNat_ofNat,Nat.mod_eq_of_lt (by omega),Nat.mod_eq_of_lt (by omega)]
 have e2:x.toNat*256 ||| y.toNat=x.toNat*256+y.toNat:=by
  have:=Nat.two_pow_add_eq_or_of_lt (i:=8) (b:=y.toNat) (by omega) x.toNat
  rw [show 2 ^ 8*x.toNat=x.toNat*256 by omega] at this
  exact this.symm
 rw [e2,B4];omega
theorem Gi5 (a:Option Addr) (c n:Nat) (l:List UInt8) (j:Nat) (hn:l.length=n) (hj:j+2≤n) (hm:n≤A8):CtP A7 Df2 [.slice a n c,int j] [slC false A5 1 a n c (A0 l)] (.tuple ⟨[int (two l j),.bool true]⟩):=by
 simp only [A8] at hm
 have e1:IntKind.wrap .i64 ((n:Int)-2)=(n:Int)-2:=by rw [B4];omega
 have e2:=wN j
 refine CtP.of Hx2 rfl fun h r=>Tr.eq (H43 ..) ?_;refine Je ?_
 rw [e1,e2]
 (refine Ja ?_;unhygienic intros)
 refine Yf (by simp;omega) ?_
 (refine Ja ?_;unhygienic intros;repeat(refine Gw ?_;rintro px rfl;refine Ja ?_;unhygienic intros))
 rw [Int.toNat_natCast]
 refine Je ?_
 refine Tr.xIntS (v:=byI l j) (Ag1 (by omega)) ?_
 (refine Ja ?_;unhygienic intros)
 rw [Int.toNat_natCast]
 refine Je ?_
 refine Tr.xIntS (v:=byI l (j+1)) (Ag1 (by omega)) ?_
 refine Ys fun o=>?_
 rw [Jn6];exact ⟨rfl,rfl⟩
theorem Jg4 (a:Option Addr) (c:Nat) (p:ProcS):Ct A7 S4 [.agg ⟨D7 p⟩,.slice a 24 c] [slC false A5 1 a 24 c (A0 (List.replicate 24 0))] fun v own=>v=.bool (okS p)∧own [slC false A5 1 a 24 c (A0 (if okS p then A30 p else List.replicate 24 0))]:=by
 refine Ct.of J9 rfl fun h r=>Tr.eq (H93 ..) ?_;refine Je ?_
 refine Yn fun b1 h=>?_
 (refine Ja ?_;intros)
 refine Yc (Jq0 p) ?_;rintro _ h ⟨rfl,o⟩<;>(refine Jf o ?_;intros)
 cases hk:okS p with
 | false =>
  (refine Ja ?_;intros)
  refine Ys fun o=>?_
  rw [if_neg (by simp)]
  exact ⟨rfl,o.sub⟩
 | true =>
  simp only [if_true]
  obtain ⟨st,pa,gr,co,pe,ma,ig,ca,fds,len⟩:=p
  match fds,len with
  | [f0,f1,f2,f3,f4,f5,f6,f7],len =>
  (refine Ja ?_;intros)
  rename_i b2 h2
  refine V5 2 rfl fun hl hc _=>?_
  simp only [List.map]
  refine Tr.jmp J9 (Tr.eq (Bc0 ..) ?_);(try simp only[Nr,Nl,wl,Nat.reduceAdd,Nat.reduceMul,Int.reduceToNat])
  (refine Jd ?_;intros;repeat(refine Gw ?_;rintro px rfl;refine Jd ?_;intros))
  refine Tr.jmp J9 (Tr.eq (Bc0 ..) ?_);(try simp only[Nr,Nl,wl,Nat.reduceAdd,Nat.reduceMul,Int.reduceToNat])
  (refine Jd ?_;intros)
  refine Tr.jmp J9 (Tr.eq (Bc0 ..) ?_);(try simp only[Nr,Nl,wl,Nat.reduceAdd,Nat.reduceMul,Int.reduceToNat])
  (refine Jd ?_;intros)
  refine Tr.jmp J9 (Tr.eq (Bc0 ..) ?_);(try simp only[Nr,Nl,wl,Nat.reduceAdd,Nat.reduceMul,Int.reduceToNat])
  (refine Jd ?_;intros)
  refine Tr.jmp J9 (Tr.eq (Bc0 ..) ?_);(try simp only[Nr,Nl,wl,Nat.reduceAdd,Nat.reduceMul,Int.reduceToNat])
  (refine Jd ?_;intros)
  simp only [Bs3,Eo6,List.replicate,List.set_cons_zero,List.set_cons_succ,Nat.mul_one]
  refine Tr.jmp J9 (Tr.eq (Be6 ..) ?_);(try simp only[Nr,Nl,wl,Nat.reduceAdd,Nat.reduceMul,Int.reduceToNat])
  (refine Jd ?_;intros)
  refine Yc (Ex7 (some px) c 24 [b8 st,b8 pa,b8 gr,b8 co,0,0,0,0,0,0,0,0,0,0,0,0,0,0,0,0,0,0,0,0] 4 pe rfl (by omega) rfl rfl (by simp [A8])) ?_;rintro _ h ⟨⟨_,rfl⟩,o⟩<;>(refine Jf o ?_;intros)
  refine Tr.jmp J9 (Tr.eq (Be6 ..) ?_);(try simp only[Nr,Nl,wl,Nat.reduceAdd,Nat.reduceMul,Int.reduceToNat])
  (refine Jd ?_;intros)
  refine Yc (Ex7 (some px) c 24 [b8 st,b8 pa,b8 gr,b8 co,hi2 pe,lo2 pe,0,0,0,0,0,0,0,0,0,0,0,0,0,0,0,0,0,0] 6 ma rfl (by omega) rfl rfl (by simp [A8])) ?_;rintro _ h ⟨⟨_,rfl⟩,o⟩<;>(refine Jf o ?_;intros)
  refine Tr.jmp J9 (Tr.eq (Be6 ..) ?_);(try simp only[Nr,Nl,wl,Nat.reduceAdd,Nat.reduceMul,Int.reduceToNat])
  (refine Jd ?_;intros)
  refine Yc (Ex7 (some px) c 24 [b8 st,b8 pa,b8 gr,b8 co,hi2 pe,lo2 pe,hi2 ma,lo2 ma,0,0,0,0,0,0,0,0,0,0,0,0,0,0,0,0] 8 ig rfl (by omega) rfl rfl (by simp [A8])) ?_;rintro _ h ⟨⟨_,rfl⟩,o⟩<;>(refine Jf o ?_;intros)
  refine Tr.jmp J9 (Tr.eq (Be6 ..) ?_);(try simp only[Nr,Nl,wl,Nat.reduceAdd,Nat.reduceMul,Int.reduceToNat])
  (refine Jd ?_;intros)
  refine Yc (Ex7 (some px) c 24 [b8 st,b8 pa,b8 gr,b8 co,hi2 pe,lo2 pe,hi2 ma,lo2 ma,hi2 ig,lo2 ig,0,0,0,0,0,0,0,0,0,0,0,0,0,0] 10 ca rfl (by omega) rfl rfl (by simp [A8])) ?_;rintro _ h ⟨⟨_,rfl⟩,o⟩<;>(refine Jf o ?_;intros)
  refine Tr.jmp J9 (Tr.eq (Be6 ..) ?_);(try simp only[Nr,Nl,wl,Nat.reduceAdd,Nat.reduceMul,Int.reduceToNat])
  (refine Jd ?_;intros)
  refine Tr.jmp J9 (Tr.eq (Ac7 ..) ?_);(try simp only[Nr,Nl,wl,Nat.reduceAdd,Nat.reduceMul,Int.reduceToNat])
  (refine Jd ?_;intros)
  refine Tr.jmp J9 (Tr.eq (Ac7 ..) ?_);(try simp only[Nr,Nl,wl,Nat.reduceAdd,Nat.reduceMul,Int.reduceToNat])
  (refine Jd ?_;intros)
  refine Tr.jmp J9 (Tr.eq (Ac7 ..) ?_);(try simp only[Nr,Nl,wl,Nat.reduceAdd,Nat.reduceMul,Int.reduceToNat])
  (refine Jd ?_;intros)
  refine Tr.jmp J9 (Tr.eq (Ac7 ..) ?_);(try simp only[Nr,Nl,wl,Nat.reduceAdd,Nat.reduceMul,Int.reduceToNat])
  (refine Jd ?_;intros)
  refine Tr.jmp J9 (Tr.eq (Ac7 ..) ?_);(try simp only[Nr,Nl,wl,Nat.reduceAdd,Nat.reduceMul,Int.reduceToNat])
  (refine Jd ?_;intros)
  refine Tr.jmp J9 (Tr.eq (Ac7 ..) ?_);(try simp only[Nr,Nl,wl,Nat.reduceAdd,Nat.reduceMul,Int.reduceToNat])
  (refine Jd ?_;intros)
  refine Tr.jmp J9 (Tr.eq (Ac7 ..) ?_);(try simp only[Nr,Nl,wl,Nat.reduceAdd,Nat.reduceMul,Int.reduceToNat])
  (refine Jd ?_;intros)
  refine Tr.jmp J9 (Tr.eq (Ac7 ..) ?_);(try simp only[Nr,Nl,wl,Nat.reduceAdd,Nat.reduceMul,Int.reduceToNat])
  (refine Jd ?_;intros)
  refine Tr.jmp J9 (Tr.eq (Ac7 ..) ?_);(try simp only[Nr,Nl,wl,Nat.reduceAdd,Nat.reduceMul,Int.reduceToNat])
  (refine Jd ?_;intros)
  simp only [Bs3,Eo6,List.set_cons_zero,List.set_cons_succ,Nat.mul_one]
  rw [show (.int .u8 167:Value)=.int .u8 ((167:UInt8).toNat:Int) from rfl,Eo6]
  simp only [List.set_cons_zero,List.set_cons_succ]
  refine Tr.pcall (G03 (slC false A5 1 (some px) 24 c (A0 [b8 st,b8 pa,b8 gr,b8 co,hi2 pe,lo2 pe,hi2 ma,lo2 ma,hi2 ig,lo2 ig,hi2 ca,lo2 ca,b8 f0,b8 f1,b8 f2,b8 f3,b8 f4,b8 f5,b8 f6,b8 f7,167,0,0,0])) (some px) false 24 c c [b8 st,b8 pa,b8 gr,b8 co,hi2 pe,lo2 pe,hi2 ma,lo2 ma,hi2 ig,lo2 ig,hi2 ca,lo2 ca,b8 f0,b8 f1,b8 f2,b8 f3,b8 f4,b8 f5,b8 f6,b8 f7,167,0,0,0] 21 (by simp) (by simp [A8])) ?_
  refine Je ?_
  (refine Ja ?_;intros)
  rw [D39]
  (refine Jd ?_;intros)
  refine Ys fun o=>?_
  rw [Eo6] at o
  simp only [List.set_cons_zero,List.set_cons_succ] at o
  simp only [A30,Eq5,put2,List.map,List.cons_append,List.nil_append]
  exact ⟨trivial,o.sub⟩
abbrev Gv7 (k:Nat):HP:=pt k (.cells Bz1 false [int 24,.func (.func S4) ⟨[]⟩ ⟨[]⟩,.func (.func Ab9) ⟨[]⟩ ⟨[]⟩])
theorem If4 (k:Nat) (f:ProcS):Ct A7 Aa1 [P0 k,.agg ⟨D7 f⟩] [Gv7 k] fun v own=>(okS f=true∧∃ a,v=.tuple ⟨[.slice a 24 24,.bool true]⟩∧own [Gv7 k,slC false A5 1 a 24 24 (A0 (A30 f))])∨(okS f=false∧v=.tuple ⟨[.slice none 0 0,.bool false]⟩∧own [Gv7 k]):=by
 refine Ct.of Dh1 rfl fun h r=>Tr.eq (Dg3 ..) ?_;refine Je ?_
 (refine Ja ?_;intros)
 refine Tr.ck ⟨by omega,by omega,by simp [A8]⟩ ?_
 refine Yn fun b1 h=>?_
 rw [show E7 (Int.toNat 24) [.int .u8 0]=A0 (List.replicate 24 0) from rfl]
 refine Ah3 0 rfl 1 24 rfl (by omega) ?_
 simp only [List.set_cons_zero]
 refine Je ?_
 (refine Jb ?_;intros)
 refine Yb (Yf rfl ?_)
 (refine Jb ?_;intros)
 refine Yc (Jg4 (some ⟨b1,0,none⟩) 24 f) ?_;rintro _ h ⟨rfl,o⟩<;>(refine Jg o ?_;intros)
 refine Ys fun o=>(?_:Tr _ _ _ _) o;refine Je ?_
 cases hk:okS f with
 | false =>
  (refine Ja ?_;intros)
  refine Ys fun o=>?_
  exact .inr ⟨rfl,rfl,o.sub⟩
 | true =>
  (refine Ja ?_;intros)
  refine Ys fun o=>?_
  simp only [if_true] at o
  exact .inl ⟨rfl,_,rfl,o.sub⟩
theorem Ji6:Ct A7 Ax1 [int 24,.func (.func S4) ⟨[]⟩ ⟨[]⟩,.func (.func Ab9) ⟨[]⟩ ⟨[]⟩] [] fun v own=>∃ k,v=P0 k∧own [Gv7 k]:=by
 refine Ct.of Ev6 rfl fun h r=>Tr.eq (Ex9 ..) ?_;refine Je ?_
 rw [show mm2 false (mm2 true 24 0) 64=24 from rfl]
 (refine Ja ?_;intros)
 refine Ys fun o=>?_
 exact ⟨_,rfl,o.sub⟩
theorem Hf0:Ct A7 Bl2 [] [] fun v own=>∃ k,v=P0 k∧own [Gv7 k]:=by
 refine Ct.of Hn1 rfl fun h r=>Tr.eq (Hk9 ..) ?_;refine Je ?_
 refine Yc (Ji6) ?_;rintro _ h ⟨k,rfl,o⟩<;>(refine Jf o ?_;intros)
 refine Ys fun o=>?_
 exact ⟨_,rfl,o.sub⟩
theorem G64 (f:ProcS):Ct A7 Be4 [.agg ⟨D7 f⟩] [] fun v own=>(okS f=true∧∃ a,v=.tuple ⟨[.slice a 24 24,.bool true]⟩∧own [slC false A5 1 a 24 24 (A0 (A30 f))])∨(okS f=false∧v=.tuple ⟨[.slice none 0 0,.bool false]⟩∧own []):=by
 refine Ct.of G78 rfl fun h r=>Tr.eq (G88 ..) ?_;refine Je ?_
 (refine Ja ?_;intros)
 refine Yc (Hf0) ?_;rintro _ h ⟨k,rfl,o⟩<;>(refine Jg o ?_;intros)
 refine Yc (If4 k f) ?_
 rintro v h (⟨hk,a,rfl,o⟩|⟨hk,rfl,o⟩)
 ·refine (?_:Tr _ _ _ _) o
  refine Je ?_
  (refine Ja ?_;intros)
  refine Ys fun o=>?_
  exact .inl ⟨hk,a,rfl,o.sub⟩
 ·refine (?_:Tr _ _ _ _) o
  refine Je ?_
  (refine Ja ?_;intros)
  refine Ys fun o=>?_
  exact .inr ⟨hk,rfl,o.sub⟩
def Bm7 (l:List UInt8):ProcS:=⟨byI l 0,byI l 1,byI l 2,byI l 3,two l 4,two l 6,two l 8,two l 10,[byI l 12,byI l 13,byI l 14,byI l 15,byI l 16,byI l 17,byI l 18,byI l 19],rfl⟩
def isS (l:List UInt8):Bool:=okS (Bm7 l) && decide (A30 (Bm7 l)=l)
theorem Jl9 (a:Option Addr) (c:Nat) (l:List UInt8) (hl:l.length=24):Ct A7 Ab9 [.slice a 24 c] [slC false A5 1 a 24 c (A0 l)] fun v own=>v=.tuple ⟨[.agg ⟨D7 (Bm7 l)⟩,.bool (isS l)]⟩∧own [slC false A5 1 a 24 c (A0 l)]:=by
 have key:∀ a1:Option Addr,CtP A7 D4 [.slice a1 24 24,.slice a 24 c] [slC false A5 1 a1 24 24 (A0 (A30 (Bm7 l))),slC false A5 1 a 24 c (A0 l)] (.bool (decide (A30 (Bm7 l)=l))):=fun a1=>by
  have e:=Ew0 (Bm7 l)
  have J:=E49 (slC false A5 1 a1 (A30 (Bm7 l)).length 24 (A0 (A30 (Bm7 l)))) (slC false A5 1 a l.length c (A0 l)) a1 false 24 a false c (A30 (Bm7 l)) l (by rw [e];simp [A8])
  rwa [hl,e] at J
 refine Ct.of Q9 rfl fun h r=>Tr.eq (H76 ..) ?_;refine Je ?_
 refine Yn fun b1 h=>?_
 refine V5 1 rfl fun hl2 hc2 _=>?_
 (refine Ja ?_;intros;repeat(refine Gw ?_;rintro px rfl;refine Ja ?_;intros))
 refine Tr.xIntS (v:=byI l 0) (Ag1 (by omega)) ?_
 (refine Ja ?_;intros)
 refine Tr.xIntS (v:=byI l 1) (Ag1 (by omega)) ?_
 (refine Ja ?_;intros)
 refine Tr.xIntS (v:=byI l 2) (Ag1 (by omega)) ?_
 (refine Ja ?_;intros)
 refine Tr.xIntS (v:=byI l 3) (Ag1 (by omega)) ?_
 (refine Ja ?_;intros)
 simp only [byI,At2]
 refine Tr.jmp Q9 (Tr.eq (Bd1 ..) ?_);(try simp only[Nr,Nl,wl,Nat.reduceAdd,Nat.reduceMul,Int.reduceToNat])
 (refine Jd ?_;intros)
 refine Tr.pcall (Gi5 (some px) c 24 l 4 hl (by omega) (by simp [A8])) ?_;refine Je ?_;(refine Ja ?_;intros)
 refine Tr.jmp Q9 (Tr.eq (Bd1 ..) ?_);(try simp only[Nr,Nl,wl,Nat.reduceAdd,Nat.reduceMul,Int.reduceToNat])
 (refine Jd ?_;intros)
 refine Tr.pcall (Gi5 (some px) c 24 l 6 hl (by omega) (by simp [A8])) ?_;refine Je ?_;(refine Ja ?_;intros)
 refine Tr.jmp Q9 (Tr.eq (Bd1 ..) ?_);(try simp only[Nr,Nl,wl,Nat.reduceAdd,Nat.reduceMul,Int.reduceToNat])
 (refine Jd ?_;intros)
 refine Tr.pcall (Gi5 (some px) c 24 l 8 hl (by omega) (by simp [A8])) ?_;refine Je ?_;(refine Ja ?_;intros)
 refine Tr.jmp Q9 (Tr.eq (Bd1 ..) ?_);(try simp only[Nr,Nl,wl,Nat.reduceAdd,Nat.reduceMul,Int.reduceToNat])
 (refine Jd ?_;intros)
 refine Tr.pcall (Gi5 (some px) c 24 l 10 hl (by omega) (by simp [A8])) ?_;refine Je ?_;(refine Ja ?_;intros)
 refine Tr.jmp Q9 (Tr.eq (Bd1 ..) ?_);(try simp only[Nr,Nl,wl,Nat.reduceAdd,Nat.reduceMul,Int.reduceToNat])
 (refine Jd ?_;intros)
 refine Tr.jmp Q9 (Tr.eq (Ac6 ..) ?_);(try simp only[Nr,Nl,wl,Nat.reduceAdd,Nat.reduceMul,Int.reduceToNat])
 (refine Jd ?_;intros)
 refine Tr.xIntS (v:=byI l 12) (Ag1 (by omega)) ?_
 (refine Jd ?_;intros)
 simp only [byI,At2]
 refine Tr.jmp Q9 (Tr.eq (Ac6 ..) ?_);(try simp only[Nr,Nl,wl,Nat.reduceAdd,Nat.reduceMul,Int.reduceToNat])
 (refine Jd ?_;intros)
 refine Tr.xIntS (v:=byI l 13) (Ag1 (by omega)) ?_
 (refine Jd ?_;intros)
 simp only [byI,At2]
 refine Tr.jmp Q9 (Tr.eq (Ac6 ..) ?_);(try simp only[Nr,Nl,wl,Nat.reduceAdd,Nat.reduceMul,Int.reduceToNat])
 (refine Jd ?_;intros)
 refine Tr.xIntS (v:=byI l 14) (Ag1 (by omega)) ?_
 (refine Jd ?_;intros)
 simp only [byI,At2]
 refine Tr.jmp Q9 (Tr.eq (Ac6 ..) ?_);(try simp only[Nr,Nl,wl,Nat.reduceAdd,Nat.reduceMul,Int.reduceToNat])
 (refine Jd ?_;intros)
 refine Tr.xIntS (v:=byI l 15) (Ag1 (by omega)) ?_
 (refine Jd ?_;intros)
 simp only [byI,At2]
 refine Tr.jmp Q9 (Tr.eq (Ac6 ..) ?_);(try simp only[Nr,Nl,wl,Nat.reduceAdd,Nat.reduceMul,Int.reduceToNat])
 (refine Jd ?_;intros)
 refine Tr.xIntS (v:=byI l 16) (Ag1 (by omega)) ?_
 (refine Jd ?_;intros)
 simp only [byI,At2]
 refine Tr.jmp Q9 (Tr.eq (Ac6 ..) ?_);(try simp only[Nr,Nl,wl,Nat.reduceAdd,Nat.reduceMul,Int.reduceToNat])
 (refine Jd ?_;intros)
 refine Tr.xIntS (v:=byI l 17) (Ag1 (by omega)) ?_
 (refine Jd ?_;intros)
 simp only [byI,At2]
 refine Tr.jmp Q9 (Tr.eq (Ac6 ..) ?_);(try simp only[Nr,Nl,wl,Nat.reduceAdd,Nat.reduceMul,Int.reduceToNat])
 (refine Jd ?_;intros)
 refine Tr.xIntS (v:=byI l 18) (Ag1 (by omega)) ?_
 (refine Jd ?_;intros)
 simp only [byI,At2]
 refine Tr.jmp Q9 (Tr.eq (Ac6 ..) ?_);(try simp only[Nr,Nl,wl,Nat.reduceAdd,Nat.reduceMul,Int.reduceToNat])
 (refine Jd ?_;intros)
 refine Tr.xIntS (v:=byI l 19) (Ag1 (by omega)) ?_
 (refine Jd ?_;intros)
 simp only [byI,At2]
 refine Tr.jmp Q9 (Tr.eq (Ac6 ..) ?_);(try simp only[Nr,Nl,wl,Nat.reduceAdd,Nat.reduceMul,Int.reduceToNat])
 refine Yf rfl ?_
 refine Tr.xAgg (xs:=D7 (Bm7 l)) ⟨Nat.le_of_ble_eq_true rfl,rfl⟩ ?_
 refine Yc (G64 (Bm7 l)) ?_
 rintro v h (⟨hk,a1,rfl,o⟩|⟨hk,rfl,o⟩)
 ·refine (?_:Tr _ _ _ _) o
  refine Je ?_
  refine Tr.dx ?_
  refine Tr.dx ?_
  refine Tr.dx ?_
  refine Tr.xAgg (xs:=D7 (Bm7 l)) ⟨Nat.le_of_ble_eq_true rfl,rfl⟩ ?_
  refine Yb (Yt rfl ?_)
  refine Tr.pcall (key a1) ?_
  refine Tr.dx ?_
  refine Tr.xAgg (xs:=D7 (Bm7 l)) ⟨Nat.le_of_ble_eq_true rfl,rfl⟩ ?_
  (refine Ja ?_;intros)
  refine Ys fun o=>(?_:Tr _ _ _ _) o;refine Je ?_
  (refine Ja ?_;intros)
  refine Ys fun o=>?_
  exact ⟨by unfold isS;rw [hk,Bool.true_and],o.sub⟩
 ·refine (?_:Tr _ _ _ _) o
  refine Je ?_
  refine Tr.dx ?_
  refine Tr.dx ?_
  refine Tr.dx ?_
  refine Tr.xAgg (xs:=D7 (Bm7 l)) ⟨Nat.le_of_ble_eq_true rfl,rfl⟩ ?_
  (refine Ja ?_;intros)
  refine Ys fun o=>?_
  exact ⟨by unfold isS;rw [hk];rfl,o.sub⟩
theorem H38 (k:Nat) (pb:HP) (ro:Bool) (a:Option Addr) (c:Nat) (l:List UInt8) (hl:l.length=24) [ks:IsSl pb a ro A5 1 24 c (A0 l)]:Ct A7 Aa5 [P0 k,.slice a 24 c] [Gv7 k,pb] fun v own=>v=.tuple ⟨[.agg ⟨D7 (if isS l then Bm7 l else .zero)⟩,.bool (isS l)]⟩∧own [Gv7 k,pb]:=by
 refine Ct.of Dg7 rfl fun h r=>Tr.eq (Dh2 ..) ?_;refine Je ?_
 (refine Ja ?_;intros)
 refine Yf rfl ?_
 (refine Jb ?_;intros)
 refine Yc (Ew5 24 pb ro a c l hl (by simp [A8])) ?_;rintro _ h ⟨a1,c1,rfl,o⟩<;>(refine Jg o ?_;intros)
 refine Yc (Jl9 a1 c1 l hl) ?_;rintro _ h ⟨rfl,o⟩<;>(refine Jg o ?_;intros)
 cases hk:isS l with
 | false =>
  (refine Ja ?_;intros)
  refine Ys fun o=>?_
  exact ⟨rfl,o.sub⟩
 | true =>
  (refine Ja ?_;intros)
  refine Ys fun o=>?_
  exact ⟨rfl,o.sub⟩
def Ac0 (l:List UInt8):ProcS × Int:=if l.all (·==0) then (.zero,0) else if isS l then (Bm7 l,1) else (.zero,2)
theorem Id5 (pb:HP) (ro:Bool) (a:Option Addr) (c:Nat) (l:List UInt8) (hl:l.length=24) [ks:IsSl pb a ro A5 1 24 c (A0 l)]:Ct A7 Ay6 [.slice a 24 c] [pb] fun v own=>v=.tuple ⟨[.agg ⟨D7 (Ac0 l).1⟩,int (Ac0 l).2]⟩∧own [pb]:=by
 refine Ct.of Hc4 rfl fun h r=>Tr.eq (G76 ..) ?_;refine Je ?_
 refine Yn fun b1 h=>?_
 refine Yb (Yt rfl ?_)
 refine Tr.pcall (Ex8 24 pb ro a c l hl (by simp [A8])) ?_;refine Je ?_;(refine Jb ?_;intros)
 refine Ys fun o=>(?_:Tr _ _ _ _) o;refine Je ?_
 cases hb:l.all (·==0) with
 | true =>
  (refine Ja ?_;intros)
  refine Ys fun o=>?_
  exact ⟨by unfold Ac0;rw [hb];rfl,o.sub⟩
 | false =>
  (refine Jb ?_;intros)
  refine Yc (Hf0) ?_;rintro _ h ⟨k,rfl,o⟩<;>(refine Jg o ?_;intros)
  refine Yc (H38 k pb ro a c l hl) ?_;rintro _ h ⟨rfl,o⟩<;>(refine Jg o ?_;intros)
  cases hk:isS l with
  | false =>
   (refine Ja ?_;intros)
   refine Ys fun o=>?_
   exact ⟨by unfold Ac0;rw [hb,hk];rfl,o.sub⟩
  | true =>
   (refine Ja ?_;intros)
   refine Ys fun o=>?_
   exact ⟨by unfold Ac0;rw [hb,hk];rfl,o.sub⟩
theorem Ik0 (a:Option Addr) (c:Nat) (l:List UInt8) (hl:l.length=24):Ct A7 Ay6 [.slice a 24 c] [slC false A5 1 a 24 c (A0 l)] fun v own=>v=.tuple ⟨[.agg ⟨D7 (Ac0 l).1⟩,int (Ac0 l).2]⟩∧own [slC false A5 1 a 24 c (A0 l)]:=Id5 (slC false A5 1 a 24 c (A0 l)) false a c l hl
def O7 (l:List UInt8) (a:Nat) (b:List UInt8):List UInt8:=l.take a++b++l.drop (a+b.length)
theorem Ak4 {l b:List UInt8} {a:Nat} (h:a+b.length≤l.length):(O7 l a b).length=l.length:=by simp [O7];omega
theorem Bv5 {l b:List UInt8} {a:Nat} (h:a+b.length≤l.length) (i:Nat):(O7 l a b)[i]?=if a≤i∧i<a+b.length then b[i-a]? else l[i]?:=by
 unfold O7
 by_cases h1:i<a
 ·rw [if_neg (by omega),List.append_assoc,List.getElem?_append_left (by simp;omega),List.getElem?_take,if_pos h1]
 ·rw [List.append_assoc,List.getElem?_append_right (by simp;omega),List.length_take,Nat.min_eq_left (by omega)]
  by_cases h2:i<a+b.length
  ·rw [if_pos ⟨by omega,h2⟩,List.getElem?_append_left (by omega)]
  ·rw [if_neg (by omega),List.getElem?_append_right (by omega),List.getElem?_drop];congr 1;omega
def slice (l:List UInt8) (a n:Nat):List UInt8:=(l.drop a).take n
theorem B72 (l:List UInt8) (a n i:Nat):(slice l a n)[i]?=if i<n then l[a+i]? else none:=by
 unfold slice;rw [List.getElem?_take];split
 ·rw [List.getElem?_drop]
 ·rfl
theorem Hj9 {l:List UInt8} {a n:Nat} (h:a+n≤l.length):(slice l a n).length=n:=by simp [slice];omega
abbrev Rg:=List (Nat × Nat)
def V4:List UInt8→Rg→List (List UInt8)→List UInt8
 | l,(lo,_)::rg,x::m=>V4 (O7 l lo x) rg m
 | l,_,_=>l
structure Fit (size:Nat) (rg:Rg) (m:List (List UInt8)):Prop where
 len:m.length=rg.length
 each:∀ (j lo n:Nat),rg[j]?=some (lo,n)→lo+n≤size∧∃ x,m[j]?=some x∧x.length=n
def RgOk (rg:Rg):Prop:=∀ (i j lo n lo' n':Nat),i≠j→rg[i]?=some (lo,n)→rg[j]?=some (lo',n')→lo+n≤lo'∨lo'+n'≤lo
theorem Fit.tail {size:Nat} {p:Nat × Nat} {rg:Rg} {x:List UInt8} {m:List (List UInt8)} (f:Fit size (p::rg) (x::m)):Fit size rg m:=⟨by simpa using f.len,fun j lo n h=>by simpa using f.each (j+1) lo n (by simpa using h)⟩
theorem Fit.head {size lo n:Nat} {rg:Rg} {x:List UInt8} {m:List (List UInt8)} (f:Fit size ((lo,n)::rg) (x::m)):lo+n≤size∧x.length=n:=by
 obtain ⟨h,y,hy,hl⟩:=f.each 0 lo n rfl
 simp at hy;subst hy;exact ⟨h,hl⟩
theorem RgOk.tail {p:Nat × Nat} {rg:Rg} (k:RgOk (p::rg)):RgOk rg:=fun i j lo n lo' n' hij hi hj=>k (i+1) (j+1) lo n lo' n' (by omega) (by simpa using hi) (by simpa using hj)
theorem B43:∀ {rg:Rg} {m:List (List UInt8)} {l:List UInt8},Fit l.length rg m→(V4 l rg m).length=l.length
 | [],m,l,f=>by simp [V4]
 | (lo,n)::rg,[],l,f=>by simp [V4]
 | (lo,n)::rg,x::m,l,f=>by
  have h:=f.head
  have e:=Ak4 (l:=l) (b:=x) (a:=lo) (by omega)
  unfold V4
  rw [B43 (by rw [e];exact f.tail),e]
theorem D87:∀ {rg:Rg} {m:List (List UInt8)} {l:List UInt8},Fit l.length rg m→∀ i,(∀ (j lo n:Nat),rg[j]?=some (lo,n)→i<lo∨lo+n≤i)→(V4 l rg m)[i]?=l[i]?
 | [],m,l,f,i,h=>by simp [V4]
 | (lo,n)::rg,[],l,f,i,h=>by simp [V4]
 | (lo,n)::rg,x::m,l,f,i,h=>by
  have h0:=f.head
  have e:=Ak4 (l:=l) (b:=x) (a:=lo) (by omega)
  unfold V4
  rw [D87 (by rw [e];exact f.tail) i (fun j lo' n' hj=>h (j+1) lo' n' (by simpa using hj)),Bv5 (by omega),if_neg]
  have:=h 0 lo n rfl;omega
theorem Di8:∀ {rg:Rg} {m:List (List UInt8)} {l:List UInt8},Fit l.length rg m→RgOk rg→∀ (j lo n:Nat) (x:List UInt8),rg[j]?=some (lo,n)→m[j]?=some x→∀ i,i<n→(V4 l rg m)[lo+i]?=x[i]?
 | [],m,l,f,k,j,lo,n,x,h,hx,i,hi=>by simp at h
 | (lo0,n0)::rg,[],l,f,k,j,lo,n,x,h,hx,i,hi=>by simp at hx
 | (lo0,n0)::rg,x0::m,l,f,k,j,lo,n,x,h,hx,i,hi=>by
  have h0:=f.head
  have e:=Ak4 (l:=l) (b:=x0) (a:=lo0) (by omega)
  unfold V4
  cases j with
  | zero =>
   simp at h hx
   obtain ⟨rfl,rfl⟩:=h;subst hx
   rw [D87 (by rw [e];exact f.tail) (lo0+i) (fun j lo' n' hj=>by
    have:=k 0 (j+1) lo0 n0 lo' n' (by omega) rfl (by simpa using hj)
    omega),Bv5 (by omega),if_pos (by omega)]
   congr 1;omega
  | succ j=>exact Di8 (by rw [e];exact f.tail) k.tail j lo n x (by simpa using h) (by simpa using hx) i hi
theorem Gy5 {rg:Rg} {m:List (List UInt8)} {l:List UInt8} (f:Fit l.length rg m) (k:RgOk rg) {j lo n:Nat} {x:List UInt8} (h:rg[j]?=some (lo,n)) (hx:m[j]?=some x) {a c:Nat} (hc:a+c≤n):slice (V4 l rg m) (lo+a) c=slice x a c:=by
 refine List.ext_getElem? fun i=>?_
 rw [B72,B72]
 split
 ·rw [Nat.add_assoc,Di8 f k j lo n x h hx (a+i) (by omega)]
 ·rfl
theorem Fit.set {size:Nat} {rg:Rg} {m:List (List UInt8)} (f:Fit size rg m) {j lo n:Nat} (h:rg[j]?=some (lo,n)) {y:List UInt8} (hy:y.length=n):Fit size rg (m.set j y):=⟨by simpa using f.len,fun i lo' n' hi=>by
 obtain ⟨h1,z,hz,hl⟩:=f.each i lo' n' hi
 refine ⟨h1,?_⟩
 by_cases hij:j=i
 ·subst hij
  rw [h] at hi;cases hi
  exact ⟨y,by simp [(List.getElem?_eq_some_iff.1 hz).1],hy⟩
 ·exact ⟨z,by rw [List.getElem?_set_ne hij];exact hz,hl⟩⟩
theorem Ie6 {rg:Rg} {m:List (List UInt8)} {l:List UInt8} (f:Fit l.length rg m) (k:RgOk rg) {j lo n:Nat} {x:List UInt8} (h:rg[j]?=some (lo,n)) (hx:m[j]?=some x) {a:Nat} {b:List UInt8} (hc:a+b.length≤n):O7 (V4 l rg m) (lo+a) b=V4 l rg (m.set j (O7 x a b)):=by
 obtain ⟨h1,y,hy,hl⟩:=f.each j lo n h
 rw [hx] at hy;cases hy
 have e:=Ak4 (l:=x) (b:=b) (a:=a) (by omega)
 have f2:=f.set h (y:=O7 x a b) (by omega)
 have lp:=B43 f
 refine List.ext_getElem? fun i=>?_
 rw [Bv5 (by omega)]
 by_cases hi:lo≤i∧i<lo+n
 ·obtain ⟨i',rfl⟩:∃ i',i=lo+i':=⟨i-lo,by omega⟩
  rw [Di8 f2 k j lo n (O7 x a b) h (by simp [(List.getElem?_eq_some_iff.1 hx).1]) i' (by omega),Bv5 (by omega),Di8 f k j lo n x h hx i' (by omega)]
  by_cases h2:a≤i'∧i'<a+b.length
  ·rw [if_pos (by omega),if_pos h2];congr 1;omega
  ·rw [if_neg (by omega),if_neg h2]
 ·rw [if_neg (by omega)]
  by_cases ho:∃ (j' lo' n':Nat),rg[j']?=some (lo',n')∧lo'≤i∧i<lo'+n'
  ·obtain ⟨j',lo',n',hj',h3,h4⟩:=ho
   have hne:j≠j':=fun e=>by subst e;rw [h] at hj';cases hj';omega
   obtain ⟨_,z,hz,_⟩:=f.each j' lo' n' hj'
   obtain ⟨i',rfl⟩:∃ i',i=lo'+i':=⟨i-lo',by omega⟩
   rw [Di8 f k j' lo' n' z hj' hz i' (by omega),Di8 f2 k j' lo' n' z hj' (by rw [List.getElem?_set_ne hne];exact hz) i' (by omega)]
  ·have hall:∀ (j' lo' n':Nat),rg[j']?=some (lo',n')→i<lo'∨lo'+n'≤i:=fun j' lo' n' hj'=>by
    by_cases hh:lo'≤i∧i<lo'+n'
    ·exact absurd ⟨j',lo',n',hj',hh.1,hh.2⟩ ho
    ·omega
   rw [D87 f i hall,D87 f2 i hall]
structure RecS where
 kind:Int
 index:Int
deriving DecidableEq
abbrev Ad1 (r:RecS):List Value:=[int r.kind,int r.index]
structure Fr where
 S:KS
 N:Nat
 env:Int
 caps:List Int
 rg:Rg
structure FrOk (F:Fr):Prop where
 ok:KOk F.N F.S
 hN:F.N+1<1000000000
 ne:0<F.caps.length
 small:F.caps.length≤40
 len:F.rg.length=F.caps.length
 env:¬ (F.env<0∨F.env≥(F.S.envs.length:Int))
 pl:∀ (j:Nat) (cap:Int) (lo n:Nat),F.caps[j]?=some cap→F.rg[j]?=some (lo,n)→∀ (a m:Nat) (right:Int),right=1∨right=2→a+m≤n→S8 F.S.tabs F.S.regs F.env cap right a m=(((lo+a:Nat):Int),0)
 dj:RgOk F.rg
 own:∃ lo,F.rg[0]?=some (lo,492)
 brs:∀ (j lo n:Nat),0<j→F.rg[j]?=some (lo,n)→n=40
def Fr.at (F:Fr) (m:List (List UInt8)):KS:=L5 F.S (V4 F.S.mem F.rg m)
structure CX where
 m:List (List UInt8)
 bad:List RecS
def Al9:Nat→List RecS→List MapEntry
 | _,[]=>[]
 | i,r::l=>{ key:=.agg ⟨Ad1 r⟩,val:=int 1,born:=i }::Al9 (i+1) l
abbrev Jp9 (c k:Nat) (env:Int) (caps:List Int) (bad:List RecS) (x:Option Addr × Nat × Nat):List HP :=
 [pt c (.cells Dw8 false [P0 k,int env,.slice x.1 caps.length x.2.1,.map (some x.2.2)]),slC false B5 1 x.1 caps.length x.2.1 (caps.map int),pt x.2.2 (.map (Al9 0 bad) bad.length)]
def W3 (c k:Nat) (env:Int) (caps:List Int) (bad:List RecS):HP:=hex fun x=>sl (Jp9 c k env caps bad x)
instance {c k:Nat} {env:Int} {caps:List Int} {bad:List RecS}:Chk (W3 c k env caps bad) (Jp9 c k env caps bad):=⟨rfl⟩
abbrev cmF (c k:Nat) (F:Fr) (x:CX):List HP:=[D6 k (F.at x.m),W3 c k F.env F.caps x.bad,pu (Fit F.S.mem.length F.rg x.m)]
def cmC (c k:Nat) (F:Fr) (x:CX):HP:=hex fun _:Unit=>sl (cmF c k F x)
instance {c k:Nat} {F:Fr} {x:CX}:Chk (cmC c k F x) (fun _:Unit=>cmF c k F x):=⟨rfl⟩
def Y7 (nc:Nat) (kind:Int):Int:=if kind=1 then 8 else if kind=2 then 12 else if kind=3 then 3+nc else 1
def I8 (nc:Nat) (r:RecS):Option (Nat × Nat × Nat) :=
 if r.index<0∨r.index≥Y7 nc r.kind then none
 else if r.kind=1 then some (0,24*r.index.toNat,24)
 else if r.kind=2 then some (0,192+8*r.index.toNat,8)
 else if r.kind=3 then if r.index<4 then some (0,288+40*r.index.toNat,40) else some (r.index.toNat-3,0,40)
 else if r.kind=4 then some (0,448,40)
 else some (0,488,4)
def H37 (caps:List Int):Option (Nat × Nat × Nat)→List Value
 | some (j,a,n)=>[int (caps.getD j 0),int a,int n]
 | none=>[int 0,int 0,int 0]
theorem H01 (c k:Nat) (env:Int) (caps:List Int) (bad:List RecS) (kind:Int) (hs:caps.length≤40):CtP A7 Af1 [P0 c,int kind] [W3 c k env caps bad] (int (Y7 caps.length kind)):=by
 have e:IntKind.wrap .i64 (IntKind.wrap .i64 (4+(caps.length:Int))-1)=3+(caps.length:Int):=by rw [B4,B4];omega
 refine CtP.of Eh2 rfl fun h r=>Tr.eq (Eh4 ..) ?_;refine Je ?_
 refine B1 (W3 c k env caps bad) fun ⟨a,n,mb⟩=>?_;refine Je ?_
 unfold Y7
 by_cases h1:kind=1
 ·refine Yt (by simpa using h1) ?_
  rw [if_pos h1];exact Jz
 refine Yf (by simpa using h1) ?_
 rw [if_neg h1]
 by_cases h2:kind=2
 ·refine Yt (by simpa using h2) ?_
  rw [if_pos h2];exact Jz
 refine Yf (by simpa using h2) ?_
 rw [if_neg h2]
 by_cases h3:kind=3
 ·refine Yt (by simpa using h3) ?_
  rw [if_pos h3];(refine Ja ?_;intros)
  refine Ys fun o=>?_
  rw [e];exact ⟨by first|rfl|trivial,by first|rfl|trivial⟩
 refine Yf (by simpa using h3) ?_
 rw [if_neg h3];exact Jz
theorem Ge3 (c k:Nat) (env:Int) (caps:List Int) (bad:List RecS) (rc:RecS) (hs:caps.length≤40) (hn:0<caps.length):Ct A7 V8 [P0 c,.agg ⟨Ad1 rc⟩] [W3 c k env caps bad] fun v own =>
  v=.tuple ⟨[.agg ⟨H37 caps (I8 caps.length rc)⟩,.bool (I8 caps.length rc).isSome]⟩∧own [W3 c k env caps bad]:=by
 have hg:∀ j,j<caps.length→(caps.map int)[j]?=some (int (caps.getD j 0)):=fun j hj=>by rw [List.getElem?_map,Q6 0 hj];rfl
 refine Ct.of Ea4 rfl fun h r=>Tr.eq (Ea5 ..) ?_;refine Je ?_
 (refine Jb ?_;intros)
 refine Tr.orG (c:=decide (rc.index≥Y7 caps.length rc.kind)) (fun hb=>?_) ?_
 ·(refine Ja ?_;intros)
  refine Tr.pcall (H01 c k env caps bad rc.kind hs) ?_;refine Je ?_;exact Jz
 by_cases hi:rc.index<0∨rc.index≥Y7 caps.length rc.kind
 ·refine Yt (by simp only [Bool.or_eq_true,decide_eq_true_eq];exact hi) ?_
  have e:I8 caps.length rc=none:=by unfold I8;rw [if_pos hi]
  rw [e]
  (refine Ja ?_;intros)
  refine Ys fun o=>?_
  exact ⟨rfl,o.sub⟩
 refine Yf (by simp only [Bool.or_eq_false_iff,decide_eq_false_iff_not];omega) ?_
 refine B1 (W3 c k env caps bad) fun ⟨a,n,mb⟩=>?_;refine Je ?_
 (refine Ja ?_;intros;repeat(refine Gw ?_;rintro px rfl;refine Ja ?_;intros))
 refine Tr.xIntS (v:=caps.getD 0 0) (hg 0 hn) ?_
 (refine Ja ?_;intros)
 by_cases h1:rc.kind=1
 ·refine Yt (by simpa using h1) ?_
  have e:I8 caps.length rc=some (0,24*rc.index.toNat,24):=by unfold I8;rw [if_neg hi,if_pos h1]
  have hm:Y7 caps.length rc.kind=8:=by unfold Y7;rw [if_pos h1]
  have e1:IntKind.wrap .i64 (24*rc.index)=((24*rc.index.toNat:Nat):Int):=by rw [B4];omega
  rw [e,e1]
  (refine Ja ?_;intros)
  refine A9 (W3 c k env caps bad) ⟨some px,n,mb⟩ ?_;refine Je ?_
  refine Ys fun o=>?_
  exact ⟨rfl,o.sub⟩
 refine Yf (by simpa using h1) ?_
 by_cases h2:rc.kind=2
 ·(refine Ja ?_;intros)
  refine Yt (by simpa using h2) ?_
  have e:I8 caps.length rc=some (0,192+8*rc.index.toNat,8):=by unfold I8;rw [if_neg hi,if_neg h1,if_pos h2]
  have hm:Y7 caps.length rc.kind=12:=by unfold Y7;rw [if_neg h1,if_pos h2]
  have e1:IntKind.wrap .i64 (192+IntKind.wrap .i64 (8*rc.index))=((192+8*rc.index.toNat:Nat):Int):=by rw [B4,B4];omega
  rw [e,e1]
  (refine Ja ?_;intros)
  refine A9 (W3 c k env caps bad) ⟨some px,n,mb⟩ ?_;refine Je ?_
  refine Ys fun o=>?_
  exact ⟨rfl,o.sub⟩
 (refine Ja ?_;intros)
 refine Yf (by simpa using h2) ?_
 (refine Jb ?_;intros)
 refine Tr.andG (c:=decide (rc.index<4)) (fun hb=>?_) ?_
 ·exact Jz
 by_cases h3:rc.kind=3
 ·have hm:Y7 caps.length rc.kind=3+caps.length:=by unfold Y7;rw [if_neg h1,if_neg h2,if_pos h3]
  by_cases h4:rc.index<4
  ·refine Yt (by simp [h3,h4]) ?_
   have e:I8 caps.length rc=some (0,288+40*rc.index.toNat,40):=by unfold I8;rw [if_neg hi,if_neg h1,if_neg h2,if_pos h3,if_pos h4]
   have e1:IntKind.wrap .i64 (288+IntKind.wrap .i64 (40*rc.index))=((288+40*rc.index.toNat:Nat):Int):=by rw [B4,B4];omega
   rw [e,e1]
   (refine Ja ?_;intros)
   refine A9 (W3 c k env caps bad) ⟨some px,n,mb⟩ ?_;refine Je ?_
   refine Ys fun o=>?_
   exact ⟨rfl,o.sub⟩
  ·refine Yf (by simp [h4]) ?_
   have e:I8 caps.length rc=some (rc.index.toNat-3,0,40):=by unfold I8;rw [if_neg hi,if_neg h1,if_neg h2,if_pos h3,if_neg h4]
   have e1:IntKind.wrap .i64 (IntKind.wrap .i64 (rc.index-4)+1)=((rc.index.toNat-3:Nat):Int):=by rw [B4,B4];omega
   rw [e,e1]
   (refine Ja ?_;intros)
   refine Yt (by simpa using h3) ?_
   (refine Ja ?_;intros)
   rw [Int.toNat_natCast]
   refine Je ?_
   refine Tr.xIntS (v:=caps.getD (rc.index.toNat-3) 0) (hg _ (by omega)) ?_
   (refine Ja ?_;intros)
   refine A9 (W3 c k env caps bad) ⟨some px,n,mb⟩ ?_;refine Je ?_
   refine Ys fun o=>?_
   exact ⟨rfl,o.sub⟩
 refine Yf (by simp [h3]) ?_
 (refine Ja ?_;intros)
 refine Yf (by simpa using h3) ?_
 (refine Ja ?_;intros)
 by_cases h4:rc.kind=4
 ·refine Yt (by simpa using h4) ?_
  have e:I8 caps.length rc=some (0,448,40):=by unfold I8;rw [if_neg hi,if_neg h1,if_neg h2,if_neg h3,if_pos h4]
  rw [e]
  (refine Ja ?_;intros)
  refine A9 (W3 c k env caps bad) ⟨some px,n,mb⟩ ?_;refine Je ?_
  refine Ys fun o=>?_
  exact ⟨rfl,o.sub⟩
 refine Yf (by simpa using h4) ?_
 have e:I8 caps.length rc=some (0,488,4):=by unfold I8;rw [if_neg hi,if_neg h1,if_neg h2,if_neg h3,if_neg h4]
 rw [e]
 (refine Ja ?_;intros)
 refine A9 (W3 c k env caps bad) ⟨some px,n,mb⟩ ?_;refine Je ?_
 refine Ys fun o=>?_
 exact ⟨rfl,o.sub⟩
theorem I27:Ao8 PR 8 E3=some [TypeDesc.int .i64,TypeDesc.int .i64]:=by kernel_rfl
theorem Jh2:Eu1 PR E3=some true:=by kernel_rfl
instance {a b:Int}:KeyC PR E3 (.agg ⟨[.int .i64 a,.int .i64 b]⟩):=⟨fun x=>by
 unfold NN.keyN;rw [I27,Jh2];rfl⟩
theorem E86 (r:RecS):∀ (l:List RecS) (i j:Nat),Am9 (.agg ⟨Ad1 r⟩) (Al9 j l) i=some (if r ∈ l then some (i+l.idxOf r) else none)
 | [],i,j=>by simp [Al9,Am9]
 | q::l,i,j=>by
  have ih:=E86 r l (i+1) (j+1)
  obtain ⟨qk,qi⟩:=q
  obtain ⟨rk,ri⟩:=r
  simp only [Al9,Am9,Bn8,Ad1,eqs,eq1,decide_true,List.mem_cons] at ih ⊢
  by_cases h:rk=qk∧ri=qi
  ·obtain ⟨rfl,rfl⟩:=h
   simp
  ·have e:(rk==qk && (ri==qi && true))=false:=by
    rw [Bool.and_eq_false_iff]
    by_cases h1:rk=qk
    ·right;simp;intro h2;exact h ⟨h1,h2⟩
    ·left;simpa using h1
   have hne:¬ (({ kind:=rk,index:=ri }:RecS)={ kind:=qk,index:=qi }):=fun e=>by
    rw [RecS.mk.injEq] at e;exact h e
   rw [e]
   simp only [hne,false_or]
   rw [ih,List.idxOf_cons]
   have:(({ kind:=qk,index:=qi }:RecS)=={ kind:=rk,index:=ri })=false:=by
    rw [beq_eq_false_iff_ne];exact fun e=>hne e.symm
   rw [this,cond_false]
   split<;>simp;omega
theorem D65:∀ (l:List RecS) (j:Nat),(Al9 j l).length=l.length
 | [],_=>rfl
 | _::l,j=>by simp [Al9,D65 l]
theorem Hy3:∀ (l:List RecS) (j i:Nat) (r:RecS),l[i]?=some r→(Al9 j l)[i]?=some { key:=.agg ⟨Ad1 r⟩,val:=int 1,born:=j+i }
 | [],_,i,r,h=>by simp at h
 | q::l,j,0,r,h=>by simp at h;subst h;rfl
 | q::l,j,i+1,r,h=>by
  have:=Hy3 l (j+1) i r (by simpa using h)
  rw [Al9,List.getElem?_cons_succ,this];congr 2;omega
theorem B75 (r:RecS) (l:List RecS):As0 (int 0) (.agg ⟨Ad1 r⟩) (Al9 0 l)=some (if r ∈ l then (int 1,true) else (int 0,false)):=by
 unfold As0
 rw [E86]
 by_cases h:r ∈ l
 ·rw [if_pos h,if_pos h]
  have hi:=List.idxOf_lt_length_of_mem h
  have hg:l[l.idxOf r]?=some r:=by rw [List.getElem?_eq_getElem hi,List.getElem_idxOf]
  simp only [Nat.zero_add]
  rw [Hy3 l 0 _ r hg]
 ·rw [if_neg h,if_neg h]
theorem Hr5:∀ (l m:List RecS) (j:Nat),Al9 j (l++m)=Al9 j l++Al9 (j+l.length) m
 | [],m,j=>by simp [Al9]
 | q::l,m,j=>by simp only [List.cons_append,Al9,Hr5 l m (j+1),List.length_cons];congr 2;congr 1;omega
theorem Eu2 {r:RecS} {l:List RecS} (h:¬ r ∈ l):Ei0 (int 0) (.agg ⟨Ad1 r⟩) (Al9 0 l) l.length=some (int 0,l.length,.map (Al9 0 l++[{ key:=.agg ⟨Ad1 r⟩,val:=int 0,born:=l.length }]) (l.length+1)):=by
 unfold Ei0;rw [E86,if_neg h]
theorem Hd9 (r:RecS) (e:MapEntry):∀ (l:List RecS) (i j:Nat),¬ r ∈ l→Am9 (.agg ⟨Ad1 r⟩) (Al9 j l++[e]) i=Am9 (.agg ⟨Ad1 r⟩) [e] (i+l.length)
 | [],i,j,h=>by simp [Al9]
 | q::l,i,j,h=>by
  have ih:=Hd9 r e l (i+1) (j+1) (fun hm=>h (List.mem_cons_of_mem _ hm))
  have hq:Bn8 (.agg ⟨Ad1 r⟩) (.agg ⟨Ad1 q⟩)=some false:=by
   obtain ⟨qk,qi⟩:=q
   obtain ⟨rk,ri⟩:=r
   simp only [Bn8,Ad1,eqs,eq1,decide_true]
   congr 1
   rw [Bool.and_eq_false_iff]
   by_cases h1:rk=qk
   ·right;simp;intro h2;exact h (by subst h1 h2;exact List.mem_cons_self ..)
   ·left;simpa using h1
  show (match Bn8 (.agg ⟨Ad1 r⟩) (.agg ⟨Ad1 q⟩) with
   | some true=>some (some i)
   | some false=>Am9 (.agg ⟨Ad1 r⟩) (Al9 (j+1) l++[e]) (i+1)
   | none=>none)=_
  rw [hq]
  simp only
  rw [ih];congr 1;simp;omega
theorem Ec3 {r:RecS} {l:List RecS} (h:¬ r ∈ l):As0 (int 0) (.agg ⟨Ad1 r⟩) (Al9 0 l++[{ key:=.agg ⟨Ad1 r⟩,val:=int 0,born:=l.length }])=some (int 0,true):=by
 unfold As0
 rw [Hd9 r _ l 0 0 h]
 obtain ⟨rk,ri⟩:=r
 simp only [Am9,Bn8,Ad1,eqs,eq1,decide_true,BEq.rfl,Bool.and_self,Nat.zero_add]
 rw [List.getElem?_append_right (by rw [D65];exact Nat.le_refl _),D65];simp
theorem Dq2:∀ (l:List RecS) (j:Nat) (n:Nat) (e:MapEntry) (i:Nat),e.born=n→j+l.length≤n→Bu0 (n:Int) (Al9 j l++[e]) i=some (i+l.length)
 | [],j,n,e,i,h,hl=>by simp [Al9,Bu0,h]
 | q::l,j,n,e,i,h,hl=>by
  have ih:=Dq2 l (j+1) n e (i+1) h (by simp at hl;omega)
  simp only [Al9,List.cons_append,Bu0]
  have:(((j:Nat):Int)==(n:Int))=false:=by simp at hl ⊢;omega
  rw [this,cond_false,ih];congr 1;simp;omega
theorem Hf9 (f:MapEntry→MapEntry) (e:MapEntry):∀ (l:List MapEntry),modN f l.length (l++[e])=l++[f e]
 | []=>rfl
 | q::l=>by simp [modN,Hf9 f e l]
theorem Eu5 (r:RecS) (l:List RecS):modN (fun e=>{ e with val:=int (IntKind.wrap .i64 (0+1)) }) l.length (Al9 0 l++[{ key:=.agg ⟨Ad1 r⟩,val:=int 0,born:=l.length }])=Al9 0 (l++[r]):=by
 rw [show l.length=(Al9 0 l).length from (D65 l 0).symm,Hf9,Hr5]
 simp [Al9,D65];decide
theorem Fr.mem_at (F:Fr) (m:List (List UInt8)):(F.at m).mem=V4 F.S.mem F.rg m:=rfl
theorem Fr.at_ok {F:Fr} (k:FrOk F) {m:List (List UInt8)} (f:Fit F.S.mem.length F.rg m):KOk F.N (F.at m):=by
 have:=k.ok
 exact ⟨this.envs,this.tabs,this.space,this.quota,by rw [Fr.mem_at,B43 f];exact this.mem,this.regs,this.may,this.mayl,this.nsect,this.sects,this.now⟩
theorem Jd0 {F:Fr} (k:FrOk F) {r:RecS} {j a n:Nat} (h:I8 F.caps.length r=some (j,a,n)):∃ lo z,F.rg[j]?=some (lo,z)∧a+n≤z∧j<F.caps.length:=by
 obtain ⟨lo0,h0⟩:=k.own
 have hl:=k.len;have hn:=k.ne
 unfold I8 at h
 split at h;· cases h
 rename_i hi
 split at h
 ·rename_i h1
  have hm:Y7 F.caps.length r.kind=8:=by unfold Y7;rw [if_pos h1]
  cases h;exact ⟨lo0,492,h0,by omega,hn⟩
 rename_i h1
 split at h
 ·rename_i h2
  have hm:Y7 F.caps.length r.kind=12:=by unfold Y7;rw [if_neg h1,if_pos h2]
  cases h;exact ⟨lo0,492,h0,by omega,hn⟩
 rename_i h2
 split at h
 ·rename_i h3
  have hm:Y7 F.caps.length r.kind=3+F.caps.length:=by unfold Y7;rw [if_neg h1,if_neg h2,if_pos h3]
  split at h
  ·cases h;exact ⟨lo0,492,h0,by omega,hn⟩
  ·cases h
   have hlt:r.index.toNat-3<F.rg.length:=by omega
   have hg:=List.getElem?_eq_getElem hlt
   generalize hx:F.rg[r.index.toNat-3]=x at hg
   obtain ⟨lo,z⟩:=x
   have:=k.brs _ lo z (by omega) hg
   exact ⟨lo,z,hg,by omega,by omega⟩
 split at h<;>(cases h;exact ⟨lo0,492,h0,by omega,hn⟩)
def W2 (kind:Int):Nat:=if kind=1 then 24 else if kind=2 then 8 else if kind=3 then 40 else if kind=4 then 40 else 4
theorem Dz3 {nc:Nat} {r:RecS} {j a n:Nat} (h:I8 nc r=some (j,a,n)):n=W2 r.kind:=by
 unfold I8 at h;unfold W2
 split at h;· cases h
 split at h
 ·rename_i h1;cases h;rw [if_pos h1]
 rename_i h1
 rw [if_neg h1]
 split at h
 ·rename_i h2;cases h;rw [if_pos h2]
 rename_i h2
 rw [if_neg h2]
 split at h
 ·rename_i h3;rw [if_pos h3];split at h<;>(cases h;rfl)
 rename_i h3
 rw [if_neg h3]
 split at h
 ·rename_i h4;cases h;rw [if_pos h4]
 ·rename_i h4;cases h;rw [if_neg h4]
def rdX (X:CX) (r:RecS):Option (List UInt8) :=
 match I8 X.m.length r with
 | some (j,a,n)=>if r ∈ X.bad then none else some (slice (X.m.getD j []) a n)
 | none=>none
def wrX (X:CX) (r:RecS) (b:List UInt8) (ok:Bool):Bool × CX :=
 match I8 X.m.length r with
 | some (j,a,n)=>if ok=true∧¬ r ∈ X.bad then (true,{ X with m:=X.m.set j (O7 (X.m.getD j []) a b) }) else (false,X)
 | none=>(false,X)
theorem Fit.mlen {F:Fr} (k:FrOk F) {m:List (List UInt8)} (f:Fit F.S.mem.length F.rg m):m.length=F.caps.length:=by rw [f.len,k.len]
theorem D61 {F:Fr} (k:FrOk F) {m:List (List UInt8)} (f:Fit F.S.mem.length F.rg m) {r:RecS} {j a n:Nat} (h:I8 F.caps.length r=some (j,a,n)) :
  ∃ lo z cap,F.caps[j]?=some cap∧F.rg[j]?=some (lo,z)∧a+n≤z∧m[j]?=some (m.getD j [])∧(m.getD j []).length=z∧lo+z≤F.S.mem.length∧cap=F.caps.getD j 0:=by
 obtain ⟨lo,z,hr,ha,hj⟩:=Jd0 k h
 obtain ⟨h1,x,hx,hl⟩:=f.each j lo z hr
 have e:m.getD j []=x:=by rw [List.getD_eq_getElem?_getD,hx];rfl
 exact ⟨lo,z,F.caps.getD j 0,Q6 0 hj,hr,ha,by rw [e];exact hx,by rw [e];exact hl,h1,rfl⟩
theorem Jl1 {F:Fr} (k:FrOk F) {X:CX} (f:Fit F.S.mem.length F.rg X.m) {r:RecS} {l:List UInt8} (h:rdX X r=some l):l.length=W2 r.kind:=by
 unfold rdX at h
 rw [f.mlen k] at h
 cases hp:I8 F.caps.length r with
 | none=>rw [hp] at h;cases h
 | some p =>
  obtain ⟨j,a,n⟩:=p
  rw [hp] at h
  obtain ⟨lo,z,cap,_,_,ha,hx,hl,_⟩:=D61 k f hp
  simp only at h
  split at h
  ·cases h
  ·cases h;rw [Hj9 (by omega),Dz3 hp]
theorem Js7 {F:Fr} (k:FrOk F) {m:List (List UInt8)} (f:Fit F.S.mem.length F.rg m) {r:RecS} {j a n:Nat} (h:I8 F.caps.length r=some (j,a,n)) :
  W0 (F.at m) F.env ⟨1,F.caps.getD j 0,(a:Int),(n:Int),0,0,[]⟩=((0,0,slice (m.getD j []) a n),F.at m):=by
 obtain ⟨lo,z,cap,hc,hr,ha,hx,hl,hz,rfl⟩:=D61 k f h
 have hp:=k.pl j _ lo z hc hr a n 1 (.inl rfl) ha
 have lp:=B43 f
 have hb:Da4 (V4 F.S.mem F.rg m) ((lo+a:Nat):Int) (n:Int)=some (slice (m.getD j []) a n):=by
  unfold Da4
  rw [if_pos (by rw [lp];omega),Int.toNat_natCast,Int.toNat_natCast]
  rw [← Gy5 f k.dj hr hx ha];rfl
 have e:Ao9 (F.at m).tabs (F.at m).regs (F.at m).mem F.env (F.caps.getD j 0) (a:Int) (n:Int)=(slice (m.getD j []) a n,0):=by
  unfold Ao9
  rw [show S8 (F.at m).tabs (F.at m).regs F.env (F.caps.getD j 0) 1 (a:Int) (n:Int)=(((lo+a:Nat):Int),0) from hp]
  rw [if_neg (by simp),show Da4 (F.at m).mem _ _=_ from hb]
 unfold W0
 rw [if_neg (show ¬ (F.env<0∨F.env≥((F.at m).envs.length:Int)) from k.env)]
 unfold kDo
 rw [if_pos rfl,e]
theorem Jo4 {F:Fr} (k:FrOk F) {m:List (List UInt8)} (f:Fit F.S.mem.length F.rg m) {r:RecS} {j a n:Nat} (h:I8 F.caps.length r=some (j,a,n)) {b:List UInt8} (hb:b.length=n) :
  W0 (F.at m) F.env ⟨2,F.caps.getD j 0,(a:Int),0,0,0,b⟩=((0,0,[]),F.at (m.set j (O7 (m.getD j []) a b))):=by
 obtain ⟨lo,z,cap,hc,hr,ha,hx,hl,hz,rfl⟩:=D61 k f h
 have hp:=k.pl j _ lo z hc hr a n 2 (.inr rfl) ha
 have lp:=B43 f
 have hs:Bl4 (V4 F.S.mem F.rg m) ((lo+a:Nat):Int) b=some (V4 F.S.mem F.rg (m.set j (O7 (m.getD j []) a b))):=by
  unfold Bl4
  rw [if_pos (by rw [lp];omega),Int.toNat_natCast]
  rw [← Ie6 f k.dj hr hx (by omega)];rfl
 have e:Ap9 (F.at m).tabs (F.at m).regs (F.at m).mem F.env (F.caps.getD j 0) (a:Int) b=(0,V4 F.S.mem F.rg (m.set j (O7 (m.getD j []) a b))):=by
  unfold Ap9
  rw [hb,show S8 (F.at m).tabs (F.at m).regs F.env (F.caps.getD j 0) 2 (a:Int) (n:Int)=(((lo+a:Nat):Int),0) from hp]
  rw [if_neg (by simp),show Bl4 (F.at m).mem _ _=_ from hs]
 unfold W0
 rw [if_neg (show ¬ (F.env<0∨F.env≥((F.at m).envs.length:Int)) from k.env)]
 unfold kDo
 rw [if_neg (show ¬ ((2:Int)=1) by decide),if_pos rfl,e];rfl
theorem Jj1 {F:Fr} (k:FrOk F) {X:CX} (f:Fit F.S.mem.length F.rg X.m) {r:RecS} {b:List UInt8} {ok:Bool} (hb:ok=true→b.length=W2 r.kind):Fit F.S.mem.length F.rg (wrX X r b ok).2.m:=by
 unfold wrX
 rw [f.mlen k]
 cases hp:I8 F.caps.length r with
 | none=>exact f
 | some p =>
  obtain ⟨j,a,n⟩:=p
  obtain ⟨lo,z,cap,hc,hr,ha,hx,hl,hz,_⟩:=D61 k f hp
  simp only
  split
  ·rename_i hk
   exact f.set hr (by rw [Ak4 (by rw [hb hk.1,← Dz3 hp];omega)];exact hl)
  ·exact f
instance {caps:List Int} {o:Option (Nat × Nat × Nat)}:LenC (H37 caps o) 3:=⟨by cases o<;>rfl⟩
theorem I87 (caps:List Int) (o:Option (Nat × Nat × Nat)):(H37 caps o).all Value.oneCell=true:=by cases o<;>rfl
instance {caps:List Int} {o:Option (Nat × Nat × Nat)} {cs:List Value} [k:LenC cs 3]:SetsC cs 0 (H37 caps o) (H37 caps o):=⟨Br7 k.ok LenC.ok (I87 caps o)⟩
instance {rc:RecS}:PartC (Ad1 rc) 0 2 (Ad1 rc):=⟨rfl⟩
theorem Ii0 (r:RecS) (l:List RecS):(if r ∈ l then (int 1,true) else (int 0,false))=(int (if r ∈ l then 1 else 0),decide (r ∈ l)):=by split<;>simp [*]
theorem Ig6 (r:RecS) (l:List RecS):decide ((if r ∈ l then (1:Int) else 0)>0)=decide (r ∈ l):=by split<;>simp [*]
theorem En3 (k:Nat) (S:KS) (N:Nat) (ok:KOk N S) (hN:N+1<1000000000) (env:Int) (c:CallS) (ba:Option Addr) (bc:Nat) (ro:Bool) (h5:c.op≠5) :
  Ct A7 L9 [P0 k,int env,.agg ⟨Bt7 c ba bc⟩] [D6 k S,slC ro A5 1 ba c.b.length bc (A0 c.b)] fun v own=>∃ x d,v=.agg ⟨[int (W0 S env c).1.1,int (W0 S env c).1.2.1,.slice x (W0 S env c).1.2.2.length d]⟩ ∧
    own [slC false A5 1 x (W0 S env c).1.2.2.length d (A0 (W0 S env c).1.2.2),D6 k (W0 S env c).2,slC ro A5 1 ba c.b.length bc (A0 c.b)]:=by
 intro h r o
 obtain ⟨pq,o1⟩:=Own.ex (f:=fun pq=>slX ro A5 1 ba c.b.length bc pq (A0 c.b)) (o.perm (.swap _ _ _))
 obtain ⟨v,h',e,x,d,rfl,o2⟩:=Iw1 k S N ok hN env c ba bc ro pq h5 h r (o1.perm (.swap _ _ _))
 refine ⟨_,h',e,x,d,rfl,?_⟩
 have o3:=o2.picks [2] rfl
 exact (Own.inex (f:=fun pq=>slX ro A5 1 ba c.b.length bc pq (A0 c.b)) pq o3).picks [1,1,0] rfl
theorem Ez7 (c k:Nat) (F:Fr) (X:CX) (rc:RecS) (ok:FrOk F):Ct A7 S5 [P0 c,.agg ⟨Ad1 rc⟩] [cmC c k F X] fun v own =>
  (∃ l a cp,rdX X rc=some l∧l.length=W2 rc.kind∧v=.tuple ⟨[.slice a l.length cp,.bool true]⟩∧own [slC false A5 1 a l.length cp (A0 l),cmC c k F X]) ∨
  (rdX X rc=none∧v=.tuple ⟨[.slice none 0 0,.bool false]⟩∧own [cmC c k F X]):=by
 refine Ct.of Ek5 rfl fun h r=>Tr.eq (Ej2 ..) ?_;refine Je ?_
 refine B1 (cmC c k F X) fun u=>?_;refine Je ?_
 refine O5 2 rfl fun f=>?_
 (refine Ja ?_;intros)
 refine Yc (Ge3 c k F.env F.caps X.bad rc ok.small ok.ne) ?_;rintro _ h ⟨rfl,o⟩<;>(refine Jg o ?_;intros)
 have em:=f.mlen ok
 cases hp:I8 F.caps.length rc with
 | none =>
  (refine Jb ?_;intros)
  refine Yb (Yt rfl ?_)
  refine Ys fun o=>(?_:Tr _ _ _ _) o;refine Je ?_
  (refine Ja ?_;intros)
  refine A9 (cmC c k F X) () ?_;refine Je ?_
  refine Ys fun o=>?_
  exact .inr ⟨by unfold rdX;rw [em,hp],rfl,o.sub⟩
 | some p =>
  obtain ⟨j,a,n⟩:=p
  refine B1 (W3 c k F.env F.caps X.bad) fun ⟨ca,cn,mb⟩=>?_;refine Je ?_
  (refine Jb ?_;intros)
  refine Tr.orG (c:=decide (rc ∈ X.bad)) (fun _=>?_) ?_
  ·(refine Ja ?_;intros)
   rw [B75,Ii0]
   (refine Ja ?_;intros)
   refine Ys fun o=>?_
   rw [Ig6];exact ⟨by first|rfl|trivial,by first|rfl|trivial⟩
  by_cases hb:rc ∈ X.bad
  ·rw [decide_eq_true hb]
   (refine Ja ?_;intros)
   refine A9 (W3 c k F.env F.caps X.bad) ⟨ca,cn,mb⟩ ?_;refine Je ?_
   refine A9 (cmC c k F X) () ?_;refine Je ?_
   refine Ys fun o=>?_
   exact .inr ⟨by unfold rdX;rw [em,hp];exact if_pos hb,rfl,o.sub⟩
  ·rw [decide_eq_false hb]
   refine Yf rfl ?_
   (refine Ja ?_;intros)
   refine A9 (W3 c k F.env F.caps X.bad) ⟨ca,cn,mb⟩ ?_;refine Je ?_
   have J:=Gh0 k (F.at X.m) F.N (F.at_ok ok f) ok.hN F.env 1 (F.caps.getD j 0) (a:Int) (n:Int) 0 0 (by decide)
   rw [Js7 ok f hp] at J
   refine Yc (J) ?_;rintro _ h ⟨y,d,rfl,o⟩<;>(refine Jf o ?_;intros)
   refine Yf rfl ?_
   (refine Ja ?_;intros)
   refine A9 (cmC c k F X) () ?_;refine Je ?_
   refine Ys fun o=>?_
   have e:rdX X rc=some (slice (X.m.getD j []) a n):=by unfold rdX;rw [em,hp];exact if_neg hb
   exact .inl ⟨_,y,d,e,Jl1 ok f e,rfl,o.sub⟩
theorem B74 (c k:Nat) (F:Fr) (X:CX) (rc:RecS) (ok:FrOk F) (bs:List UInt8) (g:Bool) (ba:Option Addr) (bc:Nat) (hb:g=true→bs.length=W2 rc.kind) :
  Ct A7 N7 [P0 c,.agg ⟨Ad1 rc⟩,.slice ba bs.length bc,.bool g] [cmC c k F X,slC false A5 1 ba bs.length bc (A0 bs)] fun v own =>
   v=.bool (wrX X rc bs g).1∧own [cmC c k F (wrX X rc bs g).2,slC false A5 1 ba bs.length bc (A0 bs)]:=by
 refine Ct.of Ea9 rfl fun h r=>Tr.eq (Ea8 ..) ?_;refine Je ?_
 refine B1 (cmC c k F X) fun u=>?_;refine Je ?_
 refine O5 2 rfl fun f=>?_
 (refine Ja ?_;intros)
 refine Yc (Ge3 c k F.env F.caps X.bad rc ok.small ok.ne) ?_;rintro _ h ⟨rfl,o⟩<;>(refine Jg o ?_;intros)
 have em:=f.mlen ok
 cases hp:I8 F.caps.length rc with
 | none =>
  (refine Jb ?_;intros)
  refine Yb (Yt rfl ?_)
  refine Ys fun o=>(?_:Tr _ _ _ _) o;refine Je ?_
  refine Yb (Yt rfl ?_)
  refine Ys fun o=>(?_:Tr _ _ _ _) o;refine Je ?_
  (refine Ja ?_;intros)
  refine A9 (cmC c k F X) () ?_;refine Je ?_
  refine Ys fun o=>?_
  have e:wrX X rc bs g=(false,X):=by unfold wrX;rw [em,hp]
  rw [e]
  exact ⟨by first|rfl|trivial,o.sub⟩
 | some p =>
  obtain ⟨j,a,n⟩:=p
  refine B1 (W3 c k F.env F.caps X.bad) fun ⟨ca,cn,mb⟩=>?_;refine Je ?_
  (refine Jb ?_;intros)
  refine Yb (Yf rfl ?_)
  refine Ys fun o=>(?_:Tr _ _ _ _) o;refine Je ?_
  (refine Jb ?_;intros)
  refine Tr.orG (c:=decide (rc ∈ X.bad)) (fun _=>?_) ?_
  ·(refine Ja ?_;intros)
   rw [B75,Ii0]
   (refine Ja ?_;intros)
   refine Ys fun o=>?_
   rw [Ig6];exact ⟨by first|rfl|trivial,by first|rfl|trivial⟩
  by_cases hg:g=true∧¬ rc ∈ X.bad
  ·have e:wrX X rc bs g=(true,{ X with m:=X.m.set j (O7 (X.m.getD j []) a bs) }):=by unfold wrX;rw [em,hp];exact if_pos hg
   have f2:=Jj1 (r:=rc) (b:=bs) (ok:=g) ok f hb
   rw [e] at f2
   obtain ⟨rfl,hg2⟩:=hg
   rw [e,decide_eq_false hg2]
   refine Yf rfl ?_
   (refine Ja ?_;intros)
   refine A9 (W3 c k F.env F.caps X.bad) ⟨ca,cn,mb⟩ ?_;refine Je ?_
   have hl:bs.length=n:=by rw [hb rfl,Dz3 hp]
   have J:=En3 k (F.at X.m) F.N (F.at_ok ok f) ok.hN F.env ⟨2,F.caps.getD j 0,(a:Int),0,0,0,bs⟩ ba bc false (show ((2:Int)≠5) by decide)
   rw [Jo4 ok f hp hl] at J
   refine Yc (J) ?_;rintro _ h ⟨y,d,rfl,o⟩<;>(refine Jf o ?_;intros)
   refine Aw3 (show Fit F.S.mem.length F.rg (X.m.set j (O7 (X.m.getD j []) a bs)) from f2) ?_
   refine A9 (cmC c k F { X with m:=X.m.set j (O7 (X.m.getD j []) a bs) }) () ?_;refine Je ?_
   refine Ys fun o=>?_
   exact ⟨rfl,o.sub⟩
  ·have e:wrX X rc bs g=(false,X):=by unfold wrX;rw [em,hp];exact if_neg hg
   rw [e]
   refine Yt ?_ ?_
   ·cases g with
    | false=>rfl
    | true=>simpa using hg
   refine A9 (W3 c k F.env F.caps X.bad) ⟨ca,cn,mb⟩ ?_;refine Je ?_
   refine A9 (cmC c k F X) () ?_;refine Je ?_
   refine Ys fun o=>?_
   exact ⟨by first|rfl|trivial,o.sub⟩
def Z6 {α:Type} (dec:List UInt8→α × Int) (z:α) (X:CX) (rc:RecS):(α × Int) × CX :=
 match rdX X rc with
 | some l=>(dec l,if (dec l).2=2 then { X with bad:=X.bad++[rc] } else X)
 | none=>((z,2),X)
theorem Eu4 {X:CX} {rc:RecS} {l:List UInt8} (h:rdX X rc=some l):¬ rc ∈ X.bad:=by
 unfold rdX at h
 split at h
 ·split at h
  ·cases h
  ·assumption
 ·cases h
theorem Iw6 (l:List UInt8) (h:(Ac0 l).2≠1):(Ac0 l).1=.zero:=by
 unfold Ac0 at *;split<;>first|rfl|(split<;>first|rfl|(simp_all;done))
theorem Iz3 (l:List UInt8) (h:(Ac4 l).2≠1):(Ac4 l).1=.zero:=by
 unfold Ac4 at *;split<;>first|rfl|(split<;>first|rfl|(simp_all;done))
theorem I52 (l:List UInt8) (h:(U6 l).2≠1):(U6 l).1=.zero:=by
 unfold U6 at *;split<;>first|rfl|(split<;>first|rfl|(simp_all;done))
theorem Jg6 (c k:Nat) (F:Fr) (X:CX) (rc:RecS) (ok:FrOk F) (hk:W2 rc.kind=24):Ct A7 O0 [P0 c,.agg ⟨Ad1 rc⟩,.func (.func Ay6) ⟨[]⟩ ⟨[]⟩] [cmC c k F X] fun v own =>
  v=.tuple ⟨[.agg ⟨D7 (Z6 Ac0 .zero X rc).1.1⟩,int (Z6 Ac0 .zero X rc).1.2]⟩∧own [cmC c k F (Z6 Ac0 .zero X rc).2]:=by
 refine Ct.of Av6 rfl fun h r=>Tr.eq (D03 ..) ?_;refine Je ?_
 (refine Ja ?_;intros)
 refine Yc (Ez7 c k F X rc ok) ?_
 rintro v h (⟨l,a,cp,hr,hl,rfl,o⟩|⟨hr,rfl,o⟩)
 ·refine (?_:Tr _ _ _ _) o
  refine Je ?_
  have e:Z6 Ac0 .zero X rc=(Ac0 l,if (Ac0 l).2=2 then { X with bad:=X.bad++[rc] } else X):=by unfold Z6;rw [hr]
  have hb:=Eu4 hr
  rw [e]
  rw [hk] at hl
  rw [hl]
  (refine Ja ?_;intros)
  refine Yc (Ik0 a cp l hl) ?_;rintro _ h ⟨rfl,o⟩<;>(refine Jf o ?_;intros)
  by_cases h2:(Ac0 l).2=2
  ·refine Yt (by simpa using h2) ?_
   have hz:=Iw6 l (by omega)
   simp only [if_pos h2]
   refine B1 (cmC c k F X) fun u=>?_;refine Je ?_
   refine B1 (W3 c k F.env F.caps X.bad) fun ⟨ca,cn,mb⟩=>?_;refine Je ?_
   (refine Ja ?_;intros)
   rw [B75,if_neg hb]
   (refine Ja ?_;intros)
   rw [Eu2 hb]
   (refine Ja ?_;intros)
   rw [Ec3 hb]
   (refine Ja ?_;intros)
   rw [Dq2 X.bad 0 X.bad.length _ 0 rfl (by omega),Nat.zero_add]
   (refine Ja ?_;intros)
   rw [Eu5]
   refine Tr.jmp Av6 (Tr.eq (Be3 ..) ?_);(try simp only[Nr,Nl,wl,Nat.reduceAdd,Nat.reduceMul,Int.reduceToNat])
   refine Yt (by rw [bne_iff_ne];omega) ?_
   (refine Ja ?_;intros)
   rw [show X.bad.length+1=(X.bad++[rc]).length by simp]
   refine A9 (W3 c k F.env F.caps (X.bad++[rc])) ⟨ca,cn,mb⟩ ?_;refine Je ?_
   refine A9 (cmC c k F { X with bad:=X.bad++[rc] }) () ?_;refine Je ?_
   refine Ys fun o=>?_
   exact ⟨by rw [hz]<;>rfl,o.sub⟩
  ·refine Yf (by simpa using h2) ?_
   simp only [if_neg h2]
   refine Tr.jmp Av6 (Tr.eq (Be3 ..) ?_);(try simp only[Nr,Nl,wl,Nat.reduceAdd,Nat.reduceMul,Int.reduceToNat])
   by_cases h1:(Ac0 l).2=1
   ·refine Yf (by simpa using h1) ?_
    (refine Ja ?_;intros)
    refine Ys fun o=>?_
    exact ⟨rfl,o.sub⟩
   ·refine Yt (by simpa using h1) ?_
    (refine Ja ?_;intros)
    refine Ys fun o=>?_
    exact ⟨by rw [Iw6 l h1]<;>rfl,o.sub⟩
 ·refine (?_:Tr _ _ _ _) o
  refine Je ?_
  have e:Z6 Ac0 .zero X rc=((.zero,2),X):=by unfold Z6;rw [hr]
  rw [e]
  (refine Ja ?_;intros)
  refine Ys fun o=>?_
  exact ⟨rfl,o.sub⟩
theorem Jl6 (c k:Nat) (F:Fr) (X:CX) (rc:RecS) (ok:FrOk F) (hk:W2 rc.kind=8):Ct A7 O2 [P0 c,.agg ⟨Ad1 rc⟩,.func (.func Ay8) ⟨[]⟩ ⟨[]⟩] [cmC c k F X] fun v own =>
  v=.tuple ⟨[.agg ⟨Ak6 (Z6 Ac4 .zero X rc).1.1⟩,int (Z6 Ac4 .zero X rc).1.2]⟩∧own [cmC c k F (Z6 Ac4 .zero X rc).2]:=by
 refine Ct.of Av7 rfl fun h r=>Tr.eq (Dx1 ..) ?_;refine Je ?_
 (refine Ja ?_;intros)
 refine Yc (Ez7 c k F X rc ok) ?_
 rintro v h (⟨l,a,cp,hr,hl,rfl,o⟩|⟨hr,rfl,o⟩)
 ·refine (?_:Tr _ _ _ _) o
  refine Je ?_
  have e:Z6 Ac4 .zero X rc=(Ac4 l,if (Ac4 l).2=2 then { X with bad:=X.bad++[rc] } else X):=by unfold Z6;rw [hr]
  have hb:=Eu4 hr
  rw [e]
  rw [hk] at hl
  rw [hl]
  (refine Ja ?_;intros)
  refine Yc (Ir0 a cp l hl) ?_;rintro _ h ⟨rfl,o⟩<;>(refine Jf o ?_;intros)
  by_cases h2:(Ac4 l).2=2
  ·refine Yt (by simpa using h2) ?_
   have hz:=Iz3 l (by omega)
   simp only [if_pos h2]
   refine B1 (cmC c k F X) fun u=>?_;refine Je ?_
   refine B1 (W3 c k F.env F.caps X.bad) fun ⟨ca,cn,mb⟩=>?_;refine Je ?_
   (refine Ja ?_;intros)
   rw [B75,if_neg hb]
   (refine Ja ?_;intros)
   rw [Eu2 hb]
   (refine Ja ?_;intros)
   rw [Ec3 hb]
   (refine Ja ?_;intros)
   rw [Dq2 X.bad 0 X.bad.length _ 0 rfl (by omega),Nat.zero_add]
   (refine Ja ?_;intros)
   rw [Eu5]
   refine Tr.jmp Av7 (Tr.eq (Bb5 ..) ?_);(try simp only[Nr,Nl,wl,Nat.reduceAdd,Nat.reduceMul,Int.reduceToNat])
   refine Yt (by rw [bne_iff_ne];omega) ?_
   (refine Ja ?_;intros)
   rw [show X.bad.length+1=(X.bad++[rc]).length by simp]
   refine A9 (W3 c k F.env F.caps (X.bad++[rc])) ⟨ca,cn,mb⟩ ?_;refine Je ?_
   refine A9 (cmC c k F { X with bad:=X.bad++[rc] }) () ?_;refine Je ?_
   refine Ys fun o=>?_
   exact ⟨by rw [hz]<;>rfl,o.sub⟩
  ·refine Yf (by simpa using h2) ?_
   simp only [if_neg h2]
   refine Tr.jmp Av7 (Tr.eq (Bb5 ..) ?_);(try simp only[Nr,Nl,wl,Nat.reduceAdd,Nat.reduceMul,Int.reduceToNat])
   by_cases h1:(Ac4 l).2=1
   ·refine Yf (by simpa using h1) ?_
    (refine Ja ?_;intros)
    refine Ys fun o=>?_
    exact ⟨rfl,o.sub⟩
   ·refine Yt (by simpa using h1) ?_
    (refine Ja ?_;intros)
    refine Ys fun o=>?_
    exact ⟨by rw [Iz3 l h1]<;>rfl,o.sub⟩
 ·refine (?_:Tr _ _ _ _) o
  refine Je ?_
  have e:Z6 Ac4 .zero X rc=((.zero,2),X):=by unfold Z6;rw [hr]
  rw [e]
  (refine Ja ?_;intros)
  refine Ys fun o=>?_
  exact ⟨rfl,o.sub⟩
theorem Ii5 (c k:Nat) (F:Fr) (X:CX) (rc:RecS) (ok:FrOk F) (hk:W2 rc.kind=40):Ct A7 L6 [P0 c,.agg ⟨Ad1 rc⟩,.func (.func As6) ⟨[]⟩ ⟨[]⟩] [cmC c k F X] fun v own =>
  v=.tuple ⟨[.agg ⟨E5 (Z6 U6 .zero X rc).1.1⟩,int (Z6 U6 .zero X rc).1.2]⟩∧own [cmC c k F (Z6 U6 .zero X rc).2]:=by
 refine Ct.of Ax0 rfl fun h r=>Tr.eq (Dw9 ..) ?_;refine Je ?_
 (refine Ja ?_;intros)
 refine Yc (Ez7 c k F X rc ok) ?_
 rintro v h (⟨l,a,cp,hr,hl,rfl,o⟩|⟨hr,rfl,o⟩)
 ·refine (?_:Tr _ _ _ _) o
  refine Je ?_
  have e:Z6 U6 .zero X rc=(U6 l,if (U6 l).2=2 then { X with bad:=X.bad++[rc] } else X):=by unfold Z6;rw [hr]
  have hb:=Eu4 hr
  rw [e]
  rw [hk] at hl
  rw [hl]
  (refine Ja ?_;intros)
  refine Yc (Io7 a cp l hl) ?_;rintro _ h ⟨rfl,o⟩<;>(refine Jf o ?_;intros)
  by_cases h2:(U6 l).2=2
  ·refine Yt (by simpa using h2) ?_
   have hz:=I52 l (by omega)
   simp only [if_pos h2]
   refine B1 (cmC c k F X) fun u=>?_;refine Je ?_
   refine B1 (W3 c k F.env F.caps X.bad) fun ⟨ca,cn,mb⟩=>?_;refine Je ?_
   (refine Ja ?_;intros)
   rw [B75,if_neg hb]
   (refine Ja ?_;intros)
   rw [Eu2 hb]
   (refine Ja ?_;intros)
   rw [Ec3 hb]
   (refine Ja ?_;intros)
   rw [Dq2 X.bad 0 X.bad.length _ 0 rfl (by omega),Nat.zero_add]
   (refine Ja ?_;intros)
   rw [Eu5]
   refine Tr.jmp Ax0 (Tr.eq (Be0 ..) ?_);(try simp only[Nr,Nl,wl,Nat.reduceAdd,Nat.reduceMul,Int.reduceToNat])
   refine Yt (by rw [bne_iff_ne];omega) ?_
   (refine Ja ?_;intros)
   rw [show X.bad.length+1=(X.bad++[rc]).length by simp]
   refine A9 (W3 c k F.env F.caps (X.bad++[rc])) ⟨ca,cn,mb⟩ ?_;refine Je ?_
   refine A9 (cmC c k F { X with bad:=X.bad++[rc] }) () ?_;refine Je ?_
   refine Ys fun o=>?_
   exact ⟨by rw [hz]<;>rfl,o.sub⟩
  ·refine Yf (by simpa using h2) ?_
   simp only [if_neg h2]
   refine Tr.jmp Ax0 (Tr.eq (Be0 ..) ?_);(try simp only[Nr,Nl,wl,Nat.reduceAdd,Nat.reduceMul,Int.reduceToNat])
   by_cases h1:(U6 l).2=1
   ·refine Yf (by simpa using h1) ?_
    (refine Ja ?_;intros)
    refine Ys fun o=>?_
    exact ⟨rfl,o.sub⟩
   ·refine Yt (by simpa using h1) ?_
    (refine Ja ?_;intros)
    refine Ys fun o=>?_
    exact ⟨by rw [I52 l h1]<;>rfl,o.sub⟩
 ·refine (?_:Tr _ _ _ _) o
  refine Je ?_
  have e:Z6 U6 .zero X rc=((.zero,2),X):=by unfold Z6;rw [hr]
  rw [e]
  (refine Ja ?_;intros)
  refine Ys fun o=>?_
  exact ⟨rfl,o.sub⟩
def G69 (g:Int):List UInt8:=[b8 g,211,B39 [b8 g,211],0]
def At1 (l:List UInt8):Int × Int:=if byI l 0<8∧G69 (byI l 0)=l then (byI l 0,1) else (0,2)
theorem Hl5 (g:Int):Ct A7 Aw0 [int g] [] fun v own =>
  (0≤g∧g<8∧∃ a c,v=.tuple ⟨[.slice a 4 c,.bool true]⟩∧own [slC false A5 1 a 4 c (A0 (G69 g))])∨(¬ (0≤g∧g<8)∧v=.tuple ⟨[.slice none 0 0,.bool false]⟩∧own []):=by
 refine Ct.of Et1 rfl fun h r=>Tr.eq (Ex5 ..) ?_;refine Je ?_
 (refine Ja ?_;intros)
 by_cases hg:0≤g∧g<8
 ·refine Yf (by simp;omega) ?_
  rw [Bs3]
  refine Yn fun b h=>?_
  rw [show ([.int .u8 ((b8 g).toNat:Int),.int .u8 211]:List Value)=A0 [b8 g,211] from rfl]
  refine Ah3 0 rfl 1 2 rfl (by omega) ?_
  refine Je ?_
  refine Tr.pcall (G03 (slC false A5 1 (some ⟨b,0,none⟩) 2 2 (A0 [b8 g,211])) (some ⟨b,0,none⟩) false 2 2 2 [b8 g,211] 2 (by simp) (by simp [A8])) ?_
  (refine Ja ?_;intros)
  rw [show List.take 2 [b8 g,211]=[b8 g,211] from rfl,D39]
  refine Tr.xApd ⟨rfl,rfl,by simp [A8]⟩ fun a' c' h'=>?_
  refine Je ?_
  refine Ys fun o=>?_
  exact .inl ⟨hg.1,hg.2,a',c',rfl,(show Own h' (_::slC false A5 1 a' 4 c' (A0 (G69 g))::_) from o).sub⟩
 ·refine Yt (by simp;omega) ?_
  refine Ys fun o=>?_
  exact .inr ⟨hg,rfl,o.sub⟩
theorem Jl5 (l:List UInt8):∀ (m i:Nat) (r:List UInt8),l.length-i=m→ByteArray.toList.loop ⟨⟨l⟩⟩ i r=r.reverse++l.drop i:=by
 intro m
 induction m with
 | zero =>
  intro i r hm
  unfold ByteArray.toList.loop
  rw [if_neg (show ¬ i<(ByteArray.mk ⟨l⟩).size by show ¬ i<l.length;omega),List.drop_eq_nil_of_le (by omega)];simp
 | succ m ih =>
  intro i r hm
  have hlt:i<l.length:=by omega
  unfold ByteArray.toList.loop
  rw [if_pos (show i<(ByteArray.mk ⟨l⟩).size from hlt),ih (i+1) _ (by omega),List.drop_eq_getElem_cons hlt]
  have:(ByteArray.mk ⟨l⟩).get! i=l[i]:=by
   show (Array.mk l)[i]! = l[i]
   simp [hlt]
  rw [this];simp
theorem Hh7 (l:List UInt8):(ByteArray.mk ⟨l⟩).toList=l:=by
 unfold ByteArray.toList
 rw [Jl5 l _ 0 [] rfl];simp
theorem Ib3 (pb:HP) (ro:Bool) (a:Option Addr) (c:Nat) (l:List UInt8) (hl:l.length=4) [ks:IsSl pb a ro A5 1 4 c (A0 l)]:Ct A7 Al2 [.slice a 4 c] [pb] fun v own=>v=.tuple ⟨[int (At1 l).1,int (At1 l).2]⟩∧own [pb]:=by
 refine Ct.of Gl7 rfl fun h r=>Tr.eq (Gm2 ..) ?_;refine Je ?_
 refine Yf rfl ?_
 (refine Ja ?_;intros;repeat(refine Gw ?_;rintro px rfl;refine Ja ?_;intros))
 refine Tr.xIntS (v:=byI l 0) (Ag1 (by omega)) ?_
 simp only [byI,At2]
 refine Yc (Hl5 (byI l 0)) ?_
 rintro v h (⟨h1,h2,a1,c1,rfl,o⟩|⟨hn,rfl,o⟩)
 ·refine (?_:Tr _ _ _ _) o
  refine Je ?_
  (refine Ja ?_;intros)
  rw [Hh7,Hh7]
  by_cases he:G69 (byI l 0)=l
  ·have e:At1 l=(byI l 0,1):=by unfold At1;rw [if_pos ⟨h2,he⟩]
   refine Yf (by simp [he]) ?_
   (refine Ja ?_;intros)
   refine Tr.xIntS (v:=byI l 0) (Ag1 (by omega)) ?_
   refine Ys fun o=>?_
   rw [e];exact ⟨by simp only [byI,At2],o.sub⟩
  ·have e:At1 l=(0,2):=by unfold At1;rw [if_neg (fun hh=>he hh.2)]
   refine Yt (by simp [he]) ?_
   refine Ys fun o=>?_
   rw [e];exact ⟨rfl,o.sub⟩
 ·refine (?_:Tr _ _ _ _) o
  refine Je ?_
  (refine Jb ?_;intros)
  refine Yb (Yt rfl ?_)
  refine Ys fun o=>(?_:Tr _ _ _ _) o;refine Je ?_
  (refine Ja ?_;intros)
  refine Ys fun o=>?_
  exact ⟨by unfold At1;rw [if_neg (by simp only [byI] at *;omega)],o.sub⟩
theorem Ip7 (a:Option Addr) (c:Nat) (l:List UInt8) (hl:l.length=4):Ct A7 Al2 [.slice a 4 c] [slC false A5 1 a 4 c (A0 l)] fun v own=>v=.tuple ⟨[int (At1 l).1,int (At1 l).2]⟩∧own [slC false A5 1 a 4 c (A0 l)]:=Ib3 (slC false A5 1 a 4 c (A0 l)) false a c l hl
theorem I20 (l:List UInt8) (h:(At1 l).2≠1):(At1 l).1=0:=by
 unfold At1 at *;split<;>simp_all
theorem Jk4 (c k:Nat) (F:Fr) (X:CX) (rc:RecS) (ok:FrOk F) (hk:W2 rc.kind=4):Ct A7 W1 [P0 c,.agg ⟨Ad1 rc⟩,.func (.func Al2) ⟨[]⟩ ⟨[]⟩] [cmC c k F X] fun v own =>
  v=.tuple ⟨[int (Z6 At1 0 X rc).1.1,int (Z6 At1 0 X rc).1.2]⟩∧own [cmC c k F (Z6 At1 0 X rc).2]:=by
 refine Ct.of Bi5 rfl fun h r=>Tr.eq (Er4 ..) ?_;refine Je ?_
 (refine Ja ?_;intros)
 refine Yc (Ez7 c k F X rc ok) ?_
 rintro v h (⟨l,a,cp,hr,hl,rfl,o⟩|⟨hr,rfl,o⟩)
 ·refine (?_:Tr _ _ _ _) o
  refine Je ?_
  have e:Z6 At1 0 X rc=(At1 l,if (At1 l).2=2 then { X with bad:=X.bad++[rc] } else X):=by unfold Z6;rw [hr]
  have hb:=Eu4 hr
  rw [e]
  rw [hk] at hl
  rw [hl]
  (refine Ja ?_;intros)
  refine Yc (Ip7 a cp l hl) ?_;rintro _ h ⟨rfl,o⟩<;>(refine Jf o ?_;intros)
  by_cases h2:(At1 l).2=2
  ·refine Yt (by simpa using h2) ?_
   have hz:=I20 l (by omega)
   simp only [if_pos h2]
   refine B1 (cmC c k F X) fun u=>?_;refine Je ?_
   refine B1 (W3 c k F.env F.caps X.bad) fun ⟨ca,cn,mb⟩=>?_;refine Je ?_
   (refine Ja ?_;intros)
   rw [B75,if_neg hb]
   (refine Ja ?_;intros)
   rw [Eu2 hb]
   (refine Ja ?_;intros)
   rw [Ec3 hb]
   (refine Ja ?_;intros)
   rw [Dq2 X.bad 0 X.bad.length _ 0 rfl (by omega),Nat.zero_add]
   (refine Ja ?_;intros)
   rw [Eu5]
   refine Tr.jmp Bi5 (Tr.eq (Bw0 ..) ?_);(try simp only[Nr,Nl,wl,Nat.reduceAdd,Nat.reduceMul,Int.reduceToNat])
   refine Yt (by rw [bne_iff_ne];omega) ?_
   rw [show X.bad.length+1=(X.bad++[rc]).length by simp]
   refine A9 (W3 c k F.env F.caps (X.bad++[rc])) ⟨ca,cn,mb⟩ ?_;refine Je ?_
   refine A9 (cmC c k F { X with bad:=X.bad++[rc] }) () ?_;refine Je ?_
   refine Ys fun o=>?_
   exact ⟨by rw [hz],o.sub⟩
  ·refine Yf (by simpa using h2) ?_
   simp only [if_neg h2]
   refine Tr.jmp Bi5 (Tr.eq (Bw0 ..) ?_);(try simp only[Nr,Nl,wl,Nat.reduceAdd,Nat.reduceMul,Int.reduceToNat])
   by_cases h1:(At1 l).2=1
   ·refine Yf (by simpa using h1) ?_
    refine Ys fun o=>?_
    exact ⟨rfl,o.sub⟩
   ·refine Yt (by simpa using h1) ?_
    refine Ys fun o=>?_
    exact ⟨by rw [I20 l h1],o.sub⟩
 ·refine (?_:Tr _ _ _ _) o
  refine Je ?_
  have e:Z6 At1 0 X rc=((0,2),X):=by unfold Z6;rw [hr]
  rw [e]
  (refine Ja ?_;intros)
  refine Ys fun o=>?_
  exact ⟨rfl,o.sub⟩
abbrev Ez1 (X:CX) (i:Int):(ProcS × Int) × CX:=Z6 Ac0 .zero X ⟨1,i⟩
abbrev Es3 (X:CX) (i:Int):(FileS × Int) × CX:=Z6 Ac4 .zero X ⟨2,i⟩
abbrev D06 (X:CX) (i:Int):(PipeS × Int) × CX:=Z6 U6 .zero X ⟨3,i⟩
abbrev Gg9 (X:CX):(PipeS × Int) × CX:=Z6 U6 .zero X ⟨4,0⟩
abbrev Gc8 (X:CX):(Int × Int) × CX:=Z6 At1 0 X ⟨5,0⟩
abbrev Az4 (X:CX) (i:Int) (p:ProcS):Bool × CX:=wrX X ⟨1,i⟩ (A30 p) (okS p)
abbrev Br6 (X:CX) (i:Int) (p:FileS):Bool × CX:=wrX X ⟨2,i⟩ (Ao3 p) (okF p)
abbrev Bg0 (X:CX) (i:Int) (p:PipeS):Bool × CX:=wrX X ⟨3,i⟩ (N6 p) (okP p)
abbrev Do4 (X:CX) (rc:RecS):Bool × CX:=wrX X rc (List.replicate (W2 rc.kind) 0) true
theorem En6 (X:CX) (rc:RecS) (b:List UInt8):wrX X rc b false=(false,X):=by
 unfold wrX;split<;>simp
theorem Hg4 (c k:Nat) (F:Fr) (X:CX) (rc:RecS) (ok:FrOk F):Ct A7 Ac8 [P0 c,.agg ⟨Ad1 rc⟩] [cmC c k F X] fun v own =>
  v=.bool (Do4 X rc).1∧own [cmC c k F (Do4 X rc).2]:=by
 refine Ct.of Ea7 rfl fun h r=>Tr.eq (Ea3 ..) ?_;refine Je ?_
 refine B1 (cmC c k F X) fun u=>?_;refine Je ?_
 refine O5 2 rfl fun f=>?_
 (repeat' first|refine Gu ?_|(with_reducible first|refine Gn fun b h=>?_|apply Gx|apply Gy|rintro px rfl|apply Gw|refine fun(h:H)=>?_|intro hb)|refine Gs ?_|refine Gt ?_|exact Gz rfl|fail)
 refine Yc (Ge3 c k F.env F.caps X.bad rc ok.small ok.ne) ?_;rintro _ h ⟨rfl,o⟩<;>(refine (?_:Tr _ _ _ _) o;refine Je ?_;(repeat' first|refine Gu ?_|(with_reducible first|refine Gn fun b h=>?_|apply Gx|apply Gy|rintro px rfl|apply Gw|refine fun(h:H)=>?_|intro hb)|refine Gs ?_|refine Gt ?_|exact Gz rfl|fail))
 have em:=f.mlen ok
 cases hp:I8 F.caps.length rc with
 | none =>
  (repeat' first|refine Gu ?_|(with_reducible first|refine Gn fun b h=>?_|apply Gx|apply Gy|rintro px rfl|apply Gw|refine fun(h:H)=>?_|intro hb)|refine Gs ?_|refine Gt ?_|exact Gz rfl|fail)
  rw [show E7 (Int.toNat 0) [.int .u8 0]=A0 [] from rfl]
  refine Ah3 0 rfl 1 0 rfl (by omega) ?_
  refine Je ?_
  refine A9 (cmC c k F X) () ?_;refine Je ?_
  refine Yc (B74 c k F X rc ok [] false (some ⟨b,0,none⟩) 0 (by simp)) ?_;rintro _ h ⟨rfl,o⟩<;>(refine (?_:Tr _ _ _ _) o;refine Je ?_;(repeat' first|refine Gu ?_|(with_reducible first|refine Gn fun b h=>?_|apply Gx|apply Gy|rintro px rfl|apply Gw|refine fun(h:H)=>?_|intro hb)|refine Gs ?_|refine Gt ?_|exact Gz rfl|fail))
  refine Ys fun o=>?_
  have e:Do4 X rc=(false,X):=by unfold Do4 wrX;rw [em,hp]
  rw [En6] at o
  rw [e,En6]
  exact ⟨by first|rfl|trivial,o.sub⟩
 | some p =>
  obtain ⟨j,a,n⟩:=p
  have hn:=Dz3 hp
  subst hn
  have h40:W2 rc.kind≤40:=by unfold W2;(repeat' split)<;>omega
  (repeat' first|refine Gu ?_|(with_reducible first|refine Gn fun b h=>?_|apply Gx|apply Gy|rintro px rfl|apply Gw|refine fun(h:H)=>?_|intro hb)|refine Gs ?_|refine Gt ?_|exact Gz rfl|fail)
  refine Tr.ck ⟨by omega,by omega,by simp only [A8];omega⟩ ?_
  refine Yn fun b1 h=>?_
  rw [Int.toNat_natCast,show E7 (W2 rc.kind) [.int .u8 0]=A0 (List.replicate (W2 rc.kind) 0) by simp [E7,A0]]
  refine Ah3 0 rfl 1 (W2 rc.kind) (by simp [A0]) (by omega) ?_
  refine Je ?_
  refine A9 (cmC c k F X) () ?_;refine Je ?_
  have J:=B74 c k F X rc ok (List.replicate (W2 rc.kind) 0) true (some ⟨b1,0,none⟩) (W2 rc.kind) (by simp)
  rw [List.length_replicate] at J
  refine Yc (J) ?_;rintro _ h ⟨rfl,o⟩<;>(refine (?_:Tr _ _ _ _) o;refine Je ?_;(repeat' first|refine Gu ?_|(with_reducible first|refine Gn fun b h=>?_|apply Gx|apply Gy|rintro px rfl|apply Gw|refine fun(h:H)=>?_|intro hb)|refine Gs ?_|refine Gt ?_|exact Gz rfl|fail))
  refine Ys fun o=>?_
  exact ⟨rfl,o.sub⟩
theorem Ez4 (c k:Nat) (F:Fr) (X:CX) (rc:RecS) (ok:FrOk F):Ct A7 N7 [P0 c,.agg ⟨Ad1 rc⟩,.slice none 0 0,.bool false] [cmC c k F X] fun v own=>v=.bool false∧own [cmC c k F X]:=by
 intro h r o
 have o1:Own h (slC false A5 1 none 0 0 (A0 [])::cmC c k F X::r):=o.slNil false A5 (by omega)
 obtain ⟨v,h',e,rfl,o2⟩:=B74 c k F X rc ok [] false none 0 (by simp) h r (o1.perm (.swap _ _ _))
 rw [En6] at e o2
 exact ⟨_,h',e,rfl,o2.sub⟩
theorem Gv2 (i:Int):Ct A7 Bd0 [int i] [] fun v own=>v=.agg ⟨Ad1 ⟨1,i⟩⟩∧own []:=by
 refine Ct.of G90 rfl fun h r=>Tr.eq (Hc6 ..) ?_;refine Je ?_
 (refine Ja ?_;intros)
 refine Ys fun o=>?_
 exact ⟨rfl,o.sub⟩
theorem Ev8 (i:Int):Ct A7 Az2 [int i] [] fun v own=>v=.agg ⟨Ad1 ⟨2,i⟩⟩∧own []:=by
 refine Ct.of Hb4 rfl fun h r=>Tr.eq (Hc3 ..) ?_;refine Je ?_
 (refine Ja ?_;intros)
 refine Ys fun o=>?_
 exact ⟨rfl,o.sub⟩
theorem Ew4 (i:Int):Ct A7 Az0 [int i] [] fun v own=>v=.agg ⟨Ad1 ⟨3,i⟩⟩∧own []:=by
 refine Ct.of Ha4 rfl fun h r=>Tr.eq (Ha3 ..) ?_;refine Je ?_
 (refine Ja ?_;intros)
 refine Ys fun o=>?_
 exact ⟨rfl,o.sub⟩
theorem A84 (c k:Nat) (F:Fr) (X:CX) (ok:FrOk F) (i:Int):Ct A7 M7 [P0 c,int i] [cmC c k F X] fun v own=>v=.tuple ⟨[.agg ⟨D7 (Ez1 X i).1.1⟩,int (Ez1 X i).1.2]⟩∧own [cmC c k F (Ez1 X i).2]:=by
 refine Ct.of Ei8 rfl fun h r=>Tr.eq (El1 ..) ?_;refine Je ?_
 (refine Ja ?_;intros)
 refine Yc (Gv2 i) ?_;rintro _ h ⟨rfl,o⟩<;>(refine Jf o ?_;intros)
 refine Yc (Jg6 c k F X ⟨1,i⟩ ok rfl) ?_;rintro _ h ⟨rfl,o⟩<;>(refine Jf o ?_;intros)
 refine Ys fun o=>?_
 exact ⟨rfl,o.sub⟩
theorem Dk9 (c k:Nat) (F:Fr) (X:CX) (ok:FrOk F) (i:Int):Ct A7 M8 [P0 c,int i] [cmC c k F X] fun v own=>v=.tuple ⟨[.agg ⟨Ak6 (Es3 X i).1.1⟩,int (Es3 X i).1.2]⟩∧own [cmC c k F (Es3 X i).2]:=by
 refine Ct.of Eg9 rfl fun h r=>Tr.eq (Ej0 ..) ?_;refine Je ?_
 (refine Ja ?_;intros)
 refine Yc (Ev8 i) ?_;rintro _ h ⟨rfl,o⟩<;>(refine Jf o ?_;intros)
 refine Yc (Jl6 c k F X ⟨2,i⟩ ok rfl) ?_;rintro _ h ⟨rfl,o⟩<;>(refine Jf o ?_;intros)
 refine Ys fun o=>?_
 exact ⟨rfl,o.sub⟩
theorem Et8 (c k:Nat) (F:Fr) (X:CX) (ok:FrOk F) (i:Int):Ct A7 Q8 [P0 c,int i] [cmC c k F X] fun v own=>v=.tuple ⟨[.agg ⟨E5 (D06 X i).1.1⟩,int (D06 X i).1.2]⟩∧own [cmC c k F (D06 X i).2]:=by
 refine Ct.of Ek1 rfl fun h r=>Tr.eq (El0 ..) ?_;refine Je ?_
 (refine Ja ?_;intros)
 refine Yc (Ew4 i) ?_;rintro _ h ⟨rfl,o⟩<;>(refine Jf o ?_;intros)
 refine Yc (Ii5 c k F X ⟨3,i⟩ ok rfl) ?_;rintro _ h ⟨rfl,o⟩<;>(refine Jf o ?_;intros)
 refine Ys fun o=>?_
 exact ⟨rfl,o.sub⟩
theorem Jd9 (c k:Nat) (F:Fr) (X:CX) (ok:FrOk F):Ct A7 Ae8 [P0 c] [cmC c k F X] fun v own=>v=.tuple ⟨[.agg ⟨E5 (Gg9 X).1.1⟩,int (Gg9 X).1.2]⟩∧own [cmC c k F (Gg9 X).2]:=by
 refine Ct.of Eg6 rfl fun h r=>Tr.eq (Ef7 ..) ?_;refine Je ?_
 (refine Ja ?_;intros)
 refine Yc (Ii5 c k F X ⟨4,0⟩ ok rfl) ?_;rintro _ h ⟨rfl,o⟩<;>(refine Jf o ?_;intros)
 refine Ys fun o=>?_
 exact ⟨rfl,o.sub⟩
theorem Iw9 (c k:Nat) (F:Fr) (X:CX) (ok:FrOk F):Ct A7 An0 [P0 c] [cmC c k F X] fun v own=>v=.tuple ⟨[int (Gc8 X).1.1,.bool ((Gc8 X).1.2==1)]⟩∧own [cmC c k F (Gc8 X).2]:=by
 refine Ct.of Ea6 rfl fun h r=>Tr.eq (Ea2 ..) ?_;refine Je ?_
 (refine Ja ?_;intros)
 refine Yc (Jk4 c k F X ⟨5,0⟩ ok rfl) ?_;rintro _ h ⟨rfl,o⟩<;>(refine Jf o ?_;intros)
 refine Ys fun o=>?_
 exact ⟨rfl,o.sub⟩
theorem D91 (f:FileS):(Ao3 f).length=8:=rfl
theorem Do2 (c k:Nat) (F:Fr) (X:CX) (ok:FrOk F) (i:Int) (p:ProcS):Ct A7 O1 [P0 c,int i,.agg ⟨D7 p⟩] [cmC c k F X] fun v own=>v=.bool (Az4 X i p).1∧own [cmC c k F (Az4 X i p).2]:=by
 refine Ct.of D12 rfl fun h r=>Tr.eq (Dy1 ..) ?_;refine Je ?_
 (refine Ja ?_;intros)
 refine Yc (G64 p) ?_
 rintro v h (⟨hk,a,rfl,o⟩|⟨hk,rfl,o⟩)
 ·refine (?_:Tr _ _ _ _) o
  refine Je ?_
  (refine Ja ?_;intros)
  refine Yc (Gv2 i) ?_;rintro _ h ⟨rfl,o⟩<;>(refine Jf o ?_;intros)
  have J:=B74 c k F X ⟨1,i⟩ ok (A30 p) true a 24 (fun _=>Ew0 p)
  rw [Ew0] at J
  refine Yc (J) ?_;rintro _ h ⟨rfl,o⟩<;>(refine Jf o ?_;intros)
  refine Ys fun o=>?_
  unfold Az4;rw [hk]
  exact ⟨rfl,o.sub⟩
 ·refine (?_:Tr _ _ _ _) o
  refine Je ?_
  (refine Ja ?_;intros)
  refine Yc (Gv2 i) ?_;rintro _ h ⟨rfl,o⟩<;>(refine Jf o ?_;intros)
  refine Yc (Ez4 c k F X ⟨1,i⟩ ok) ?_;rintro _ h ⟨rfl,o⟩<;>(refine Jf o ?_;intros)
  refine Ys fun o=>?_
  unfold Az4;rw [hk,En6]
  exact ⟨rfl,o.sub⟩
theorem Dm4 (c k:Nat) (F:Fr) (X:CX) (ok:FrOk F) (i:Int) (p:FileS):Ct A7 N8 [P0 c,int i,.agg ⟨Ak6 p⟩] [cmC c k F X] fun v own=>v=.bool (Br6 X i p).1∧own [cmC c k F (Br6 X i p).2]:=by
 refine Ct.of Dz4 rfl fun h r=>Tr.eq (Dx0 ..) ?_;refine Je ?_
 (refine Ja ?_;intros)
 refine Yc (G44 p) ?_
 rintro v h (⟨hk,a,rfl,o⟩|⟨hk,rfl,o⟩)
 ·refine (?_:Tr _ _ _ _) o
  refine Je ?_
  (refine Ja ?_;intros)
  refine Yc (Ev8 i) ?_;rintro _ h ⟨rfl,o⟩<;>(refine Jf o ?_;intros)
  have J:=B74 c k F X ⟨2,i⟩ ok (Ao3 p) true a 8 (fun _=>D91 p)
  rw [D91] at J
  refine Yc (J) ?_;rintro _ h ⟨rfl,o⟩<;>(refine Jf o ?_;intros)
  refine Ys fun o=>?_
  unfold Br6;rw [hk]
  exact ⟨rfl,o.sub⟩
 ·refine (?_:Tr _ _ _ _) o
  refine Je ?_
  (refine Ja ?_;intros)
  refine Yc (Ev8 i) ?_;rintro _ h ⟨rfl,o⟩<;>(refine Jf o ?_;intros)
  refine Yc (Ez4 c k F X ⟨2,i⟩ ok) ?_;rintro _ h ⟨rfl,o⟩<;>(refine Jf o ?_;intros)
  refine Ys fun o=>?_
  unfold Br6;rw [hk,En6]
  exact ⟨rfl,o.sub⟩
theorem Ek2 (c k:Nat) (F:Fr) (X:CX) (ok:FrOk F) (i:Int) (p:PipeS):Ct A7 S6 [P0 c,int i,.agg ⟨E5 p⟩] [cmC c k F X] fun v own=>v=.bool (Bg0 X i p).1∧own [cmC c k F (Bg0 X i p).2]:=by
 refine Ct.of D10 rfl fun h r=>Tr.eq (Dy2 ..) ?_;refine Je ?_
 (refine Ja ?_;intros)
 refine Yc (G73 p) ?_
 rintro v h (⟨hk,a,rfl,o⟩|⟨hk,rfl,o⟩)
 ·refine (?_:Tr _ _ _ _) o
  refine Je ?_
  (refine Ja ?_;intros)
  refine Yc (Ew4 i) ?_;rintro _ h ⟨rfl,o⟩<;>(refine Jf o ?_;intros)
  have J:=B74 c k F X ⟨3,i⟩ ok (N6 p) true a 40 (fun _=>Bt1 p.len)
  rw [Bt1 p.len] at J
  refine Yc (J) ?_;rintro _ h ⟨rfl,o⟩<;>(refine Jf o ?_;intros)
  refine Ys fun o=>?_
  unfold Bg0;rw [hk]
  exact ⟨rfl,o.sub⟩
 ·refine (?_:Tr _ _ _ _) o
  refine Je ?_
  (refine Ja ?_;intros)
  refine Yc (Ew4 i) ?_;rintro _ h ⟨rfl,o⟩<;>(refine Jf o ?_;intros)
  refine Yc (Ez4 c k F X ⟨3,i⟩ ok) ?_;rintro _ h ⟨rfl,o⟩<;>(refine Jf o ?_;intros)
  refine Ys fun o=>?_
  unfold Bg0;rw [hk,En6]
  exact ⟨rfl,o.sub⟩
theorem Hs1 (c k:Nat) (F:Fr) (X:CX) (ok:FrOk F) (i:Int):Ct A7 Ag4 [P0 c,int i] [cmC c k F X] fun v own=>v=.bool (Do4 X ⟨2,i⟩).1∧own [cmC c k F (Do4 X ⟨2,i⟩).2]:=by
 refine Ct.of Du1 rfl fun h r=>Tr.eq (Du7 ..) ?_;refine Je ?_
 refine Yc (Ev8 i) ?_;rintro _ h ⟨rfl,o⟩<;>(refine Jf o ?_;intros)
 refine Yc (Hg4 c k F X ⟨2,i⟩ ok) ?_;rintro _ h ⟨rfl,o⟩<;>(refine Jf o ?_;intros)
 refine Ys fun o=>?_
 exact ⟨rfl,o.sub⟩
theorem Hv9 (c k:Nat) (F:Fr) (X:CX) (ok:FrOk F) (i:Int):Ct A7 Ag3 [P0 c,int i] [cmC c k F X] fun v own=>v=.bool (Do4 X ⟨3,i⟩).1∧own [cmC c k F (Do4 X ⟨3,i⟩).2]:=by
 refine Ct.of Ds8 rfl fun h r=>Tr.eq (Ds2 ..) ?_;refine Je ?_
 refine Yc (Ew4 i) ?_;rintro _ h ⟨rfl,o⟩<;>(refine Jf o ?_;intros)
 refine Yc (Hg4 c k F X ⟨3,i⟩ ok) ?_;rintro _ h ⟨rfl,o⟩<;>(refine Jf o ?_;intros)
 refine Ys fun o=>?_
 exact ⟨rfl,o.sub⟩
def Dy0 (f:CX→Int→CX):Nat→Int→CX→CX
 | 0,_,X=>X
 | m+1,i,X=>Dy0 f m (i+1) (f X i)
def Gz9 (X:CX):CX:=(Gc8 (Gg9 X).2).2
def Hp6 (nc:Nat) (X:CX):CX:=Gz9 (Dy0 (fun X i=>(D06 X i).2) (3+nc) 0 X)
def Hw6 (nc:Nat) (X:CX):CX:=Hp6 nc (Dy0 (fun X i=>(Es3 X i).2) 12 0 X)
def lookN (nc:Nat) (X:CX):CX:=Hw6 nc (Dy0 (fun X i=>(Ez1 X i).2) 8 0 X)
def Gz3 (X:CX):CX:=lookN X.m.length X
theorem In6 (c k:Nat) (F:Fr) (ok:FrOk F):∀ (m:Nat) (i:Int) (X:CX),0≤i→i+m=3+F.caps.length →
  CtJ I1 B6 Ai2 [(0,P0 c),(20,int (3+F.caps.length)),(21,int i)] [cmC c k F X] fun v own=>v=.tuple ⟨[]⟩∧own [cmC c k F (Gz9 (Dy0 (fun X i=>(D06 X i).2) m i X))]:=by
 have hs:=ok.small
 intro m
 induction m with
 | zero =>
  intro i X h0 hi
  refine CtJ.of R0 fun h r=>Tr.eq (Bn2 ..) ?_;refine Je ?_
  refine Yf (by simp;omega) ?_
  refine Yc (Jd9 c k F X ok) ?_;rintro _ h ⟨rfl,o⟩<;>(refine Jf o ?_;intros)
  refine Yc (Iw9 c k F (Gg9 X).2 ok) ?_;rintro _ h ⟨rfl,o⟩<;>(refine Jf o ?_;intros)
  refine Ys fun o=>?_
  exact ⟨rfl,o⟩
 | succ m ih =>
  intro i X h0 hi
  have e1:=wI i
  refine CtJ.of R0 fun h r=>Tr.eq (Bn2 ..) ?_;refine Je ?_
  refine Yt (by simp;omega) ?_
  refine Yc (Et8 c k F X ok i) ?_;rintro _ h ⟨rfl,o⟩<;>(refine Jf o ?_;intros)
  rw [e1]
  refine Yr (ih (i+1) (D06 X i).2 (by omega) (by omega)) ?_
  rintro _ h ⟨rfl,o⟩
  exact ⟨rfl,o⟩
theorem In8 (c k:Nat) (F:Fr) (ok:FrOk F):∀ (m:Nat) (i:Int) (X:CX),0≤i→i+m=12 →
  CtJ I1 B6 Ai7 [(0,P0 c),(12,int i)] [cmC c k F X] fun v own=>v=.tuple ⟨[]⟩∧own [cmC c k F (Hp6 F.caps.length (Dy0 (fun X i=>(Es3 X i).2) m i X))]:=by
 have hs:=ok.small
 intro m
 induction m with
 | zero =>
  intro i X h0 hi
  refine CtJ.of R0 fun h r=>Tr.eq (Bp0 ..) ?_;refine Je ?_
  refine Yf (by simp;omega) ?_
  refine B1 (cmC c k F X) fun u=>?_;refine Je ?_
  refine Tr.pcall (H01 c k F.env F.caps X.bad 3 ok.small) ?_;refine Je ?_;(refine Ja ?_;intros)
  refine A9 (cmC c k F X) () ?_;refine Je ?_
  refine Yr (In6 c k F ok (3+F.caps.length) 0 X (by omega) (by omega)) ?_
  rintro _ h ⟨rfl,o⟩
  exact ⟨rfl,o⟩
 | succ m ih =>
  intro i X h0 hi
  have e1:=wI i
  refine CtJ.of R0 fun h r=>Tr.eq (Bp0 ..) ?_;refine Je ?_
  refine Yt (by simp;omega) ?_
  refine Yc (Dk9 c k F X ok i) ?_;rintro _ h ⟨rfl,o⟩<;>(refine Jf o ?_;intros)
  rw [e1]
  refine Yr (ih (i+1) (Es3 X i).2 (by omega) (by omega)) ?_
  rintro _ h ⟨rfl,o⟩
  exact ⟨rfl,o⟩
theorem Ip2 (c k:Nat) (F:Fr) (ok:FrOk F):∀ (m:Nat) (i:Int) (X:CX),0≤i→i+m=8 →
  CtJ I1 B6 Ai4 [(0,P0 c),(5,int i)] [cmC c k F X] fun v own=>v=.tuple ⟨[]⟩∧own [cmC c k F (Hw6 F.caps.length (Dy0 (fun X i=>(Ez1 X i).2) m i X))]:=by
 intro m
 induction m with
 | zero =>
  intro i X h0 hi
  refine CtJ.of R0 fun h r=>Tr.eq (Bo7 ..) ?_;refine Je ?_
  refine Yf (by simp;omega) ?_
  refine Yr (In8 c k F ok 12 0 X (by omega) (by omega)) ?_
  rintro _ h ⟨rfl,o⟩
  exact ⟨rfl,o⟩
 | succ m ih =>
  intro i X h0 hi
  have e1:=wI i
  refine CtJ.of R0 fun h r=>Tr.eq (Bo7 ..) ?_;refine Je ?_
  refine Yt (by simp;omega) ?_
  refine Yc (A84 c k F X ok i) ?_;rintro _ h ⟨rfl,o⟩<;>(refine Jf o ?_;intros)
  rw [e1]
  refine Yr (ih (i+1) (Ez1 X i).2 (by omega) (by omega)) ?_
  rintro _ h ⟨rfl,o⟩
  exact ⟨rfl,o⟩
theorem A37 (c k:Nat) (F:Fr) (X:CX) (ok:FrOk F):Ct A7 B6 [P0 c] [cmC c k F X] fun v own=>v=.tuple ⟨[]⟩∧own [cmC c k F (Gz3 X)]:=by
 refine Ct.of R0 rfl fun h r=>Tr.eq (Eg7 ..) ?_;refine Je ?_
 intro o
 obtain ⟨u,o1⟩:=Own.unfold (cmC c k F X) o
 have f:=(Own.front o1 (i:=2) rfl).pure
 have e:Gz3 X=lookN F.caps.length X:=by unfold Gz3;rw [f.mlen ok]
 rw [e]
 refine (?_:Tr _ _ _ _) o
 refine Yr (Ip2 c k F ok 8 0 X (by omega) (by omega)) ?_
 rintro _ h ⟨rfl,o⟩
 exact ⟨rfl,o⟩
end Go.EQ
