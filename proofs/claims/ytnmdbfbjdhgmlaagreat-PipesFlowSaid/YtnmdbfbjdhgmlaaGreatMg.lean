/- What is read out of a pipe is what was written, in order; small writes are whole; no more than there is room for goes in; no conditions. -/
import Derived.Test.YtnmdbfbjdhgmlaaGreatMf
set_option linter.all false
set_option maxRecDepth 10000
namespace Go.EQ
open Go Go.NN
theorem S8 (l:List UInt8):(A0 l).length=l.length:=by simp [A0]
theorem D23 {l:List UInt8} {i:Nat} {x:UInt8} (h:l[i]?=some x):(A0 l)[i]?=some (.int .u8 x.toNat):=by
 unfold A0;rw [List.getElem?_map,h];rfl
theorem Gj4 (l:List UInt8) (x:Nat):(A0 l).take x=A0 (l.take x):=by unfold A0;rw [List.map_take]
theorem Ik8 (l m:List UInt8):A0 (l++m)=A0 l++A0 m:=by simp [A0]
def D73 (n:Int) (l:List UInt8):Int:=l.foldl (fun n c=>IntKind.wrap .u8 (n+c.toNat)) n
def Gj2 (l:List UInt8):Int:=D73 (IntKind.wrap .u8 l.length) l
theorem Hy3 (p:HP) (a:Option Addr) (ro:Bool) (n c d:Nat) (l:List UInt8) [ks:IsSl p a ro A3 1 n c (A0 l)] (x:Nat) (hx:x≤l.length) (hl:l.length≤A9):∀ (m i:Nat) (acc:Int),x-i=m→i≤x →
  U0 G5 Z4 Bj6 [(3,.int .u8 acc),(9,.slice a x d),(10,int x),(11,int i)] [p] (.int .u8 (D73 acc ((l.take x).drop i))):=by
 intro m
 induction m with
 | zero =>
  intro i acc hm hi
  refine U0.of D04 fun h r=>Tr.eq (D39 ..) ?_;refine Je ?_
  refine Yf (by simp;omega) ?_
  refine Ys fun o=>?_
  rw [List.drop_eq_nil_of_le (by simp;omega)];exact ⟨rfl,rfl⟩
 | succ m ih =>
  intro i acc hm hi
  have hlt:i<(l.take x).length:=by rw [List.length_take];omega
  have hp:l[i]?=some (l.take x)[i]:=by
   rw [List.getElem_take];exact List.getElem?_eq_getElem (by omega)
  have hd:(l.take x).drop i=(l.take x)[i]::(l.take x).drop (i+1):=List.drop_eq_getElem_cons hlt
  generalize (l.take x)[i]=y at hp hd
  have e1:IntKind.wrap .i64 ((i:Int)+1)=((i+1:Nat):Int):=by rw [A7];simp only [A9] at hl;omega
  refine U0.of D04 fun h r=>Tr.eq (D39 ..) ?_;refine Je ?_
  refine Yt (by simp;omega) ?_
  refine P3 0 rfl fun h1 h2 h3=>?_
  rw [S8] at h1
  (refine Ja ?_;unhygienic intros;repeat(refine Gw ?_;rintro px rfl;refine Ja ?_;unhygienic intros))
  refine Tr.xIntS (v:=y.toNat) (by simpa using D23 hp) ?_
  rw [e1,hd]
  exact Y2 (ih (i+1) _ (by omega) (by omega)) (r:=r) (by simp) fun o=>⟨rfl,rfl⟩
theorem Gc1 (p:HP) (a:Option Addr) (ro:Bool) (n c d:Nat) (l:List UInt8) [ks:IsSl p a ro A3 1 n c (A0 l)] (x:Nat) (hx:x≤l.length) (hl:l.length≤A9) :
  CtP A8 Z4 [.slice a x d] [p] (.int .u8 (Gj2 (l.take x))):=by
 refine CtP.of D04 rfl fun h r=>Tr.eq (Hf9 ..) ?_;refine Je ?_
 have e:(l.take x).length=x:=by rw [List.length_take];omega
 have J:=Hy3 p a ro n c d l x hx hl _ 0 (IntKind.wrap .u8 x) rfl (by omega)
 rw [List.drop_zero] at J
 refine Y2 J (r:=r) (by simp) fun o=>⟨?_,rfl⟩
 unfold Gj2;rw [e]
def Dt9:Nat→List UInt8→Int
 | _,[]=>-1
 | i,x::l=>if x≠0 then i else Dt9 (i+1) l
theorem Go1:∀ (l:List UInt8) (i:Nat),decide (Dt9 i l≥0)=!l.all (·==0)
 | [],i=>by simp [Dt9]
 | x::l,i=>by
  unfold Dt9
  by_cases h:x=0
  ·rw [if_neg (by simp [h]),Go1 l (i+1)];simp [h]
  ·rw [if_pos h];simp [h]
theorem Io0 (x:UInt8):CtP A8 Ad9 [.int .u8 x.toNat] [] (.bool (x != 0)):=by
 refine CtP.of E85 rfl fun h r=>Tr.eq (E75 ..) ?_;refine Je ?_
 refine Ys fun o=>?_
 refine ⟨?_,rfl⟩
 congr 1
 have:((x.toNat:Int)=0)↔x=0:=by
  constructor
  ·intro h;exact UInt8.toNat.inj (by simpa using (show x.toNat=0 by omega))
  ·rintro rfl;rfl
 by_cases h:x=0
 ·subst h;rfl
 ·rw [bne_iff_ne.2 h,bne_iff_ne];intro h2;exact h (this.1 h2)
theorem E40 (p:HP) (a:Option Addr) (ro:Bool) (c:Nat) (l:List UInt8) [ks:IsSl p a ro A3 1 l.length c (A0 l)] (hl:l.length≤A9):∀ (m i:Nat),l.length-i=m→i≤l.length →
  U0 G5 E6 O9 [(0,.slice a l.length c),(1,.func (.func Ad9) ⟨[]⟩ ⟨[]⟩),(7,int l.length),(8,int i)] [p] (int (Dt9 i (l.drop i))):=by
 intro m
 induction m with
 | zero =>
  intro i hm hi
  refine U0.of Ae2 fun h r=>Tr.eq (Aq9 ..) ?_;refine Je ?_
  refine Yf (by simp;omega) ?_
  refine Ys fun o=>?_
  rw [List.drop_eq_nil_of_le (by omega)];exact ⟨rfl,rfl⟩
 | succ m ih =>
  intro i hm hi
  have hlt:i<l.length:=by omega
  have hp:l[i]?=some l[i]:=List.getElem?_eq_getElem hlt
  have hd:l.drop i=l[i]::l.drop (i+1):=List.drop_eq_getElem_cons hlt
  generalize l[i]=x at hp hd
  have e1:IntKind.wrap .i64 ((i:Int)+1)=((i+1:Nat):Int):=by rw [A7];simp only [A9] at hl;omega
  refine U0.of Ae2 fun h r=>Tr.eq (Aq9 ..) ?_;refine Je ?_
  refine Yt (by simp;omega) ?_
  (refine Ja ?_;unhygienic intros;repeat(refine Gw ?_;rintro px rfl;refine Ja ?_;unhygienic intros))
  refine Tr.xIntS (v:=x.toNat) (by simpa using D23 hp) ?_
  (refine Ja ?_;unhygienic intros)
  refine Bu6 (Io0 x) (r:=p::r) (by simp) ?_
  by_cases hx:x=0
  ·have:(x != 0)=false:=by simp [hx]
   rw [this]
   (refine Ja ?_;unhygienic intros)
   rw [e1]
   refine Y2 (ih (i+1) (by omega) (by omega)) (r:=r) (by simp) fun o=>?_
   rw [hd,Dt9,if_neg (by simp [hx])];exact ⟨by first|rfl|trivial,by first|rfl|trivial⟩
  ·have:(x != 0)=true:=by simp [hx]
   rw [this]
   (refine Ja ?_;unhygienic intros)
   refine Ys fun o=>?_
   rw [hd,Dt9,if_pos hx];exact ⟨by first|rfl|trivial,by first|rfl|trivial⟩
theorem H66 (p:HP) (a:Option Addr) (ro:Bool) (c:Nat) (l:List UInt8) [ks:IsSl p a ro A3 1 l.length c (A0 l)] (hl:l.length≤A9) :
  CtP A8 Al0 [.slice a l.length c] [p] (.bool (l.all (·==0))):=by
 have j:CtP A8 E6 [.slice a l.length c,.func (.func Ad9) ⟨[]⟩ ⟨[]⟩] [p] (int (Dt9 0 l)):=by
  refine CtP.of Ae2 rfl fun h r=>Tr.eq (Bv5 ..) ?_;refine Je ?_
  exact Y2 (E40 p a ro c l hl _ 0 rfl (by omega)) (r:=r) (by simp) fun o=>⟨rfl,rfl⟩
 have j2:CtP A8 O7 [.slice a l.length c,.func (.func Ad9) ⟨[]⟩ ⟨[]⟩] [p] (.bool (!l.all (·==0))):=by
  refine CtP.of Bn7 rfl fun h r=>Tr.eq (Bo0 ..) ?_;refine Je ?_
  refine Bu6 j (r:=r) (by simp) ?_
  (refine Ja ?_;unhygienic intros)
  refine Ys fun o=>?_
  rw [Go1];exact ⟨by first|rfl|trivial,by first|rfl|trivial⟩
 refine CtP.of Gr8 rfl fun h r=>Tr.eq (Gu4 ..) ?_;refine Je ?_
 refine Bu6 j2 (r:=r) (by simp) ?_
 (refine Ja ?_;unhygienic intros)
 refine Ys fun o=>?_
 exact ⟨by simp,rfl⟩
theorem G46 (p q:HP) (a:Option Addr) (ro:Bool) (c:Nat) (a2:Option Addr) (ro2:Bool) (c2:Nat) (l m:List UInt8) [ks:IsSl p a ro A3 1 l.length c (A0 l)] [ks2:IsSl q a2 ro2 A3 1 m.length c2 (A0 m)] (hl:l.length≤A9) (hlm:m.length=l.length):∀ (k i:Nat),l.length-i=k→i≤l.length →
  U0 G5 B8 U6 [(0,.slice a l.length c),(1,.slice a2 m.length c2),(12,int l.length),(13,int i)] [p,q] (.bool (decide (l.drop i=m.drop i))):=by
 intro k
 induction k with
 | zero =>
  intro i hm hi
  refine U0.of Al2 fun h r=>Tr.eq (A03 ..) ?_;refine Je ?_
  refine Yf (by simp;omega) ?_
  refine Ys fun o=>?_
  rw [List.drop_eq_nil_of_le (by omega),List.drop_eq_nil_of_le (by omega)];exact ⟨rfl,rfl⟩
 | succ k ih =>
  intro i hm hi
  have hlt:i<l.length:=by omega
  have hp:l[i]?=some l[i]:=List.getElem?_eq_getElem hlt
  have hd:l.drop i=l[i]::l.drop (i+1):=List.drop_eq_getElem_cons hlt
  have hlt2:i<m.length:=by omega
  have hp2:m[i]?=some m[i]:=List.getElem?_eq_getElem hlt2
  have hd2:m.drop i=m[i]::m.drop (i+1):=List.drop_eq_getElem_cons hlt2
  generalize l[i]=x at hp hd
  generalize m[i]=y at hp2 hd2
  have e1:IntKind.wrap .i64 ((i:Int)+1)=((i+1:Nat):Int):=by rw [A7];simp only [A9] at hl;omega
  refine U0.of Al2 fun h r=>Tr.eq (A03 ..) ?_;refine Je ?_
  refine Yt (by simp;omega) ?_
  (refine Ja ?_;unhygienic intros;repeat(refine Gw ?_;rintro px rfl;refine Ja ?_;unhygienic intros))
  refine Tr.xIntS (v:=x.toNat) (by simpa using D23 hp) ?_
  (refine Ja ?_;unhygienic intros;repeat(refine Gw ?_;rintro px rfl;refine Ja ?_;unhygienic intros))
  refine Tr.xIntS (v:=y.toNat) (by simpa using D23 hp2) ?_
  by_cases hx:x=y
  ·subst hx
   refine Yf (by simp) ?_
   rw [e1]
   refine Y2 (ih (i+1) (by omega) (by omega)) (r:=r) (by simp) fun o=>?_
   rw [hd,hd2];exact ⟨by simp,rfl⟩
  ·refine Yt (by rw [bne_iff_ne];intro h2;exact hx (UInt8.toNat.inj (by omega))) ?_
   refine Ys fun o=>?_
   rw [hd,hd2];exact ⟨by simp [hx],rfl⟩
theorem Eo4 (p q:HP) (a:Option Addr) (ro:Bool) (c:Nat) (a2:Option Addr) (ro2:Bool) (c2:Nat) (l m:List UInt8) [ks:IsSl p a ro A3 1 l.length c (A0 l)] [ks2:IsSl q a2 ro2 A3 1 m.length c2 (A0 m)] (hl:l.length≤A9) :
  CtP A8 B8 [.slice a l.length c,.slice a2 m.length c2] [p,q] (.bool (decide (l=m))):=by
 refine CtP.of Al2 rfl fun h r=>Tr.eq (Dd0 ..) ?_;refine Je ?_
 by_cases h:m.length=l.length
 ·refine Yf (by simp [h]) ?_
  have J:=G46 p q a ro c a2 ro2 c2 l m hl h _ 0 rfl (by omega)
  simp only [List.drop_zero] at J
  exact Y2 J (r:=r) (by simp) fun o=>⟨rfl,rfl⟩
 ·refine Yt (by rw [bne_iff_ne];omega) ?_
  refine Ys fun o=>?_
  exact ⟨by rw [decide_eq_false (fun e=>h (by rw [e]))],rfl⟩
theorem H17 (p:HP) (ro:Bool) (a:Option Addr) (c:Nat) (l:List UInt8) [ks:IsSl p a ro A3 1 l.length c (A0 l)] (hn:l.length≤A9) :
  Ct A8 G0 [.slice a l.length c] [p] fun v own=>∃ a' c',v=.slice a' l.length c'∧own [slC false A3 1 a' l.length c' (A0 l),p]:=by
 refine Ct.of Ba8 rfl fun h r=>Tr.eq (Bb1 ..) ?_;refine Je ?_
 refine P3 0 rfl fun hl hc _=>?_
 refine Tr.cond (fun hb=>?_) fun hb=>?_
 ·obtain rfl:a=none:=by simpa using hb
  refine G4 false A3 1 (by omega) ?_
  intro o
  have o1:=(o.tail.head ks.en).slNone
  obtain rfl:l=[]:=by
   have:=o1.2.2.1
   cases l with
   | nil=>rfl
   | cons x l=>simp [A0] at this
  obtain rfl:c=0:=o1.2.1
  exact ⟨_,_,rfl,none,0,rfl,o⟩
 ·(refine Ja ?_;unhygienic intros)
  refine Ah3 0 rfl 1 0 rfl (by omega) ?_;refine Je ?_
  (refine Ja ?_;unhygienic intros)
  refine Tr.xApd ⟨by simp [A0],by simp [A0,Value.oneCell],by omega⟩ fun a' c' h'=>?_
  refine Je ?_
  refine Ys fun o=>⟨a',c',by simp,by simpa using o⟩
end Go.EQ
namespace Go.NN
section
variable {l:List HP} {h:H} {α:Type} {Q:α→H→Prop} {ro:Bool} {e:TypeId} {cs:List Value}
instance {f:Fn} {a c:Array Value} {k:Option α}:Dx (one (.func f a c) k) k:=⟨rfl⟩
theorem Tr.xPCells {a:Option Addr} {n c sz:Nat} {vs cs':List Value} {l':List HP} {k:H→Option (α × H)} [k1:LkO l a false e sz n c cs] (hn:0<n) (hj:vs≠[]∧vs.length≤cs.length∧vs.all Value.oneCell=true∧vs++cs.drop vs.length=cs') [k2:UpO l a (slC false e sz a n c cs') e sz n c cs l'] (t:∀ h',Tr l' h' (k h') Q):Tr l h (NN.pCells a vs h k) Q:=fun ow=>by
 obtain ⟨i,p,hi,hp⟩:=k1.ix
 obtain ⟨y,rfl⟩:=((ow.front hi).head hp).slSome hn
 have:NN.pCells (Option.some y) vs h k=NN.pAgg ((B0 y).add 0) vs h k:=by
  show NN.pAgg (B0 y) vs h k=_
  congr 1
 rw [this]
 exact Tr.xPAggS (k1:=k1) ⟨hj.1,by omega,hj.2.2.1,by simpa using hj.2.2.2⟩ (k2:=k2) t ow
end
end Go.NN

set_option maxRecDepth 10000
namespace Go.EQ
open Go Go.NN
def b8 (x:Int):UInt8:=UInt8.ofNat (x%256).toNat
theorem Df4 (x:Int):IntKind.wrap .u8 x=x%256:=H58 x
theorem Bh6 (x:Int):IntKind.wrap .u8 x=((b8 x).toNat:Int):=by
 rw [Df4,b8,UInt8.toNat_ofNat']
 omega
def Bs4 (l:List UInt8):UInt8:=b8 (Gj2 l)
theorem G05:∀ (l:List UInt8) (n:Int),0≤n∧n<256→0≤D73 n l∧D73 n l<256
 | [],n,h=>h
 | x::l,n,h=>G05 l _ (by show 0≤IntKind.wrap .u8 (n+x.toNat)∧IntKind.wrap .u8 (n+x.toNat)<256;rw [Df4];omega)
theorem Dq6 (l:List UInt8):Gj2 l=((Bs4 l).toNat:Int):=by
 have:=G05 l (IntKind.wrap .u8 l.length) (by rw [Df4];omega)
 unfold Bs4
 rw [← Bh6,Df4]
 unfold Gj2 at *;omega
structure FileS where
 kind:Int
 pipe:Int
 refs:Int
 flags:Int
abbrev FileS.zero:FileS:=⟨0,0,0,0⟩
abbrev Ai2 (f:FileS):List Value:=[int f.kind,int f.pipe,int f.refs,int f.flags]
def okF (f:FileS):Bool:=decide (f.kind≥1) && decide (f.kind≤3) && decide (f.pipe≥0) && decide (f.pipe≤7) && (f.kind != 3 || f.pipe==0) && decide (f.refs≥1) && decide (f.refs≤64) && (f.flags==0 || f.flags==1)
def A66 (f:FileS):List UInt8:=[b8 f.kind,b8 f.pipe,b8 f.refs,b8 f.flags,179]
def Ah1 (f:FileS):List UInt8:=A66 f++[Bs4 (A66 f),0,0]
theorem Im1 (f:FileS):Ct A8 Dh0 [.agg ⟨Ai2 f⟩] [] fun v own=>v=.bool (okF f)∧own []:=by
 refine Ct.of Ht0 rfl fun h r=>Tr.eq (Hl8 ..) ?_;refine Je ?_
 (refine Ja ?_;unhygienic intros)
 refine Ys fun o=>?_
 refine ⟨?_,o.sub⟩
 rfl
theorem Ih3 (a:Option Addr) (c:Nat) (f:FileS):Ct A8 Aq4 [.agg ⟨Ai2 f⟩,.slice a 8 c] [slC false A3 1 a 8 c (A0 (List.replicate 8 0))] fun v own=>v=.bool (okF f)∧own [slC false A3 1 a 8 c (A0 (if okF f then Ah1 f else List.replicate 8 0))]:=by
 refine Ct.of Hg2 rfl fun h r=>Tr.eq (Hg5 ..) ?_;refine Je ?_
 (refine Ja ?_;unhygienic intros)
 refine Yc (Im1 f) ?_;rintro _ h ⟨rfl,o⟩<;>(refine Jf o ?_;unhygienic intros)
 cases hk:okF f with
 | false =>
  (refine Ja ?_;unhygienic intros)
  refine Ys fun o=>?_
  rw [if_neg (by simp)]
  exact ⟨rfl,o.sub⟩
 | true =>
  (refine Ja ?_;unhygienic intros)
  simp only [Bh6,List.drop_zero,List.take]
  refine P3 2 rfl fun hl hc _=>?_
  refine Tr.xPCells (cs':=A0 (A66 f++[0,0,0])) (by omega) ⟨by simp,by simp [A0],by simp [Value.oneCell],rfl⟩ fun h=>?_
  (refine Ja ?_;unhygienic intros)
  refine Tr.pcall (Gc1 (slC false A3 1 a 8 c (A0 (A66 f++[0,0,0]))) a false 8 c c (A66 f++[0,0,0]) 5 (by simp [A66]) (by simp [A66,A9])) ?_
  refine Je ?_
  (refine Ja ?_;unhygienic intros;repeat(refine Gw ?_;rintro px rfl;refine Ja ?_;unhygienic intros))
  rw [show List.take 5 (A66 f++[0,0,0]:List UInt8)=A66 f from rfl,Dq6]
  refine Tr.xVS (cs':=A0 (Ah1 f)) ⟨by simp [A0,A66],rfl,rfl⟩ fun h=>?_
  refine Ys fun o=>?_
  simp only [if_true]
  exact ⟨trivial,o.sub⟩
theorem Dv5 {l:List Value} (h:l.all (fun v=>match v with|.int _ _=>true|_=>false)=true):Aq0 (.agg ⟨l⟩) (.agg ⟨l⟩)=true:=by
 show Bp9 l l=true
 induction l with
 | nil=>rfl
 | cons v l ih =>
  simp only [List.all_cons,Bool.and_eq_true] at h
  show (A14 v v && Bp9 l l)=true
  rw [ih h.2,Bool.and_true]
  cases v<;>first|(simp [A14];done)|exact absurd h.1 (by simp)
abbrev Gx9 (k:Nat):HP:=pt k (.cells Ai7 false [int 8,.func (.func Aq4) ⟨[]⟩ ⟨[]⟩,.func (.func Aq3) ⟨[]⟩ ⟨[]⟩])
theorem Hd5 (k:Nat) (f:FileS):Ct A8 U7 [P0 k,.agg ⟨Ai2 f⟩] [Gx9 k] fun v own=>(okF f=true∧∃ a,v=.tuple ⟨[.slice a 8 8,.bool true]⟩∧own [Gx9 k,slC false A3 1 a 8 8 (A0 (Ah1 f))])∨(okF f=false∧v=.tuple ⟨[.slice none 0 0,.bool false]⟩∧own [Gx9 k]):=by
 refine Ct.of B15 rfl fun h r=>Tr.eq (B14 ..) ?_;refine Je ?_
 (refine Ja ?_;unhygienic intros)
 refine Tr.ck ⟨by omega,by omega,by simp [A9]⟩ ?_
 refine Yn fun b1 h=>?_
 rw [show H9 (Int.toNat 8) [.int .u8 0]=A0 (List.replicate 8 0) from rfl]
 refine Ah3 0 rfl 1 8 rfl (by omega) ?_
 simp only [List.set_cons_zero]
 refine Je ?_
 (refine Jb ?_;unhygienic intros)
 refine Yb (Yf rfl ?_)
 (refine Jb ?_;unhygienic intros)
 refine Yc (Ih3 (some ⟨b1,0,none⟩) 8 f) ?_;rintro _ h ⟨rfl,o⟩<;>(refine Jg o ?_;unhygienic intros)
 refine Ys fun o=>(?_:Tr _ _ _ _) o;refine Je ?_
 cases hk:okF f with
 | false =>
  (refine Ja ?_;unhygienic intros)
  refine Ys fun o=>?_
  exact .inr ⟨rfl,rfl,o.sub⟩
 | true =>
  (refine Ja ?_;unhygienic intros)
  refine Ys fun o=>?_
  simp only [if_true] at o
  exact .inl ⟨rfl,_,rfl,o.sub⟩
theorem Ig4:Ct A8 Ao0 [int 8,.func (.func Aq4) ⟨[]⟩ ⟨[]⟩,.func (.func Aq3) ⟨[]⟩ ⟨[]⟩] [] fun v own=>∃ k,v=P0 k∧own [pt k (.cells Ai7 false [int 8,.func (.func Aq4) ⟨[]⟩ ⟨[]⟩,.func (.func Aq3) ⟨[]⟩ ⟨[]⟩])]:=by
 refine Ct.of D56 rfl fun h r=>Tr.eq (D71 ..) ?_;refine Je ?_
 rw [show mm2 false (mm2 true 8 0) 64=8 from rfl]
 (refine Ja ?_;unhygienic intros)
 refine Ys fun o=>?_
 exact ⟨_,rfl,o.sub⟩
theorem Gm7:Ct A8 A94 [] [] fun v own=>∃ k,v=P0 k∧own [pt k (.cells Ai7 false [int 8,.func (.func Aq4) ⟨[]⟩ ⟨[]⟩,.func (.func Aq3) ⟨[]⟩ ⟨[]⟩])]:=by
 refine Ct.of Gr4 rfl fun h r=>Tr.eq (Gr5 ..) ?_;refine Je ?_
 refine Yc (Ig4) ?_;rintro _ h ⟨k,rfl,o⟩<;>(refine Jf o ?_;unhygienic intros)
 refine Ys fun o=>?_
 exact ⟨_,rfl,o.sub⟩
theorem Gb4 (f:FileS):Ct A8 A22 [.agg ⟨Ai2 f⟩] [] fun v own=>(okF f=true∧∃ a,v=.tuple ⟨[.slice a 8 8,.bool true]⟩∧own [slC false A3 1 a 8 8 (A0 (Ah1 f))])∨(okF f=false∧v=.tuple ⟨[.slice none 0 0,.bool false]⟩∧own []):=by
 refine Ct.of Gk3 rfl fun h r=>Tr.eq (Gf5 ..) ?_;refine Je ?_
 (refine Ja ?_;unhygienic intros)
 refine Yc (Gm7) ?_;rintro _ h ⟨k,rfl,o⟩<;>(refine Jf o ?_;unhygienic intros)
 refine Tr.same (Dv5 rfl) ?_
 refine Yc (Hd5 k f) ?_
 rintro v h (⟨hk,a,rfl,o⟩|⟨hk,rfl,o⟩)
 ·refine (?_:Tr _ _ _ _) o
  refine Je ?_
  (refine Ja ?_;unhygienic intros)
  refine Ys fun o=>?_
  exact .inl ⟨hk,a,rfl,o.sub⟩
 ·refine (?_:Tr _ _ _ _) o
  refine Je ?_
  (refine Ja ?_;unhygienic intros)
  refine Ys fun o=>?_
  exact .inr ⟨hk,rfl,o.sub⟩
theorem Ac4 {l:List UInt8} {i:Nat} (h:i<l.length):(A0 l)[i]?=some (.int .u8 ((l.getD i 0).toNat:Int)):=by
 rw [List.getD_eq_getElem?_getD,List.getElem?_eq_getElem h];exact D23 (List.getElem?_eq_getElem h)
theorem Al6 (x:UInt8):IntKind.wrap .i64 (x.toNat:Int)=(x.toNat:Int):=by
 have:=x.toNat_lt;rw [A7];omega
abbrev byI (l:List UInt8) (i:Nat):Int:=((l.getD i 0).toNat:Int)
def B40 (l:List UInt8):FileS:=⟨byI l 0,byI l 1,byI l 2,byI l 3⟩
def isF (l:List UInt8):Bool:=okF (B40 l) && decide (Ah1 (B40 l)=l)
theorem Ie0 (a:Option Addr) (c:Nat) (l:List UInt8) (hl:l.length=8):Ct A8 Aq3 [.slice a 8 c] [slC false A3 1 a 8 c (A0 l)] fun v own=>v=.tuple ⟨[.agg ⟨Ai2 (B40 l)⟩,.bool (isF l)]⟩∧own [slC false A3 1 a 8 c (A0 l)]:=by
 have key:∀ a1:Option Addr,CtP A8 B8 [.slice a1 8 8,.slice a 8 c] [slC false A3 1 a1 8 8 (A0 (Ah1 (B40 l))),slC false A3 1 a 8 c (A0 l)] (.bool (decide (Ah1 (B40 l)=l))):=fun a1=>by
  have J:=Eo4 (slC false A3 1 a1 8 8 (A0 (Ah1 (B40 l)))) (slC false A3 1 a l.length c (A0 l)) a1 false 8 a false c (Ah1 (B40 l)) l (by simp [Ah1,A66,A9])
  rwa [hl,show (Ah1 (B40 l)).length=8 from rfl] at J
 refine Ct.of Hd4 rfl fun h r=>Tr.eq (Ha0 ..) ?_;refine Je ?_
 refine Yn fun b1 h=>?_
 (refine Ja ?_;unhygienic intros;repeat(refine Gw ?_;rintro px rfl;refine Ja ?_;unhygienic intros))
 refine Tr.xIntS (v:=byI l 0) (Ac4 (by omega)) ?_
 (refine Ja ?_;unhygienic intros)
 refine Tr.xIntS (v:=byI l 1) (Ac4 (by omega)) ?_
 (refine Ja ?_;unhygienic intros)
 refine Tr.xIntS (v:=byI l 2) (Ac4 (by omega)) ?_
 (refine Ja ?_;unhygienic intros)
 refine Tr.xIntS (v:=byI l 3) (Ac4 (by omega)) ?_
 simp only [byI,Al6]
 refine Yn fun b2 h=>?_
 (refine Jb ?_;unhygienic intros)
 refine Yc (Gb4 (B40 l)) ?_
 rintro v h (⟨hk,a1,rfl,o⟩|⟨hk,rfl,o⟩)
 ·refine (?_:Tr _ _ _ _) o
  refine Je ?_
  (refine Jb ?_;unhygienic intros)
  refine Yb (Yt rfl ?_)
  refine Tr.pcall (key a1) ?_;refine Je ?_;(refine Jb ?_;unhygienic intros)
  refine Tr.same (Dv5 rfl) ?_
  refine Ys fun o=>(?_:Tr _ _ _ _) o;refine Je ?_
  (refine Ja ?_;unhygienic intros)
  refine Ys fun o=>?_
  exact ⟨by unfold isF;rw [hk,Bool.true_and];rfl,o.sub⟩
 ·refine (?_:Tr _ _ _ _) o
  refine Je ?_
  (refine Ja ?_;unhygienic intros)
  refine Ys fun o=>?_
  exact ⟨by unfold isF;rw [hk];rfl,o.sub⟩
theorem Eo8 (n:Nat) (a:Option Addr) (c:Nat) (l:List UInt8) (hl:l.length=n) (hn:n≤A9):Ct A8 G0 [.slice a n c] [slC false A3 1 a n c (A0 l)] fun v own=>∃ a' c',v=.slice a' n c'∧own [slC false A3 1 a' n c' (A0 l),slC false A3 1 a n c (A0 l)]:=by
 subst hl;exact H17 (slC false A3 1 a l.length c (A0 l)) false a c l hn
theorem Ei1 (n:Nat) (a:Option Addr) (c:Nat) (l:List UInt8) (hl:l.length=n) (hn:n≤A9):CtP A8 Al0 [.slice a n c] [slC false A3 1 a n c (A0 l)] (.bool (l.all (·==0))):=by
 subst hl;exact H66 (slC false A3 1 a l.length c (A0 l)) a false c l hn
theorem Hg9 (k:Nat) (a:Option Addr) (c:Nat) (l:List UInt8) (hl:l.length=8):Ct A8 U9 [P0 k,.slice a 8 c] [Gx9 k,slC false A3 1 a 8 c (A0 l)] fun v own=>v=.tuple ⟨[.agg ⟨Ai2 (if isF l then B40 l else .zero)⟩,.bool (isF l)]⟩∧own [Gx9 k,slC false A3 1 a 8 c (A0 l)]:=by
 refine Ct.of B24 rfl fun h r=>Tr.eq (B13 ..) ?_;refine Je ?_
 (refine Ja ?_;unhygienic intros)
 refine Yf rfl ?_
 (refine Jb ?_;unhygienic intros)
 refine Yc (Eo8 8 a c l hl (by simp [A9])) ?_;rintro _ h ⟨a1,c1,rfl,o⟩<;>(refine Jg o ?_;unhygienic intros)
 refine Yc (Ie0 a1 c1 l hl) ?_;rintro _ h ⟨rfl,o⟩<;>(refine Jg o ?_;unhygienic intros)
 cases hk:isF l with
 | false =>
  (refine Ja ?_;unhygienic intros)
  refine Ys fun o=>?_
  exact ⟨rfl,o.sub⟩
 | true =>
  (refine Ja ?_;unhygienic intros)
  refine Ys fun o=>?_
  exact ⟨rfl,o.sub⟩
def Z3 (l:List UInt8):FileS × Int:=if l.all (·==0) then (.zero,0) else if isF l then (B40 l,1) else (.zero,2)
theorem Hk2 (a:Option Addr) (c:Nat) (l:List UInt8) (hl:l.length=8):Ct A8 A46 [.slice a 8 c] [slC false A3 1 a 8 c (A0 l)] fun v own=>v=.tuple ⟨[.agg ⟨Ai2 (Z3 l).1⟩,int (Z3 l).2]⟩∧own [slC false A3 1 a 8 c (A0 l)]:=by
 refine Ct.of Gl2 rfl fun h r=>Tr.eq (Gi2 ..) ?_;refine Je ?_
 refine Yn fun b1 h=>?_
 refine Yb (Yt rfl ?_)
 refine Tr.pcall (Ei1 8 a c l hl (by simp [A9])) ?_;refine Je ?_;(refine Jb ?_;unhygienic intros)
 refine Ys fun o=>(?_:Tr _ _ _ _) o;refine Je ?_
 cases hb:l.all (·==0) with
 | true =>
  (refine Ja ?_;unhygienic intros)
  refine Ys fun o=>?_
  exact ⟨by unfold Z3;rw [hb];rfl,o.sub⟩
 | false =>
  (refine Jb ?_;unhygienic intros)
  refine Yc (Gm7) ?_;rintro _ h ⟨k,rfl,o⟩<;>(refine Jg o ?_;unhygienic intros)
  refine Yc (Hg9 k a c l hl) ?_;rintro _ h ⟨rfl,o⟩<;>(refine Jg o ?_;unhygienic intros)
  cases hk:isF l with
  | false =>
   (refine Ja ?_;unhygienic intros)
   refine Ys fun o=>?_
   exact ⟨by unfold Z3;rw [hb,hk];rfl,o.sub⟩
  | true =>
   (refine Ja ?_;unhygienic intros)
   refine Ys fun o=>?_
   exact ⟨by unfold Z3;rw [hb,hk];rfl,o.sub⟩
structure PipeS where
 head:Int
 count:Int
 readers:Int
 writers:Int
 data:List UInt8
 len:data.length=32
abbrev PipeS.zero:PipeS:=⟨0,0,0,0,List.replicate 32 0,rfl⟩
abbrev E1 (p:PipeS):List Value:=int p.head::int p.count::int p.readers::int p.writers::A0 p.data
theorem Ab6 {p:PipeS} (hd:p.data.length=32):(E1 p).length=36:=by simp [E1,S8,hd]
theorem Hk7 {p:PipeS} (hd:p.data.length=32):4+32≤(E1 p).length∧((E1 p).drop 4).take 32=A0 p.data:=⟨by rw [Ab6 hd];exact Nat.le_refl _,by
 rw [show (E1 p).drop 4=A0 p.data from rfl,List.take_of_length_le (by rw [S8,hd];exact Nat.le_refl _)]⟩
theorem Gn1 (p:PipeS):(E1 p).all Value.oneCell=true:=by simp [E1,Ae6,Value.oneCell]
theorem Ho6 (p:PipeS):Aq0 (.agg ⟨E1 p⟩) (.agg ⟨E1 p⟩)=true:=Dv5 (by simp [E1,A0])
instance {p:PipeS}:LenC (E1 p) 36:=⟨Ab6 p.len⟩
instance {p:PipeS}:PartC (E1 p) 0 36 (E1 p):=⟨Bt8 (Ab6 p.len)⟩
instance {p:PipeS} {cs:List Value} [k:LenC cs 36]:SetsC cs 0 (E1 p) (E1 p):=⟨Bf2 k.ok (Ab6 p.len) (Gn1 p)⟩
instance {p:PipeS}:SameC (.agg ⟨E1 p⟩):=⟨Ho6 p⟩
def okP (p:PipeS):Bool:=decide (0≤p.head∧p.head≤31) && decide (0≤p.count∧p.count≤32) && decide (0≤p.readers∧p.readers≤8) && decide (0≤p.writers∧p.writers≤8)
def Af9 (p:PipeS):List UInt8:=[1,b8 p.head,b8 p.count,b8 p.readers,b8 p.writers,197]
def I0 (p:PipeS):List UInt8:=Af9 p++Bs4 (Af9 p)::0::p.data
theorem Ay5 {p:PipeS} (hd:p.data.length=32):(I0 p).length=40:=by simp [I0,Af9,hd]
theorem Il4 (n m:Int):CtP A8 Aq1 [int n,int m] [] (.bool (decide (0≤n∧n≤m))):=by
 refine CtP.of He3 rfl fun h r=>Tr.eq (Hd8 ..) ?_;refine Je ?_
 (refine Ja ?_;unhygienic intros)
 refine Ys fun o=>?_
 refine ⟨?_,rfl⟩
 refine congrArg Value.bool ?_;rw [Bool.eq_iff_iff];simp only [Bool.and_eq_true,Bool.or_eq_true,Bool.not_eq_true',Bool.not_eq_false',decide_eq_true_eq,decide_eq_false_iff_not,bne_iff_ne,beq_iff_eq,ne_eq,A7,Z2,U4,ge_iff_le,gt_iff_lt];first|done|omega
instance {n m:Int} {l:List HP}:PCi A8 Aq1 [.int .i64 n,.int .i64 m] l (.bool (decide (0≤n∧n≤m))):=PCi.of (Il4 n m)
theorem Gx8 (p:PipeS):Ct A8 Bu5 [.agg ⟨E1 p⟩] [] fun v own=>v=.bool (okP p)∧own []:=by
 refine Ct.of H28 rfl fun h r=>Tr.eq (H14 ..) ?_;refine Je ?_
 (refine Ja ?_;unhygienic intros)
 refine Ys fun o=>?_
 exact ⟨rfl,o.sub⟩
theorem Id3 (a:Option Addr) (c:Nat) (p:PipeS):Ct A8 Bi4 [.agg ⟨E1 p⟩,.slice a 40 c] [slC false A3 1 a 40 c (A0 (List.replicate 40 0))] fun v own=>v=.bool (okP p)∧own [slC false A3 1 a 40 c (A0 (if okP p then I0 p else List.replicate 40 0))]:=by
 have hd:=p.len
 refine Ct.of Hl2 rfl fun h r=>Tr.eq (Hk9 ..) ?_;refine Je ?_
 refine Yn fun b1 h=>?_
 (refine Ja ?_;unhygienic intros)
 refine Yc (Gx8 p) ?_;rintro _ h ⟨rfl,o⟩<;>(refine Jg o ?_;unhygienic intros)
 cases hk:okP p with
 | false =>
  (refine Ja ?_;unhygienic intros)
  refine Ys fun o=>?_
  rw [if_neg (by simp)]
  exact ⟨rfl,o.sub⟩
 | true =>
  (refine Ja ?_;unhygienic intros)
  simp only [Bh6,List.drop_zero,List.take]
  refine P3 2 rfl fun hl hc _=>?_
  refine Tr.xPCells (cs':=A0 (Af9 p++List.replicate 34 0)) (by omega) ⟨by simp,by simp [A0],by simp [Value.oneCell],rfl⟩ fun h=>?_
  (refine Ja ?_;unhygienic intros)
  refine Tr.pcall (Gc1 (slC false A3 1 a 40 c (A0 (Af9 p++List.replicate 34 0))) a false 40 c c (Af9 p++List.replicate 34 0) 6 (by simp [Af9]) (by simp [Af9,A9])) ?_
  refine Je ?_
  (refine Ja ?_;unhygienic intros;repeat(refine Gw ?_;rintro px rfl;refine Ja ?_;unhygienic intros))
  rw [show List.take 6 (Af9 p++List.replicate 34 0:List UInt8)=Af9 p from rfl,Dq6]
  refine Tr.xVS (cs':=A0 (Af9 p++Bs4 (Af9 p)::List.replicate 33 0)) ⟨by simp [A0,Af9],rfl,rfl⟩ fun h=>?_
  (refine Ja ?_;unhygienic intros)
  refine Tr.xCellsB (xs:=A0 p.data) (Hk7 p.len) ?_
  rw [Gg8 (by omega),En4]
  refine Tr.xPAggS (cs':=A0 (I0 p)) ⟨?_,?_,Ae6 _,?_⟩ fun h=>?_
  ·intro e;have:=congrArg List.length e;simp [A0,hd] at this
  ·simp [A0,hd,Af9]
  ·rw [S8,hd]
   simp [A0,I0,Af9]
  refine Ys fun o=>?_
  simp only [if_true]
  exact ⟨trivial,o.sub⟩
abbrev E12 (k:Nat):HP:=pt k (.cells Bm4 false [int 40,.func (.func Bi4) ⟨[]⟩ ⟨[]⟩,.func (.func Bi7) ⟨[]⟩ ⟨[]⟩])
theorem Hf8 (k:Nat) (f:PipeS):Ct A8 U5 [P0 k,.agg ⟨E1 f⟩] [E12 k] fun v own=>(okP f=true∧∃ a,v=.tuple ⟨[.slice a 40 40,.bool true]⟩∧own [E12 k,slC false A3 1 a 40 40 (A0 (I0 f))])∨(okP f=false∧v=.tuple ⟨[.slice none 0 0,.bool false]⟩∧own [E12 k]):=by
 refine Ct.of B16 rfl fun h r=>Tr.eq (B18 ..) ?_;refine Je ?_
 (refine Ja ?_;unhygienic intros)
 refine Tr.ck ⟨by omega,by omega,by simp [A9]⟩ ?_
 refine Yn fun b1 h=>?_
 rw [show H9 (Int.toNat 40) [.int .u8 0]=A0 (List.replicate 40 0) from rfl]
 refine Ah3 0 rfl 1 40 rfl (by omega) ?_
 simp only [List.set_cons_zero]
 refine Je ?_
 (refine Jb ?_;unhygienic intros)
 refine Yb (Yf rfl ?_)
 (refine Jb ?_;unhygienic intros)
 refine Yc (Id3 (some ⟨b1,0,none⟩) 40 f) ?_;rintro _ h ⟨rfl,o⟩<;>(refine Jg o ?_;unhygienic intros)
 refine Ys fun o=>(?_:Tr _ _ _ _) o;refine Je ?_
 cases hk:okP f with
 | false =>
  (refine Ja ?_;unhygienic intros)
  refine Ys fun o=>?_
  exact .inr ⟨rfl,rfl,o.sub⟩
 | true =>
  (refine Ja ?_;unhygienic intros)
  refine Ys fun o=>?_
  simp only [if_true] at o
  exact .inl ⟨rfl,_,rfl,o.sub⟩
theorem If1:Ct A8 Ap1 [int 40,.func (.func Bi4) ⟨[]⟩ ⟨[]⟩,.func (.func Bi7) ⟨[]⟩ ⟨[]⟩] [] fun v own=>∃ k,v=P0 k∧own [E12 k]:=by
 refine Ct.of D65 rfl fun h r=>Tr.eq (D91 ..) ?_;refine Je ?_
 rw [show mm2 false (mm2 true 40 0) 64=40 from rfl]
 (refine Ja ?_;unhygienic intros)
 refine Ys fun o=>?_
 exact ⟨_,rfl,o.sub⟩
theorem Go7:Ct A8 Bg3 [] [] fun v own=>∃ k,v=P0 k∧own [E12 k]:=by
 refine Ct.of G75 rfl fun h r=>Tr.eq (Gz5 ..) ?_;refine Je ?_
 refine Yc (If1) ?_;rintro _ h ⟨k,rfl,o⟩<;>(refine Jf o ?_;unhygienic intros)
 refine Ys fun o=>?_
 exact ⟨_,rfl,o.sub⟩
theorem D79 (f:PipeS):Ct A8 Av2 [.agg ⟨E1 f⟩] [] fun v own=>(okP f=true∧∃ a,v=.tuple ⟨[.slice a 40 40,.bool true]⟩∧own [slC false A3 1 a 40 40 (A0 (I0 f))])∨(okP f=false∧v=.tuple ⟨[.slice none 0 0,.bool false]⟩∧own []):=by
 refine Ct.of Gr2 rfl fun h r=>Tr.eq (Gt0 ..) ?_;refine Je ?_
 refine Yn fun b1 h=>?_
 (refine Ja ?_;unhygienic intros)
 refine Yc (Go7) ?_;rintro _ h ⟨k,rfl,o⟩<;>(refine Jg o ?_;unhygienic intros)
 (refine Ja ?_;unhygienic intros)
 refine Yc (Hf8 k f) ?_
 rintro v h (⟨hk,a,rfl,o⟩|⟨hk,rfl,o⟩)
 ·refine (?_:Tr _ _ _ _) o
  refine Je ?_
  (refine Ja ?_;unhygienic intros)
  refine Ys fun o=>?_
  exact .inl ⟨hk,a,rfl,o.sub⟩
 ·refine (?_:Tr _ _ _ _) o
  refine Je ?_
  (refine Ja ?_;unhygienic intros)
  refine Ys fun o=>?_
  exact .inr ⟨hk,rfl,o.sub⟩
def Ds8 (l:List UInt8):List UInt8:=(l++List.replicate 32 0).take 32
theorem Ht8 (l:List UInt8):(Ds8 l).length=32:=by simp [Ds8]
theorem Ec7 {l:List UInt8} (h:l.length=32):Ds8 l=l:=by simp [Ds8,← h]
def Bc3 (l:List UInt8):PipeS:=⟨byI l 1,byI l 2,byI l 3,byI l 4,Ds8 (l.drop 8),Ht8 _⟩
def isP (l:List UInt8):Bool:=okP (Bc3 l) && decide (I0 (Bc3 l)=l)
theorem If0 (a:Option Addr) (c:Nat) (l:List UInt8) (hl:l.length=40):Ct A8 Bi7 [.slice a 40 c] [slC false A3 1 a 40 c (A0 l)] fun v own=>v=.tuple ⟨[.agg ⟨E1 (Bc3 l)⟩,.bool (isP l)]⟩∧own [slC false A3 1 a 40 c (A0 l)]:=by
 have hd:=(Bc3 l).len
 have hp:Ds8 (l.drop 8)=l.drop 8:=Ec7 (by simp [hl])
 have key:∀ a1:Option Addr,CtP A8 B8 [.slice a1 40 40,.slice a 40 c] [slC false A3 1 a1 40 40 (A0 (I0 (Bc3 l))),slC false A3 1 a 40 c (A0 l)] (.bool (decide (I0 (Bc3 l)=l))):=fun a1=>by
  have e:=Ay5 hd
  have J:=Eo4 (slC false A3 1 a1 (I0 (Bc3 l)).length 40 (A0 (I0 (Bc3 l)))) (slC false A3 1 a l.length c (A0 l)) a1 false 40 a false c (I0 (Bc3 l)) l (by rw [e];simp [A9])
  rwa [hl,e] at J
 refine Ct.of Hr1 rfl fun h r=>Tr.eq (Ho2 ..) ?_;refine Je ?_
 refine Yn fun b1 h=>?_
 refine P3 1 rfl fun hl2 hc2 _=>?_
 (refine Ja ?_;unhygienic intros;repeat(refine Gw ?_;rintro px rfl;refine Ja ?_;unhygienic intros))
 refine Tr.xIntS (v:=byI l 1) (Ac4 (by omega)) ?_
 (refine Ja ?_;unhygienic intros)
 refine Tr.xIntS (v:=byI l 2) (Ac4 (by omega)) ?_
 (refine Ja ?_;unhygienic intros)
 refine Tr.xIntS (v:=byI l 3) (Ac4 (by omega)) ?_
 (refine Ja ?_;unhygienic intros)
 refine Tr.xIntS (v:=byI l 4) (Ac4 (by omega)) ?_
 simp only [byI,Al6]
 refine Yn fun b2 h=>?_
 (refine Jb ?_;unhygienic intros)
 rw [Gg8 (show 8<c by omega),G85]
 refine Tr.xAggS (xs:=A0 (l.drop 8)) ⟨by omega,by simp [S8,hl],?_⟩ ?_
 ·rw [B51,List.take_of_length_le (by simp [S8,hl])]
 rw [show pCells (some (⟨b2,4,none⟩:Addr))=pAgg ⟨b2,4,none⟩ from rfl]
 refine Tr.xPAgg (cs':=E1 (Bc3 l)) ⟨by simp [S8,hl],Ae6 _,by simp [E1,Bc3,byI,S8,hl,hp]⟩ fun h=>?_
 (refine Ja ?_;unhygienic intros)
 refine Yc (D79 (Bc3 l)) ?_
 rintro v h (⟨hk,a1,rfl,o⟩|⟨hk,rfl,o⟩)
 ·refine (?_:Tr _ _ _ _) o
  refine Je ?_
  (refine Jb ?_;unhygienic intros)
  refine Yb (Yt rfl ?_)
  refine Tr.pcall (key a1) ?_;refine Je ?_;(refine Jb ?_;unhygienic intros)
  refine Ys fun o=>(?_:Tr _ _ _ _) o;refine Je ?_
  (refine Ja ?_;unhygienic intros)
  refine Ys fun o=>?_
  exact ⟨by unfold isP;rw [hk,Bool.true_and],o.sub⟩
 ·refine (?_:Tr _ _ _ _) o
  refine Je ?_
  (refine Ja ?_;unhygienic intros)
  refine Ys fun o=>?_
  exact ⟨by unfold isP;rw [hk];rfl,o.sub⟩
theorem Ha8 (k:Nat) (a:Option Addr) (c:Nat) (l:List UInt8) (hl:l.length=40):Ct A8 V3 [P0 k,.slice a 40 c] [E12 k,slC false A3 1 a 40 c (A0 l)] fun v own=>v=.tuple ⟨[.agg ⟨E1 (if isP l then Bc3 l else .zero)⟩,.bool (isP l)]⟩∧own [E12 k,slC false A3 1 a 40 c (A0 l)]:=by
 have hd:=(Bc3 l).len
 have hp:Ds8 (l.drop 8)=l.drop 8:=Ec7 (by simp [hl])
 refine Ct.of B23 rfl fun h r=>Tr.eq (B20 ..) ?_;refine Je ?_
 (refine Ja ?_;unhygienic intros)
 refine Yf rfl ?_
 (refine Jb ?_;unhygienic intros)
 refine Yc (Eo8 40 a c l hl (by simp [A9])) ?_;rintro _ h ⟨a1,c1,rfl,o⟩<;>(refine Jg o ?_;unhygienic intros)
 refine Yc (If0 a1 c1 l hl) ?_;rintro _ h ⟨rfl,o⟩<;>(refine Jg o ?_;unhygienic intros)
 cases hk:isP l with
 | false =>
  (refine Ja ?_;unhygienic intros)
  refine Ys fun o=>?_
  exact ⟨rfl,o.sub⟩
 | true =>
  (refine Ja ?_;unhygienic intros)
  refine Ys fun o=>?_
  exact ⟨rfl,o.sub⟩
def P7 (l:List UInt8):PipeS × Int:=if l.all (·==0) then (.zero,0) else if isP l then (Bc3 l,1) else (.zero,2)
theorem Hl6 (a:Option Addr) (c:Nat) (l:List UInt8) (hl:l.length=40):Ct A8 Au9 [.slice a 40 c] [slC false A3 1 a 40 c (A0 l)] fun v own=>v=.tuple ⟨[.agg ⟨E1 (P7 l).1⟩,int (P7 l).2]⟩∧own [slC false A3 1 a 40 c (A0 l)]:=by
 have hd:=(Bc3 l).len
 have hp:Ds8 (l.drop 8)=l.drop 8:=Ec7 (by simp [hl])
 refine Ct.of Gt7 rfl fun h r=>Tr.eq (Gt9 ..) ?_;refine Je ?_
 refine Yn fun b1 h=>?_
 refine Yb (Yt rfl ?_)
 refine Tr.pcall (Ei1 40 a c l hl (by simp [A9])) ?_;refine Je ?_;(refine Jb ?_;unhygienic intros)
 refine Ys fun o=>(?_:Tr _ _ _ _) o;refine Je ?_
 cases hb:l.all (·==0) with
 | true =>
  (refine Ja ?_;unhygienic intros)
  refine Ys fun o=>?_
  exact ⟨by unfold P7;rw [hb];rfl,o.sub⟩
 | false =>
  (refine Jb ?_;unhygienic intros)
  refine Yc (Go7) ?_;rintro _ h ⟨k,rfl,o⟩<;>(refine Jg o ?_;unhygienic intros)
  refine Yc (Ha8 k a c l hl) ?_;rintro _ h ⟨rfl,o⟩<;>(refine Jg o ?_;unhygienic intros)
  cases hk:isP l with
  | false =>
   (refine Ja ?_;unhygienic intros)
   refine Ys fun o=>?_
   exact ⟨by unfold P7;rw [hb,hk];rfl,o.sub⟩
  | true =>
   (refine Ja ?_;unhygienic intros)
   refine Ys fun o=>?_
   exact ⟨by unfold P7;rw [hb,hk];rfl,o.sub⟩
structure ProcS where
 state:Int
 parent:Int
 group:Int
 code:Int
 pending:Int
 mask:Int
 ignored:Int
 caught:Int
 fds:List Int
 len:fds.length=8
abbrev Gu5:List Int:=[0,0,0,0,0,0,0,0]
abbrev ProcS.zero:ProcS:=⟨0,0,0,0,0,0,0,0,Gu5,rfl⟩
abbrev D3 (p:ProcS):List Value:=int p.state::int p.parent::int p.group::int p.code::int p.pending::int p.mask::int p.ignored::int p.caught::p.fds.map int
theorem Bu3 (p:ProcS):(D3 p).length=16:=by simp [D3,p.len]
theorem Hw5 (p:ProcS):(D3 p).all Value.oneCell=true:=by simp [D3,Value.oneCell]
instance {p:ProcS}:LenC (D3 p) 16:=⟨Bu3 p⟩
instance {p:ProcS}:PartC (D3 p) 0 16 (D3 p):=⟨Bt8 (Bu3 p)⟩
instance {p:ProcS}:PartC (D3 p) 8 8 (p.fds.map int):=⟨by
 have h:Nat.ble (8+8) (D3 p).length=true:=by rw [Bu3];rfl
 have e:((D3 p).drop 8).take 8=p.fds.map int:=by rw [show (D3 p).drop 8=p.fds.map int from rfl,List.take_of_length_le (by simp [p.len])]
 rw [B70,h,e];rfl⟩
instance {p:ProcS} {cs:List Value} [k:LenC cs 16]:SetsC cs 0 (D3 p) (D3 p):=⟨Bf2 k.ok (Bu3 p) (Hw5 p)⟩
instance {p:ProcS}:SameC (.agg ⟨D3 p⟩):=⟨Dv5 (by simp [D3])⟩
def Ed3 (n w:Int):Bool:=Ei4 .i64 n 65534==0 && I1 .i64 n w==0
def okS (p:ProcS):Bool :=
 !(decide (p.state<1) || decide (p.state>3) || decide (p.parent<0) || decide (p.parent>8) || decide (p.group<0) || decide (p.group≥8) || decide (p.code<0) || decide (p.code>255)) &&
 (!(!Ed3 p.pending 0 || !Ed3 p.mask 16896 || !Ed3 p.ignored 16896 || !Ed3 p.caught 16896 || I1 .i64 p.ignored p.caught != 0) &&
 (!(p.fds.any fun f=>decide (f<0) || decide (f>12)) &&
 (if p.state=2 then p.pending==0 && decide (p.fds=Gu5) else p.code==0)))
def hi2 (n:Int):UInt8:=if 0≤n∧n≤65535 then b8 (n / 256) else 0
def lo2 (n:Int):UInt8:=if 0≤n∧n≤65535 then b8 n else 0
abbrev put2 (n:Int):List UInt8:=[hi2 n,lo2 n]
def Ec0 (p:ProcS):List UInt8:=[b8 p.state,b8 p.parent,b8 p.group,b8 p.code]++(put2 p.pending++(put2 p.mask++(put2 p.ignored++(put2 p.caught++(p.fds.map b8++[167])))))
theorem H48 (n:Int):(put2 n).length=2:=rfl
theorem Hv7 (p:ProcS):(Ec0 p).length=21:=by simp [Ec0,H48,p.len]
def Au1 (p:ProcS):List UInt8:=Ec0 p++[Bs4 (Ec0 p),0,0]
theorem D66 (p:ProcS):(Au1 p).length=24:=by simp [Au1,Hv7]
theorem Ie1 (n w:Int):CtP A8 Aj7 [int n,int w] [] (.bool (Ed3 n w)):=by
 refine CtP.of G14 rfl fun h r=>Tr.eq (G54 ..) ?_;refine Je ?_
 exact Jz
instance {n w:Int} {l:List HP}:PCi A8 Aj7 [.int .i64 n,.int .i64 w] l (.bool (Ed3 n w)):=PCi.of (Ie1 n w)
theorem Ic9 (f:Int):CtP A8 Bg0 [int f] [] (.bool (decide (f<0) || decide (f>12))):=by
 refine CtP.of G63 rfl fun h r=>Tr.eq (Gx1 ..) ?_;refine Je ?_
 exact Jz
theorem E37 (p:HP) (a:Option Addr) (ro:Bool) (c:Nat) (l:List Int) (g:FuncId) (f:Int→Bool) {e:TypeId} [ks:IsSl p a ro e 1 l.length c (l.map int)] (hl:l.length≤A9) (hf:∀ x,CtP A8 g [int x] [] (.bool (f x))):∀ (m i:Nat),l.length-i=m→i≤l.length →
  U0 G5 D4 L8 [(0,.slice a l.length c),(1,.func (.func g) ⟨[]⟩ ⟨[]⟩),(7,int l.length),(8,int i)] [p] (int (Bp6 f i (l.drop i))):=by
 intro m
 induction m with
 | zero =>
  intro i hm hi
  refine U0.of J8 fun h r=>Tr.eq (Q0 ..) ?_;refine Je ?_
  refine Yf (by simp;omega) ?_
  refine Ys fun o=>?_
  rw [List.drop_eq_nil_of_le (by omega)];exact ⟨rfl,rfl⟩
 | succ m ih =>
  intro i hm hi
  have hlt:i<l.length:=by omega
  have hp:l[i]?=some l[i]:=List.getElem?_eq_getElem hlt
  have hd:l.drop i=l[i]::l.drop (i+1):=List.drop_eq_getElem_cons hlt
  generalize l[i]=x at hp hd
  have e1:IntKind.wrap .i64 ((i:Int)+1)=((i+1:Nat):Int):=by rw [A7];simp only [A9] at hl;omega
  refine U0.of J8 fun h r=>Tr.eq (Q0 ..) ?_;refine Je ?_
  refine Yt (by simp;omega) ?_
  (refine Ja ?_;unhygienic intros;repeat(refine Gw ?_;rintro px rfl;refine Ja ?_;unhygienic intros))
  refine Tr.xIntS (v:=x) (by simp [hp]) ?_
  (refine Ja ?_;unhygienic intros)
  refine Tr.pcall (hf x) ?_
  cases hx:f x with
  | true =>
   (refine Ja ?_;unhygienic intros)
   refine Ys fun o=>?_
   rw [hd,Bp6,if_pos hx];exact ⟨by first|rfl|trivial,by first|rfl|trivial⟩
  | false =>
   (refine Ja ?_;unhygienic intros)
   rw [e1]
   refine Y2 (ih (i+1) (by omega) (by omega)) (r:=r) (by simp) fun o=>?_
   rw [hd,Bp6,if_neg (by simp [hx])];exact ⟨by first|rfl|trivial,by first|rfl|trivial⟩
theorem E43 (p:HP) (a:Option Addr) (ro:Bool) (c:Nat) (l:List Int) (g:FuncId) (f:Int→Bool) {e:TypeId} [ks:IsSl p a ro e 1 l.length c (l.map int)] (hl:l.length≤A9) (hf:∀ x,CtP A8 g [int x] [] (.bool (f x))) :
  CtP A8 E2 [.slice a l.length c,.func (.func g) ⟨[]⟩ ⟨[]⟩] [p] (.bool (l.any f)):=by
 have j:CtP A8 D4 [.slice a l.length c,.func (.func g) ⟨[]⟩ ⟨[]⟩] [p] (int (Bp6 f 0 l)):=by
  refine CtP.of J8 rfl fun h r=>Tr.eq (A32 ..) ?_;refine Je ?_
  exact Y2 (E37 p a ro c l g f hl hf _ 0 rfl (by omega)) (r:=r) (by simp) fun o=>⟨rfl,rfl⟩
 refine CtP.of At7 rfl fun h r=>Tr.eq (At8 ..) ?_;refine Je ?_
 refine Bu6 j (r:=r) (by simp) ?_
 (refine Ja ?_;unhygienic intros)
 refine Ys fun o=>?_
 rw [Eh2];exact ⟨by first|rfl|trivial,by first|rfl|trivial⟩
theorem G78:∀ (l m:List Int),l.length=m.length→eqs (l.map int) (m.map int)=some (decide (l=m))
 | [],[],_=>rfl
 | [],_::_,h=>by simp at h
 | _::_,[],h=>by simp at h
 | a::l,b::m,h=>by
  have ih:=G78 l m (by simpa using h)
  simp only [List.map_cons,eqs,eq1,decide_true,ih]
  by_cases h1:a=b<;>by_cases h2:l=m<;>simp [h1,h2]
theorem E48:∀ (l:List Int),G6 (List.replicate l.length (TypeDesc.int .i64)) (l.map int)=true
 | []=>rfl
 | a::l=>by
  have:=E48 l
  simp only [List.length_cons,List.replicate_succ,List.map_cons,G6,decide_true,this,Bool.and_self]
theorem eq8 {α:Type} (l m:List Int) (hl:l.length=8) (hm:m.length=8) (k:Bool→Option α):B63 PR Gh1 (l.map int) (m.map int) k=k (decide (l=m)):=by
 have e:Ai1 PR 8 Gh1=some (List.replicate 8 (TypeDesc.int .i64)):=by kernel_rfl
 have f1:=E48 l;have f2:=E48 m
 rw [hl] at f1;rw [hm] at f2
 rw [B63,e]
 simp only [f1,f2,G78 l m (by omega),Bool.and_self,ckB,cond_true,eqK]
theorem Il1 (p:ProcS):Ct A8 Di2 [.agg ⟨D3 p⟩] [] fun v own=>v=.bool (okS p)∧own []:=by
 have h8:=p.len
 refine Ct.of Hq1 rfl fun h r=>Tr.eq (Hs0 ..) ?_;refine Je ?_
 (refine Ja ?_;unhygienic intros)
 refine Tr.cond (fun h1=>?_) fun h1=>?_
 ·refine Ys fun o=>?_
  refine ⟨?_,o.sub⟩
  unfold okS;rw [h1];rfl
 (refine Ja ?_;unhygienic intros)
 refine Tr.cond (fun h2=>?_) fun h2=>?_
 ·refine Ys fun o=>?_
  refine ⟨?_,o.sub⟩
  unfold okS;rw [h1,h2];rfl
 (refine Ja ?_;unhygienic intros)
 refine Gk6 0 rfl [int p.state,int p.parent,int p.group,int p.code,int p.pending,int p.mask,int p.ignored,int p.caught] (p.fds.map int) [] (by simp [D3]) 1 8 8 8 ⟨by simp [h8],by omega,by simp,by simp [D3],by omega,by omega⟩ ?_
 refine Je ?_
 have J:=E43 (e:=D1) (slX false D1 1 (some ⟨b,8,none⟩) p.fds.length 8 ([int p.state,int p.parent,int p.group,int p.code,int p.pending,int p.mask,int p.ignored,int p.caught],[]) (p.fds.map int)) (some ⟨b,8,none⟩) false 8 p.fds Bg0 (fun f=>decide (f<0) || decide (f>12)) (by rw [h8];simp [A9]) Ic9
 rw [h8] at J
 refine Tr.pcall (J) ?_;refine Je ?_;(refine Ja ?_;unhygienic intros)
 refine Eh3 0 rfl (D3 p) (by simp [D3]) ?_
 refine Je ?_
 cases h3:p.fds.any fun f=>decide (f<0) || decide (f>12) with
 | true =>
  (refine Ja ?_;unhygienic intros)
  refine Ys fun o=>?_
  refine ⟨?_,o.sub⟩
  unfold okS;rw [h1,h2,h3];rfl
 | false =>
  (refine Ja ?_;unhygienic intros)
  have e:okS p=if p.state=2 then p.pending==0 && decide (p.fds=Gu5) else p.code==0:=by unfold okS;rw [h1,h2,h3];rfl
  rw [e]
  by_cases h4:p.state=2
  ·refine Yt (by simpa using h4) ?_
   rw [if_pos h4]
   (repeat' first|refine Gu ?_|(with_reducible first|refine Gn fun b h=>?_|apply Gx|apply Gy|rintro px rfl|apply Gw|refine fun(h:H)=>?_|intro hb)|refine Gs ?_|refine Gt ?_|exact Gz rfl|fail)
   rw [show ([int 0,int 0,int 0,int 0,int 0,int 0,int 0,int 0]:List Value)=Gu5.map int from rfl,eq8 _ _ h8 rfl]
   (repeat' first|refine Gu ?_|(with_reducible first|refine Gn fun b h=>?_|apply Gx|apply Gy|rintro px rfl|apply Gw|refine fun(h:H)=>?_|intro hb)|refine Gs ?_|refine Gt ?_|exact Gz rfl|fail)
   refine Ys fun o=>?_
   exact ⟨rfl,o.sub⟩
  ·refine Yf (by simpa using h4) ?_
   rw [if_neg h4]
   (refine Ja ?_;unhygienic intros)
   refine Ys fun o=>?_
   exact ⟨rfl,o.sub⟩
theorem Ih6 (a:Option Addr) (c:Nat) (cs:List Value) (j:Nat) (n:Int) (hj:j+2≤cs.length) (hm:cs.length≤A9):Ct A8 Bf9 [.slice a cs.length c,int j,int n] [slC false A3 1 a cs.length c cs] fun v own =>
  (∃ ok,v=.bool ok)∧own [slC false A3 1 a cs.length c (if 0≤n∧n≤65535 then (cs.set j (.int .u8 ((b8 (n / 256)).toNat:Int))).set (j+1) (.int .u8 ((b8 n).toNat:Int)) else cs)]:=by
 simp only [A9] at hm
 have e1:IntKind.wrap .i64 ((cs.length:Int)-2)=(cs.length:Int)-2:=by rw [A7];omega
 have e2:IntKind.wrap .i64 ((j:Int)+1)=((j+1:Nat):Int):=by rw [A7];omega
 refine Ct.of G26 rfl fun h r=>Tr.eq (G70 ..) ?_;refine Je ?_
 rw [e1,e2]
 (refine Ja ?_;unhygienic intros)
 by_cases h:0≤n∧n≤65535
 ·refine Yf (by simp;omega) ?_
  rw [if_pos h]
  (refine Ja ?_;unhygienic intros;repeat(refine Gw ?_;rintro px rfl;refine Ja ?_;unhygienic intros))
  rw [Int.toNat_natCast,show Int.fdiv n (2 ^ 8)=n / 256 by rw [Int.fdiv_eq_ediv_of_nonneg _ (by omega)];rfl,Bh6,Bh6]
  refine Je ?_
  refine Tr.xVS (cs':=cs.set j (.int .u8 ((b8 (n / 256)).toNat:Int))) ⟨by omega,rfl,rfl⟩ fun h=>?_
  (refine Ja ?_;unhygienic intros)
  rw [Int.toNat_natCast]
  refine Je ?_
  refine Tr.xVS (cs':=(cs.set j (.int .u8 ((b8 (n / 256)).toNat:Int))).set (j+1) (.int .u8 ((b8 n).toNat:Int))) ⟨by simp;omega,rfl,rfl⟩ fun h=>?_
  refine Ys fun o=>?_
  exact ⟨⟨_,rfl⟩,o.sub⟩
 ·refine Yt (by simp;omega) ?_
  rw [if_neg h]
  refine Ys fun o=>?_
  exact ⟨⟨_,rfl⟩,o.sub⟩
theorem D15 (l:List UInt8) (j:Nat) (x:UInt8):(A0 l).set j (.int .u8 (x.toNat:Int))=A0 (l.set j x):=by simp [A0,List.map_set]
theorem Ea9 (a:Option Addr) (c m:Nat) (l:List UInt8) (j:Nat) (n:Int) (hm:l.length=m) (hj:j+2≤m) (h1:l[j]?=some 0) (h2:l[j+1]?=some 0) (hl:m≤A9):Ct A8 Bf9 [.slice a m c,int j,int n] [slC false A3 1 a m c (A0 l)] fun v own =>
  (∃ ok,v=.bool ok)∧own [slC false A3 1 a m c (A0 ((l.set j (hi2 n)).set (j+1) (lo2 n)))]:=by
 subst hm
 have J:=Ih6 a c (A0 l) j n (by rw [S8];omega) (by rw [S8];omega)
 rw [S8] at J
 have e:(if 0≤n∧n≤65535 then ((A0 l).set j (.int .u8 ((b8 (n / 256)).toNat:Int))).set (j+1) (.int .u8 ((b8 n).toNat:Int)) else A0 l)=A0 ((l.set j (hi2 n)).set (j+1) (lo2 n)):=by
  unfold hi2 lo2
  split
  ·rw [D15,D15]
  ·rw [Ej7 h1,Ej7 h2]
 rw [e] at J
 exact J
def two (l:List UInt8) (j:Nat):Int:=byI l j*256+byI l (j+1)
theorem Im0 (x y:UInt8):Hp0 .i64 (IntKind.wrap .i64 (IntKind.wrap .i64 (x.toNat:Int)*2 ^ 8)) (IntKind.wrap .i64 (y.toNat:Int))=(x.toNat:Int)*256+y.toNat:=by
 have hx:=x.toNat_lt;have hy:=y.toNat_lt
 have e1:IntKind.wrap .i64 (IntKind.wrap .i64 (x.toNat:Int)*2 ^ 8)=((x.toNat*256:Nat):Int):=by rw [Al6,A7];omega
 rw [e1,Al6]
 unfold Hp0
 have e0:IntKind.bits .i64=64:=rfl
 rw [e0,BitVec.ofInt_natCast,BitVec.ofInt_natCast,BitVec.toNat_or,BitVec.toNat_ofNat,BitVec.toNat_ofNat,Nat.mod_eq_of_lt (by omega),Nat.mod_eq_of_lt (by omega)]
 have e2:x.toNat*256 ||| y.toNat=x.toNat*256+y.toNat:=by
  have:=Nat.two_pow_add_eq_or_of_lt (i:=8) (b:=y.toNat) (by omega) x.toNat
  rw [show 2 ^ 8*x.toNat=x.toNat*256 by omega] at this
  exact this.symm
 rw [e2,A7];omega
theorem Eu0 (a:Option Addr) (c n:Nat) (l:List UInt8) (j:Nat) (hn:l.length=n) (hj:j+2≤n) (hm:n≤A9):CtP A8 Bv2 [.slice a n c,int j] [slC false A3 1 a n c (A0 l)] (.tuple ⟨[int (two l j),.bool true]⟩):=by
 simp only [A9] at hm
 have e1:IntKind.wrap .i64 ((n:Int)-2)=(n:Int)-2:=by rw [A7];omega
 have e2:IntKind.wrap .i64 ((j:Int)+1)=((j+1:Nat):Int):=by rw [A7];omega
 refine CtP.of G28 rfl fun h r=>Tr.eq (G49 ..) ?_;refine Je ?_
 rw [e1,e2]
 (refine Ja ?_;unhygienic intros)
 refine Yf (by simp;omega) ?_
 (refine Ja ?_;unhygienic intros;repeat(refine Gw ?_;rintro px rfl;refine Ja ?_;unhygienic intros))
 rw [Int.toNat_natCast]
 refine Je ?_
 refine Tr.xIntS (v:=byI l j) (Ac4 (by omega)) ?_
 (refine Ja ?_;unhygienic intros)
 rw [Int.toNat_natCast]
 refine Je ?_
 refine Tr.xIntS (v:=byI l (j+1)) (Ac4 (by omega)) ?_
 refine Ys fun o=>?_
 rw [Im0];exact ⟨rfl,rfl⟩
theorem Ie4 (a:Option Addr) (c:Nat) (p:ProcS):Ct A8 N4 [.agg ⟨D3 p⟩,.slice a 24 c] [slC false A3 1 a 24 c (A0 (List.replicate 24 0))] fun v own=>v=.bool (okS p)∧own [slC false A3 1 a 24 c (A0 (if okS p then Au1 p else List.replicate 24 0))]:=by
 refine Ct.of H1 rfl fun h r=>Tr.eq (Hf5 ..) ?_;refine Je ?_
 refine Yn fun b1 h=>?_
 (refine Ja ?_;unhygienic intros)
 refine Yc (Il1 p) ?_;rintro _ h ⟨rfl,o⟩<;>(refine Jf o ?_;unhygienic intros)
 cases hk:okS p with
 | false =>
  (refine Ja ?_;unhygienic intros)
  refine Ys fun o=>?_
  rw [if_neg (by simp)]
  exact ⟨rfl,o.sub⟩
 | true =>
  simp only [if_true]
  obtain ⟨st,pa,gr,co,pe,ma,ig,ca,fds,len⟩:=p
  match fds,len with
  | [f0,f1,f2,f3,f4,f5,f6,f7],len =>
  (refine Ja ?_;unhygienic intros)
  rename_i b2 h2
  refine P3 2 rfl fun hl hc _=>?_
  simp only [List.map]
  refine Tr.jmp H1 (Tr.eq (A35 ..) ?_);(try simp only[Nr,Nl,wl,Nat.reduceAdd,Nat.reduceMul,Int.reduceToNat])
  (refine Jd ?_;unhygienic intros;repeat(refine Gw ?_;rintro px rfl;refine Jd ?_;unhygienic intros))
  refine Tr.jmp H1 (Tr.eq (A35 ..) ?_);(try simp only[Nr,Nl,wl,Nat.reduceAdd,Nat.reduceMul,Int.reduceToNat])
  (refine Jd ?_;unhygienic intros)
  refine Tr.jmp H1 (Tr.eq (A35 ..) ?_);(try simp only[Nr,Nl,wl,Nat.reduceAdd,Nat.reduceMul,Int.reduceToNat])
  (refine Jd ?_;unhygienic intros)
  refine Tr.jmp H1 (Tr.eq (A35 ..) ?_);(try simp only[Nr,Nl,wl,Nat.reduceAdd,Nat.reduceMul,Int.reduceToNat])
  (refine Jd ?_;unhygienic intros)
  refine Tr.jmp H1 (Tr.eq (A35 ..) ?_);(try simp only[Nr,Nl,wl,Nat.reduceAdd,Nat.reduceMul,Int.reduceToNat])
  (refine Jd ?_;unhygienic intros)
  simp only [Bh6,D15,List.replicate,List.set_cons_zero,List.set_cons_succ,Nat.mul_one]
  refine Tr.jmp H1 (Tr.eq (A54 ..) ?_);(try simp only[Nr,Nl,wl,Nat.reduceAdd,Nat.reduceMul,Int.reduceToNat])
  (refine Jd ?_;unhygienic intros)
  refine Yc (Ea9 (some px) c 24 [b8 st,b8 pa,b8 gr,b8 co,0,0,0,0,0,0,0,0,0,0,0,0,0,0,0,0,0,0,0,0] 4 pe rfl (by omega) rfl rfl (by simp [A9])) ?_;rintro _ h ⟨⟨_,rfl⟩,o⟩<;>(refine Jf o ?_;unhygienic intros)
  refine Tr.jmp H1 (Tr.eq (A54 ..) ?_);(try simp only[Nr,Nl,wl,Nat.reduceAdd,Nat.reduceMul,Int.reduceToNat])
  (refine Jd ?_;unhygienic intros)
  refine Yc (Ea9 (some px) c 24 [b8 st,b8 pa,b8 gr,b8 co,hi2 pe,lo2 pe,0,0,0,0,0,0,0,0,0,0,0,0,0,0,0,0,0,0] 6 ma rfl (by omega) rfl rfl (by simp [A9])) ?_;rintro _ h ⟨⟨_,rfl⟩,o⟩<;>(refine Jf o ?_;unhygienic intros)
  refine Tr.jmp H1 (Tr.eq (A54 ..) ?_);(try simp only[Nr,Nl,wl,Nat.reduceAdd,Nat.reduceMul,Int.reduceToNat])
  (refine Jd ?_;unhygienic intros)
  refine Yc (Ea9 (some px) c 24 [b8 st,b8 pa,b8 gr,b8 co,hi2 pe,lo2 pe,hi2 ma,lo2 ma,0,0,0,0,0,0,0,0,0,0,0,0,0,0,0,0] 8 ig rfl (by omega) rfl rfl (by simp [A9])) ?_;rintro _ h ⟨⟨_,rfl⟩,o⟩<;>(refine Jf o ?_;unhygienic intros)
  refine Tr.jmp H1 (Tr.eq (A54 ..) ?_);(try simp only[Nr,Nl,wl,Nat.reduceAdd,Nat.reduceMul,Int.reduceToNat])
  (refine Jd ?_;unhygienic intros)
  refine Yc (Ea9 (some px) c 24 [b8 st,b8 pa,b8 gr,b8 co,hi2 pe,lo2 pe,hi2 ma,lo2 ma,hi2 ig,lo2 ig,0,0,0,0,0,0,0,0,0,0,0,0,0,0] 10 ca rfl (by omega) rfl rfl (by simp [A9])) ?_;rintro _ h ⟨⟨_,rfl⟩,o⟩<;>(refine Jf o ?_;unhygienic intros)
  refine Tr.jmp H1 (Tr.eq (A54 ..) ?_);(try simp only[Nr,Nl,wl,Nat.reduceAdd,Nat.reduceMul,Int.reduceToNat])
  (refine Jd ?_;unhygienic intros)
  refine Tr.jmp H1 (Tr.eq (W5 ..) ?_);(try simp only[Nr,Nl,wl,Nat.reduceAdd,Nat.reduceMul,Int.reduceToNat])
  (refine Jd ?_;unhygienic intros)
  refine Tr.jmp H1 (Tr.eq (W5 ..) ?_);(try simp only[Nr,Nl,wl,Nat.reduceAdd,Nat.reduceMul,Int.reduceToNat])
  (refine Jd ?_;unhygienic intros)
  refine Tr.jmp H1 (Tr.eq (W5 ..) ?_);(try simp only[Nr,Nl,wl,Nat.reduceAdd,Nat.reduceMul,Int.reduceToNat])
  (refine Jd ?_;unhygienic intros)
  refine Tr.jmp H1 (Tr.eq (W5 ..) ?_);(try simp only[Nr,Nl,wl,Nat.reduceAdd,Nat.reduceMul,Int.reduceToNat])
  (refine Jd ?_;unhygienic intros)
  refine Tr.jmp H1 (Tr.eq (W5 ..) ?_);(try simp only[Nr,Nl,wl,Nat.reduceAdd,Nat.reduceMul,Int.reduceToNat])
  (refine Jd ?_;unhygienic intros)
  refine Tr.jmp H1 (Tr.eq (W5 ..) ?_);(try simp only[Nr,Nl,wl,Nat.reduceAdd,Nat.reduceMul,Int.reduceToNat])
  (refine Jd ?_;unhygienic intros)
  refine Tr.jmp H1 (Tr.eq (W5 ..) ?_);(try simp only[Nr,Nl,wl,Nat.reduceAdd,Nat.reduceMul,Int.reduceToNat])
  (refine Jd ?_;unhygienic intros)
  refine Tr.jmp H1 (Tr.eq (W5 ..) ?_);(try simp only[Nr,Nl,wl,Nat.reduceAdd,Nat.reduceMul,Int.reduceToNat])
  (refine Jd ?_;unhygienic intros)
  refine Tr.jmp H1 (Tr.eq (W5 ..) ?_);(try simp only[Nr,Nl,wl,Nat.reduceAdd,Nat.reduceMul,Int.reduceToNat])
  (refine Jd ?_;unhygienic intros)
  simp only [Bh6,D15,List.set_cons_zero,List.set_cons_succ,Nat.mul_one]
  rw [show (.int .u8 167:Value)=.int .u8 ((167:UInt8).toNat:Int) from rfl,D15]
  simp only [List.set_cons_zero,List.set_cons_succ]
  refine Tr.pcall (Gc1 (slC false A3 1 (some px) 24 c (A0 [b8 st,b8 pa,b8 gr,b8 co,hi2 pe,lo2 pe,hi2 ma,lo2 ma,hi2 ig,lo2 ig,hi2 ca,lo2 ca,b8 f0,b8 f1,b8 f2,b8 f3,b8 f4,b8 f5,b8 f6,b8 f7,167,0,0,0])) (some px) false 24 c c [b8 st,b8 pa,b8 gr,b8 co,hi2 pe,lo2 pe,hi2 ma,lo2 ma,hi2 ig,lo2 ig,hi2 ca,lo2 ca,b8 f0,b8 f1,b8 f2,b8 f3,b8 f4,b8 f5,b8 f6,b8 f7,167,0,0,0] 21 (by simp) (by simp [A9])) ?_
  refine Je ?_
  (refine Ja ?_;unhygienic intros)
  rw [Dq6]
  (refine Jd ?_;unhygienic intros)
  refine Ys fun o=>?_
  rw [D15] at o
  simp only [List.set_cons_zero,List.set_cons_succ] at o
  simp only [Au1,Ec0,put2,List.map,List.cons_append,List.nil_append]
  exact ⟨trivial,o.sub⟩
abbrev E53 (k:Nat):HP:=pt k (.cells Bp0 false [int 24,.func (.func N4) ⟨[]⟩ ⟨[]⟩,.func (.func W2) ⟨[]⟩ ⟨[]⟩])
theorem He5 (k:Nat) (f:ProcS):Ct A8 U8 [P0 k,.agg ⟨D3 f⟩] [E53 k] fun v own=>(okS f=true∧∃ a,v=.tuple ⟨[.slice a 24 24,.bool true]⟩∧own [E53 k,slC false A3 1 a 24 24 (A0 (Au1 f))])∨(okS f=false∧v=.tuple ⟨[.slice none 0 0,.bool false]⟩∧own [E53 k]):=by
 refine Ct.of B22 rfl fun h r=>Tr.eq (B19 ..) ?_;refine Je ?_
 (refine Ja ?_;unhygienic intros)
 refine Tr.ck ⟨by omega,by omega,by simp [A9]⟩ ?_
 refine Yn fun b1 h=>?_
 rw [show H9 (Int.toNat 24) [.int .u8 0]=A0 (List.replicate 24 0) from rfl]
 refine Ah3 0 rfl 1 24 rfl (by omega) ?_
 simp only [List.set_cons_zero]
 refine Je ?_
 (refine Jb ?_;unhygienic intros)
 refine Yb (Yf rfl ?_)
 (refine Jb ?_;unhygienic intros)
 refine Yc (Ie4 (some ⟨b1,0,none⟩) 24 f) ?_;rintro _ h ⟨rfl,o⟩<;>(refine Jg o ?_;unhygienic intros)
 refine Ys fun o=>(?_:Tr _ _ _ _) o;refine Je ?_
 cases hk:okS f with
 | false =>
  (refine Ja ?_;unhygienic intros)
  refine Ys fun o=>?_
  exact .inr ⟨rfl,rfl,o.sub⟩
 | true =>
  (refine Ja ?_;unhygienic intros)
  refine Ys fun o=>?_
  simp only [if_true] at o
  exact .inl ⟨rfl,_,rfl,o.sub⟩
theorem Id5:Ct A8 Ao7 [int 24,.func (.func N4) ⟨[]⟩ ⟨[]⟩,.func (.func W2) ⟨[]⟩ ⟨[]⟩] [] fun v own=>∃ k,v=P0 k∧own [E53 k]:=by
 refine Ct.of Eb2 rfl fun h r=>Tr.eq (D88 ..) ?_;refine Je ?_
 rw [show mm2 false (mm2 true 24 0) 64=24 from rfl]
 (refine Ja ?_;unhygienic intros)
 refine Ys fun o=>?_
 exact ⟨_,rfl,o.sub⟩
theorem Gm2:Ct A8 Bb3 [] [] fun v own=>∃ k,v=P0 k∧own [E53 k]:=by
 refine Ct.of Gt2 rfl fun h r=>Tr.eq (Gs9 ..) ?_;refine Je ?_
 refine Yc (Id5) ?_;rintro _ h ⟨k,rfl,o⟩<;>(refine Jf o ?_;unhygienic intros)
 refine Ys fun o=>?_
 exact ⟨_,rfl,o.sub⟩
theorem Gd5 (f:ProcS):Ct A8 A34 [.agg ⟨D3 f⟩] [] fun v own=>(okS f=true∧∃ a,v=.tuple ⟨[.slice a 24 24,.bool true]⟩∧own [slC false A3 1 a 24 24 (A0 (Au1 f))])∨(okS f=false∧v=.tuple ⟨[.slice none 0 0,.bool false]⟩∧own []):=by
 refine Ct.of Gk5 rfl fun h r=>Tr.eq (Gk9 ..) ?_;refine Je ?_
 (refine Ja ?_;unhygienic intros)
 refine Yc (Gm2) ?_;rintro _ h ⟨k,rfl,o⟩<;>(refine Jg o ?_;unhygienic intros)
 refine Yc (He5 k f) ?_
 rintro v h (⟨hk,a,rfl,o⟩|⟨hk,rfl,o⟩)
 ·refine (?_:Tr _ _ _ _) o
  refine Je ?_
  (refine Ja ?_;unhygienic intros)
  refine Ys fun o=>?_
  exact .inl ⟨hk,a,rfl,o.sub⟩
 ·refine (?_:Tr _ _ _ _) o
  refine Je ?_
  (refine Ja ?_;unhygienic intros)
  refine Ys fun o=>?_
  exact .inr ⟨hk,rfl,o.sub⟩
def Bc6 (l:List UInt8):ProcS:=⟨byI l 0,byI l 1,byI l 2,byI l 3,two l 4,two l 6,two l 8,two l 10,[byI l 12,byI l 13,byI l 14,byI l 15,byI l 16,byI l 17,byI l 18,byI l 19],rfl⟩
def isS (l:List UInt8):Bool:=okS (Bc6 l) && decide (Au1 (Bc6 l)=l)
theorem Ih8 (a:Option Addr) (c:Nat) (l:List UInt8) (hl:l.length=24):Ct A8 W2 [.slice a 24 c] [slC false A3 1 a 24 c (A0 l)] fun v own=>v=.tuple ⟨[.agg ⟨D3 (Bc6 l)⟩,.bool (isS l)]⟩∧own [slC false A3 1 a 24 c (A0 l)]:=by
 have key:∀ a1:Option Addr,CtP A8 B8 [.slice a1 24 24,.slice a 24 c] [slC false A3 1 a1 24 24 (A0 (Au1 (Bc6 l))),slC false A3 1 a 24 c (A0 l)] (.bool (decide (Au1 (Bc6 l)=l))):=fun a1=>by
  have e:=D66 (Bc6 l)
  have J:=Eo4 (slC false A3 1 a1 (Au1 (Bc6 l)).length 24 (A0 (Au1 (Bc6 l)))) (slC false A3 1 a l.length c (A0 l)) a1 false 24 a false c (Au1 (Bc6 l)) l (by rw [e];simp [A9])
  rwa [hl,e] at J
 refine Ct.of M9 rfl fun h r=>Tr.eq (Hc9 ..) ?_;refine Je ?_
 refine Yn fun b1 h=>?_
 refine P3 1 rfl fun hl2 hc2 _=>?_
 (refine Ja ?_;unhygienic intros;repeat(refine Gw ?_;rintro px rfl;refine Ja ?_;unhygienic intros))
 refine Tr.xIntS (v:=byI l 0) (Ac4 (by omega)) ?_
 (refine Ja ?_;unhygienic intros)
 refine Tr.xIntS (v:=byI l 1) (Ac4 (by omega)) ?_
 (refine Ja ?_;unhygienic intros)
 refine Tr.xIntS (v:=byI l 2) (Ac4 (by omega)) ?_
 (refine Ja ?_;unhygienic intros)
 refine Tr.xIntS (v:=byI l 3) (Ac4 (by omega)) ?_
 (refine Ja ?_;unhygienic intros)
 simp only [byI,Al6]
 refine Tr.jmp M9 (Tr.eq (A24 ..) ?_);(try simp only[Nr,Nl,wl,Nat.reduceAdd,Nat.reduceMul,Int.reduceToNat])
 (refine Jd ?_;unhygienic intros)
 refine Tr.pcall (Eu0 (some px) c 24 l 4 hl (by omega) (by simp [A9])) ?_;refine Je ?_;(refine Ja ?_;unhygienic intros)
 refine Tr.jmp M9 (Tr.eq (A24 ..) ?_);(try simp only[Nr,Nl,wl,Nat.reduceAdd,Nat.reduceMul,Int.reduceToNat])
 (refine Jd ?_;unhygienic intros)
 refine Tr.pcall (Eu0 (some px) c 24 l 6 hl (by omega) (by simp [A9])) ?_;refine Je ?_;(refine Ja ?_;unhygienic intros)
 refine Tr.jmp M9 (Tr.eq (A24 ..) ?_);(try simp only[Nr,Nl,wl,Nat.reduceAdd,Nat.reduceMul,Int.reduceToNat])
 (refine Jd ?_;unhygienic intros)
 refine Tr.pcall (Eu0 (some px) c 24 l 8 hl (by omega) (by simp [A9])) ?_;refine Je ?_;(refine Ja ?_;unhygienic intros)
 refine Tr.jmp M9 (Tr.eq (A24 ..) ?_);(try simp only[Nr,Nl,wl,Nat.reduceAdd,Nat.reduceMul,Int.reduceToNat])
 (refine Jd ?_;unhygienic intros)
 refine Tr.pcall (Eu0 (some px) c 24 l 10 hl (by omega) (by simp [A9])) ?_;refine Je ?_;(refine Ja ?_;unhygienic intros)
 refine Tr.jmp M9 (Tr.eq (A24 ..) ?_);(try simp only[Nr,Nl,wl,Nat.reduceAdd,Nat.reduceMul,Int.reduceToNat])
 (refine Jd ?_;unhygienic intros)
 refine Tr.jmp M9 (Tr.eq (W6 ..) ?_);(try simp only[Nr,Nl,wl,Nat.reduceAdd,Nat.reduceMul,Int.reduceToNat])
 (refine Jd ?_;unhygienic intros)
 refine Tr.xIntS (v:=byI l 12) (Ac4 (by omega)) ?_
 (refine Jd ?_;unhygienic intros)
 simp only [byI,Al6]
 refine Tr.jmp M9 (Tr.eq (W6 ..) ?_);(try simp only[Nr,Nl,wl,Nat.reduceAdd,Nat.reduceMul,Int.reduceToNat])
 (refine Jd ?_;unhygienic intros)
 refine Tr.xIntS (v:=byI l 13) (Ac4 (by omega)) ?_
 (refine Jd ?_;unhygienic intros)
 simp only [byI,Al6]
 refine Tr.jmp M9 (Tr.eq (W6 ..) ?_);(try simp only[Nr,Nl,wl,Nat.reduceAdd,Nat.reduceMul,Int.reduceToNat])
 (refine Jd ?_;unhygienic intros)
 refine Tr.xIntS (v:=byI l 14) (Ac4 (by omega)) ?_
 (refine Jd ?_;unhygienic intros)
 simp only [byI,Al6]
 refine Tr.jmp M9 (Tr.eq (W6 ..) ?_);(try simp only[Nr,Nl,wl,Nat.reduceAdd,Nat.reduceMul,Int.reduceToNat])
 (refine Jd ?_;unhygienic intros)
 refine Tr.xIntS (v:=byI l 15) (Ac4 (by omega)) ?_
 (refine Jd ?_;unhygienic intros)
 simp only [byI,Al6]
 refine Tr.jmp M9 (Tr.eq (W6 ..) ?_);(try simp only[Nr,Nl,wl,Nat.reduceAdd,Nat.reduceMul,Int.reduceToNat])
 (refine Jd ?_;unhygienic intros)
 refine Tr.xIntS (v:=byI l 16) (Ac4 (by omega)) ?_
 (refine Jd ?_;unhygienic intros)
 simp only [byI,Al6]
 refine Tr.jmp M9 (Tr.eq (W6 ..) ?_);(try simp only[Nr,Nl,wl,Nat.reduceAdd,Nat.reduceMul,Int.reduceToNat])
 (refine Jd ?_;unhygienic intros)
 refine Tr.xIntS (v:=byI l 17) (Ac4 (by omega)) ?_
 (refine Jd ?_;unhygienic intros)
 simp only [byI,Al6]
 refine Tr.jmp M9 (Tr.eq (W6 ..) ?_);(try simp only[Nr,Nl,wl,Nat.reduceAdd,Nat.reduceMul,Int.reduceToNat])
 (refine Jd ?_;unhygienic intros)
 refine Tr.xIntS (v:=byI l 18) (Ac4 (by omega)) ?_
 (refine Jd ?_;unhygienic intros)
 simp only [byI,Al6]
 refine Tr.jmp M9 (Tr.eq (W6 ..) ?_);(try simp only[Nr,Nl,wl,Nat.reduceAdd,Nat.reduceMul,Int.reduceToNat])
 (refine Jd ?_;unhygienic intros)
 refine Tr.xIntS (v:=byI l 19) (Ac4 (by omega)) ?_
 (refine Jd ?_;unhygienic intros)
 simp only [byI,Al6]
 refine Tr.jmp M9 (Tr.eq (W6 ..) ?_);(try simp only[Nr,Nl,wl,Nat.reduceAdd,Nat.reduceMul,Int.reduceToNat])
 refine Yf rfl ?_
 refine Tr.xAgg (xs:=D3 (Bc6 l)) ⟨Nat.le_of_ble_eq_true rfl,rfl⟩ ?_
 refine Yc (Gd5 (Bc6 l)) ?_
 rintro v h (⟨hk,a1,rfl,o⟩|⟨hk,rfl,o⟩)
 ·refine (?_:Tr _ _ _ _) o
  refine Je ?_
  refine Tr.dx ?_
  refine Tr.dx ?_
  refine Tr.dx ?_
  refine Tr.xAgg (xs:=D3 (Bc6 l)) ⟨Nat.le_of_ble_eq_true rfl,rfl⟩ ?_
  refine Yb (Yt rfl ?_)
  refine Tr.pcall (key a1) ?_
  refine Tr.dx ?_
  refine Tr.xAgg (xs:=D3 (Bc6 l)) ⟨Nat.le_of_ble_eq_true rfl,rfl⟩ ?_
  (refine Ja ?_;unhygienic intros)
  refine Ys fun o=>(?_:Tr _ _ _ _) o;refine Je ?_
  (refine Ja ?_;unhygienic intros)
  refine Ys fun o=>?_
  exact ⟨by unfold isS;rw [hk,Bool.true_and],o.sub⟩
 ·refine (?_:Tr _ _ _ _) o
  refine Je ?_
  refine Tr.dx ?_
  refine Tr.dx ?_
  refine Tr.dx ?_
  refine Tr.xAgg (xs:=D3 (Bc6 l)) ⟨Nat.le_of_ble_eq_true rfl,rfl⟩ ?_
  (refine Ja ?_;unhygienic intros)
  refine Ys fun o=>?_
  exact ⟨by unfold isS;rw [hk];rfl,o.sub⟩
theorem G91 (k:Nat) (a:Option Addr) (c:Nat) (l:List UInt8) (hl:l.length=24):Ct A8 V0 [P0 k,.slice a 24 c] [E53 k,slC false A3 1 a 24 c (A0 l)] fun v own=>v=.tuple ⟨[.agg ⟨D3 (if isS l then Bc6 l else .zero)⟩,.bool (isS l)]⟩∧own [E53 k,slC false A3 1 a 24 c (A0 l)]:=by
 refine Ct.of B17 rfl fun h r=>Tr.eq (B21 ..) ?_;refine Je ?_
 (refine Ja ?_;unhygienic intros)
 refine Yf rfl ?_
 (refine Jb ?_;unhygienic intros)
 refine Yc (Eo8 24 a c l hl (by simp [A9])) ?_;rintro _ h ⟨a1,c1,rfl,o⟩<;>(refine Jg o ?_;unhygienic intros)
 refine Yc (Ih8 a1 c1 l hl) ?_;rintro _ h ⟨rfl,o⟩<;>(refine Jg o ?_;unhygienic intros)
 cases hk:isS l with
 | false =>
  (refine Ja ?_;unhygienic intros)
  refine Ys fun o=>?_
  exact ⟨rfl,o.sub⟩
 | true =>
  (refine Ja ?_;unhygienic intros)
  refine Ys fun o=>?_
  exact ⟨rfl,o.sub⟩
def Z7 (l:List UInt8):ProcS × Int:=if l.all (·==0) then (.zero,0) else if isS l then (Bc6 l,1) else (.zero,2)
theorem Hl1 (a:Option Addr) (c:Nat) (l:List UInt8) (hl:l.length=24):Ct A8 A37 [.slice a 24 c] [slC false A3 1 a 24 c (A0 l)] fun v own=>v=.tuple ⟨[.agg ⟨D3 (Z7 l).1⟩,int (Z7 l).2]⟩∧own [slC false A3 1 a 24 c (A0 l)]:=by
 refine Ct.of Gf0 rfl fun h r=>Tr.eq (Ge9 ..) ?_;refine Je ?_
 refine Yn fun b1 h=>?_
 refine Yb (Yt rfl ?_)
 refine Tr.pcall (Ei1 24 a c l hl (by simp [A9])) ?_;refine Je ?_;(refine Jb ?_;unhygienic intros)
 refine Ys fun o=>(?_:Tr _ _ _ _) o;refine Je ?_
 cases hb:l.all (·==0) with
 | true =>
  (refine Ja ?_;unhygienic intros)
  refine Ys fun o=>?_
  exact ⟨by unfold Z7;rw [hb];rfl,o.sub⟩
 | false =>
  (refine Jb ?_;unhygienic intros)
  refine Yc (Gm2) ?_;rintro _ h ⟨k,rfl,o⟩<;>(refine Jg o ?_;unhygienic intros)
  refine Yc (G91 k a c l hl) ?_;rintro _ h ⟨rfl,o⟩<;>(refine Jg o ?_;unhygienic intros)
  cases hk:isS l with
  | false =>
   (refine Ja ?_;unhygienic intros)
   refine Ys fun o=>?_
   exact ⟨by unfold Z7;rw [hb,hk];rfl,o.sub⟩
  | true =>
   (refine Ja ?_;unhygienic intros)
   refine Ys fun o=>?_
   exact ⟨by unfold Z7;rw [hb,hk];rfl,o.sub⟩
def J5 (l:List UInt8) (a:Nat) (b:List UInt8):List UInt8:=l.take a++b++l.drop (a+b.length)
theorem Ad3 {l b:List UInt8} {a:Nat} (h:a+b.length≤l.length):(J5 l a b).length=l.length:=by simp [J5];omega
theorem Bk4 {l b:List UInt8} {a:Nat} (h:a+b.length≤l.length) (i:Nat):(J5 l a b)[i]?=if a≤i∧i<a+b.length then b[i-a]? else l[i]?:=by
 unfold J5
 by_cases h1:i<a
 ·rw [if_neg (by omega),List.append_assoc,List.getElem?_append_left (by simp;omega),List.getElem?_take,if_pos h1]
 ·rw [List.append_assoc,List.getElem?_append_right (by simp;omega),List.length_take,Nat.min_eq_left (by omega)]
  by_cases h2:i<a+b.length
  ·rw [if_pos ⟨by omega,h2⟩,List.getElem?_append_left (by omega)]
  ·rw [if_neg (by omega),List.getElem?_append_right (by omega),List.getElem?_drop];congr 1;omega
def slice (l:List UInt8) (a n:Nat):List UInt8:=(l.drop a).take n
theorem Bt7 (l:List UInt8) (a n i:Nat):(slice l a n)[i]?=if i<n then l[a+i]? else none:=by
 unfold slice;rw [List.getElem?_take];split
 ·rw [List.getElem?_drop]
 ·rfl
theorem Gn9 {l:List UInt8} {a n:Nat} (h:a+n≤l.length):(slice l a n).length=n:=by simp [slice];omega
abbrev Rg:=List (Nat × Nat)
def Az9:List UInt8→Rg→List (List UInt8)→List UInt8
 | l,(lo,_)::rg,x::m=>Az9 (J5 l lo x) rg m
 | l,_,_=>l
structure Fit (size:Nat) (rg:Rg) (m:List (List UInt8)):Prop where
 len:m.length=rg.length
 each:∀ (j lo n:Nat),rg[j]?=some (lo,n)→lo+n≤size∧∃ x,m[j]?=some x∧x.length=n
def RgOk (rg:Rg):Prop:=∀ (i j lo n lo' n':Nat),i≠j→rg[i]?=some (lo,n)→rg[j]?=some (lo',n')→lo+n≤lo'∨lo'+n'≤lo
theorem Fit.tail {size:Nat} {p:Nat × Nat} {rg:Rg} {x:List UInt8} {m:List (List UInt8)} (f:Fit size (p::rg) (x::m)):Fit size rg m:=⟨by simpa using f.len,fun j lo n h=>by simpa using f.each (j+1) lo n (by simpa using h)⟩
theorem Fit.head {size lo n:Nat} {rg:Rg} {x:List UInt8} {m:List (List UInt8)} (f:Fit size ((lo,n)::rg) (x::m)):lo+n≤size∧x.length=n:=by
 obtain ⟨h,y,hy,hl⟩:=f.each 0 lo n rfl
 simp at hy;subst hy;exact ⟨h,hl⟩
theorem RgOk.tail {p:Nat × Nat} {rg:Rg} (k:RgOk (p::rg)):RgOk rg:=fun i j lo n lo' n' hij hi hj=>k (i+1) (j+1) lo n lo' n' (by omega) (by simpa using hi) (by simpa using hj)
theorem Dq3:∀ {rg:Rg} {m:List (List UInt8)} {l:List UInt8},Fit l.length rg m→(Az9 l rg m).length=l.length
 | [],m,l,f=>by simp [Az9]
 | (lo,n)::rg,[],l,f=>by simp [Az9]
 | (lo,n)::rg,x::m,l,f=>by
  have h:=f.head
  have e:=Ad3 (l:=l) (b:=x) (a:=lo) (by omega)
  unfold Az9
  rw [Dq3 (by rw [e];exact f.tail),e]
theorem Dq1:∀ {rg:Rg} {m:List (List UInt8)} {l:List UInt8},Fit l.length rg m→∀ i,(∀ (j lo n:Nat),rg[j]?=some (lo,n)→i<lo∨lo+n≤i)→(Az9 l rg m)[i]?=l[i]?
 | [],m,l,f,i,h=>by simp [Az9]
 | (lo,n)::rg,[],l,f,i,h=>by simp [Az9]
 | (lo,n)::rg,x::m,l,f,i,h=>by
  have h0:=f.head
  have e:=Ad3 (l:=l) (b:=x) (a:=lo) (by omega)
  unfold Az9
  rw [Dq1 (by rw [e];exact f.tail) i (fun j lo' n' hj=>h (j+1) lo' n' (by simpa using hj)),Bk4 (by omega),if_neg]
  have:=h 0 lo n rfl;omega
theorem B28:∀ {rg:Rg} {m:List (List UInt8)} {l:List UInt8},Fit l.length rg m→RgOk rg→∀ (j lo n:Nat) (x:List UInt8),rg[j]?=some (lo,n)→m[j]?=some x→∀ i,i<n→(Az9 l rg m)[lo+i]?=x[i]?
 | [],m,l,f,k,j,lo,n,x,h,hx,i,hi=>by simp at h
 | (lo0,n0)::rg,[],l,f,k,j,lo,n,x,h,hx,i,hi=>by simp at hx
 | (lo0,n0)::rg,x0::m,l,f,k,j,lo,n,x,h,hx,i,hi=>by
  have h0:=f.head
  have e:=Ad3 (l:=l) (b:=x0) (a:=lo0) (by omega)
  unfold Az9
  cases j with
  | zero =>
   simp at h hx
   obtain ⟨rfl,rfl⟩:=h;subst hx
   rw [Dq1 (by rw [e];exact f.tail) (lo0+i) (fun j lo' n' hj=>by
    have:=k 0 (j+1) lo0 n0 lo' n' (by omega) rfl (by simpa using hj)
    omega),Bk4 (by omega),if_pos (by omega)]
   congr 1;omega
  | succ j=>exact B28 (by rw [e];exact f.tail) k.tail j lo n x (by simpa using h) (by simpa using hx) i hi
theorem Hk8 {rg:Rg} {m:List (List UInt8)} {l:List UInt8} (f:Fit l.length rg m) (k:RgOk rg) {j lo n:Nat} {x:List UInt8} (h:rg[j]?=some (lo,n)) (hx:m[j]?=some x) {a c:Nat} (hc:a+c≤n):slice (Az9 l rg m) (lo+a) c=slice x a c:=by
 refine List.ext_getElem? fun i=>?_
 rw [Bt7,Bt7]
 split
 ·rw [Nat.add_assoc,B28 f k j lo n x h hx (a+i) (by omega)]
 ·rfl
theorem Fit.set {size:Nat} {rg:Rg} {m:List (List UInt8)} (f:Fit size rg m) {j lo n:Nat} (h:rg[j]?=some (lo,n)) {y:List UInt8} (hy:y.length=n):Fit size rg (m.set j y):=⟨by simpa using f.len,fun i lo' n' hi=>by
 obtain ⟨h1,z,hz,hl⟩:=f.each i lo' n' hi
 refine ⟨h1,?_⟩
 by_cases hij:j=i
 ·subst hij
  rw [h] at hi;cases hi
  exact ⟨y,by simp [(List.getElem?_eq_some_iff.1 hz).1],hy⟩
 ·exact ⟨z,by rw [List.getElem?_set_ne hij];exact hz,hl⟩⟩
theorem Ha7 {rg:Rg} {m:List (List UInt8)} {l:List UInt8} (f:Fit l.length rg m) (k:RgOk rg) {j lo n:Nat} {x:List UInt8} (h:rg[j]?=some (lo,n)) (hx:m[j]?=some x) {a:Nat} {b:List UInt8} (hc:a+b.length≤n):J5 (Az9 l rg m) (lo+a) b=Az9 l rg (m.set j (J5 x a b)):=by
 obtain ⟨h1,y,hy,hl⟩:=f.each j lo n h
 rw [hx] at hy;cases hy
 have e:=Ad3 (l:=x) (b:=b) (a:=a) (by omega)
 have f2:=f.set h (y:=J5 x a b) (by omega)
 have lp:=Dq3 f
 refine List.ext_getElem? fun i=>?_
 rw [Bk4 (by omega)]
 by_cases hi:lo≤i∧i<lo+n
 ·obtain ⟨i',rfl⟩:∃ i',i=lo+i':=⟨i-lo,by omega⟩
  rw [B28 f2 k j lo n (J5 x a b) h (by simp [(List.getElem?_eq_some_iff.1 hx).1]) i' (by omega),Bk4 (by omega),B28 f k j lo n x h hx i' (by omega)]
  by_cases h2:a≤i'∧i'<a+b.length
  ·rw [if_pos (by omega),if_pos h2];congr 1;omega
  ·rw [if_neg (by omega),if_neg h2]
 ·rw [if_neg (by omega)]
  by_cases ho:∃ (j' lo' n':Nat),rg[j']?=some (lo',n')∧lo'≤i∧i<lo'+n'
  ·obtain ⟨j',lo',n',hj',h3,h4⟩:=ho
   have hne:j≠j':=fun e=>by subst e;rw [h] at hj';cases hj';omega
   obtain ⟨_,z,hz,_⟩:=f.each j' lo' n' hj'
   obtain ⟨i',rfl⟩:∃ i',i=lo'+i':=⟨i-lo',by omega⟩
   rw [B28 f k j' lo' n' z hj' hz i' (by omega),B28 f2 k j' lo' n' z hj' (by rw [List.getElem?_set_ne hne];exact hz) i' (by omega)]
  ·have hall:∀ (j' lo' n':Nat),rg[j']?=some (lo',n')→i<lo'∨lo'+n'≤i:=fun j' lo' n' hj'=>by
    by_cases hh:lo'≤i∧i<lo'+n'
    ·exact absurd ⟨j',lo',n',hj',hh.1,hh.2⟩ ho
    ·omega
   rw [Dq1 f i hall,Dq1 f2 i hall]
structure RecS where
 kind:Int
 index:Int
deriving DecidableEq
abbrev Aa2 (r:RecS):List Value:=[int r.kind,int r.index]
structure Fr where
 S:KS
 N:Nat
 env:Int
 caps:List Int
 rg:Rg
structure FrOk (F:Fr):Prop where
 ok:KOk F.N F.S
 hN:F.N+1<1000000000
 ne:0<F.caps.length
 small:F.caps.length≤40
 len:F.rg.length=F.caps.length
 env:¬ (F.env<0∨F.env≥(F.S.envs.length:Int))
 pl:∀ (j:Nat) (cap:Int) (lo n:Nat),F.caps[j]?=some cap→F.rg[j]?=some (lo,n)→∀ (a m:Nat) (right:Int),right=1∨right=2→a+m≤n→O5 F.S.tabs F.S.regs F.env cap right a m=(((lo+a:Nat):Int),0)
 dj:RgOk F.rg
 own:∃ lo,F.rg[0]?=some (lo,492)
 brs:∀ (j lo n:Nat),0<j→F.rg[j]?=some (lo,n)→n=40
def Fr.at (F:Fr) (m:List (List UInt8)):KS:=Bn6 F.S (Az9 F.S.mem F.rg m)
structure CX where
 m:List (List UInt8)
 bad:List RecS
def Af3:Nat→List RecS→List MapEntry
 | _,[]=>[]
 | i,r::l=>{ key:=.agg ⟨Aa2 r⟩,val:=int 1,born:=i }::Af3 (i+1) l
abbrev Ij1 (c k:Nat) (env:Int) (caps:List Int) (bad:List RecS) (x:Option Addr × Nat × Nat):List HP :=
 [pt c (.cells De2 false [P0 k,int env,.slice x.1 caps.length x.2.1,.map (some x.2.2)]),slC false B2 1 x.1 caps.length x.2.1 (caps.map int),pt x.2.2 (.map (Af3 0 bad) bad.length)]
def V8 (c k:Nat) (env:Int) (caps:List Int) (bad:List RecS):HP:=hex fun x=>sl (Ij1 c k env caps bad x)
instance {c k:Nat} {env:Int} {caps:List Int} {bad:List RecS}:Chk (V8 c k env caps bad) (Ij1 c k env caps bad):=⟨rfl⟩
abbrev cmF (c k:Nat) (F:Fr) (x:CX):List HP:=[D8 k (F.at x.m),V8 c k F.env F.caps x.bad,pu (Fit F.S.mem.length F.rg x.m)]
def cmC (c k:Nat) (F:Fr) (x:CX):HP:=hex fun _:Unit=>sl (cmF c k F x)
instance {c k:Nat} {F:Fr} {x:CX}:Chk (cmC c k F x) (fun _:Unit=>cmF c k F x):=⟨rfl⟩
def V2 (nc:Nat) (kind:Int):Int:=if kind=1 then 8 else if kind=2 then 12 else if kind=3 then 3+nc else 1
def H5 (nc:Nat) (r:RecS):Option (Nat × Nat × Nat) :=
 if r.index<0∨r.index≥V2 nc r.kind then none
 else if r.kind=1 then some (0,24*r.index.toNat,24)
 else if r.kind=2 then some (0,192+8*r.index.toNat,8)
 else if r.kind=3 then if r.index<4 then some (0,288+40*r.index.toNat,40) else some (r.index.toNat-3,0,40)
 else if r.kind=4 then some (0,448,40)
 else some (0,488,4)
def G87 (caps:List Int):Option (Nat × Nat × Nat)→List Value
 | some (j,a,n)=>[int (caps.getD j 0),int a,int n]
 | none=>[int 0,int 0,int 0]
theorem G59 (c k:Nat) (env:Int) (caps:List Int) (bad:List RecS) (kind:Int) (hs:caps.length≤40):CtP A8 Z9 [P0 c,int kind] [V8 c k env caps bad] (int (V2 caps.length kind)):=by
 have e:IntKind.wrap .i64 (IntKind.wrap .i64 (4+(caps.length:Int))-1)=3+(caps.length:Int):=by rw [A7,A7];omega
 refine CtP.of D03 rfl fun h r=>Tr.eq (Dz6 ..) ?_;refine Je ?_
 refine B3 (V8 c k env caps bad) fun ⟨a,n,mb⟩=>?_;refine Je ?_
 unfold V2
 by_cases h1:kind=1
 ·refine Yt (by simpa using h1) ?_
  rw [if_pos h1];exact Jz
 refine Yf (by simpa using h1) ?_
 rw [if_neg h1]
 by_cases h2:kind=2
 ·refine Yt (by simpa using h2) ?_
  rw [if_pos h2];exact Jz
 refine Yf (by simpa using h2) ?_
 rw [if_neg h2]
 by_cases h3:kind=3
 ·refine Yt (by simpa using h3) ?_
  rw [if_pos h3];(refine Ja ?_;unhygienic intros)
  refine Ys fun o=>?_
  rw [e];exact ⟨by first|rfl|trivial,by first|rfl|trivial⟩
 refine Yf (by simpa using h3) ?_
 rw [if_neg h3];exact Jz
theorem Gl9 (c k:Nat) (env:Int) (caps:List Int) (bad:List RecS) (rc:RecS) (hs:caps.length≤40) (hn:0<caps.length):Ct A8 W8 [P0 c,.agg ⟨Aa2 rc⟩] [V8 c k env caps bad] fun v own =>
  v=.tuple ⟨[.agg ⟨G87 caps (H5 caps.length rc)⟩,.bool (H5 caps.length rc).isSome]⟩∧own [V8 c k env caps bad]:=by
 have hg:∀ j,j<caps.length→(caps.map int)[j]?=some (int (caps.getD j 0)):=fun j hj=>by rw [List.getElem?_map,N0 0 hj];rfl
 refine Ct.of Dr5 rfl fun h r=>Tr.eq (Dr7 ..) ?_;refine Je ?_
 (refine Jb ?_;unhygienic intros)
 refine Tr.orG (c:=decide (rc.index≥V2 caps.length rc.kind)) (fun hb=>?_) ?_
 ·(refine Ja ?_;unhygienic intros)
  refine Tr.pcall (G59 c k env caps bad rc.kind hs) ?_;refine Je ?_;exact Jz
 by_cases hi:rc.index<0∨rc.index≥V2 caps.length rc.kind
 ·refine Yt (by simp only [Bool.or_eq_true,decide_eq_true_eq];exact hi) ?_
  have e:H5 caps.length rc=none:=by unfold H5;rw [if_pos hi]
  rw [e]
  (refine Ja ?_;unhygienic intros)
  refine Ys fun o=>?_
  exact ⟨rfl,o.sub⟩
 refine Yf (by simp only [Bool.or_eq_false_iff,decide_eq_false_iff_not];omega) ?_
 refine B3 (V8 c k env caps bad) fun ⟨a,n,mb⟩=>?_;refine Je ?_
 (refine Ja ?_;unhygienic intros;repeat(refine Gw ?_;rintro px rfl;refine Ja ?_;unhygienic intros))
 refine Tr.xIntS (v:=caps.getD 0 0) (hg 0 hn) ?_
 (refine Ja ?_;unhygienic intros)
 by_cases h1:rc.kind=1
 ·refine Yt (by simpa using h1) ?_
  have e:H5 caps.length rc=some (0,24*rc.index.toNat,24):=by unfold H5;rw [if_neg hi,if_pos h1]
  have hm:V2 caps.length rc.kind=8:=by unfold V2;rw [if_pos h1]
  have e1:IntKind.wrap .i64 (24*rc.index)=((24*rc.index.toNat:Nat):Int):=by rw [A7];omega
  rw [e,e1]
  (refine Ja ?_;unhygienic intros)
  refine B1 (V8 c k env caps bad) ⟨some px,n,mb⟩ ?_;refine Je ?_
  refine Ys fun o=>?_
  exact ⟨rfl,o.sub⟩
 refine Yf (by simpa using h1) ?_
 by_cases h2:rc.kind=2
 ·(refine Ja ?_;unhygienic intros)
  refine Yt (by simpa using h2) ?_
  have e:H5 caps.length rc=some (0,192+8*rc.index.toNat,8):=by unfold H5;rw [if_neg hi,if_neg h1,if_pos h2]
  have hm:V2 caps.length rc.kind=12:=by unfold V2;rw [if_neg h1,if_pos h2]
  have e1:IntKind.wrap .i64 (192+IntKind.wrap .i64 (8*rc.index))=((192+8*rc.index.toNat:Nat):Int):=by rw [A7,A7];omega
  rw [e,e1]
  (refine Ja ?_;unhygienic intros)
  refine B1 (V8 c k env caps bad) ⟨some px,n,mb⟩ ?_;refine Je ?_
  refine Ys fun o=>?_
  exact ⟨rfl,o.sub⟩
 (refine Ja ?_;unhygienic intros)
 refine Yf (by simpa using h2) ?_
 (refine Jb ?_;unhygienic intros)
 refine Tr.andG (c:=decide (rc.index<4)) (fun hb=>?_) ?_
 ·exact Jz
 by_cases h3:rc.kind=3
 ·have hm:V2 caps.length rc.kind=3+caps.length:=by unfold V2;rw [if_neg h1,if_neg h2,if_pos h3]
  by_cases h4:rc.index<4
  ·refine Yt (by simp [h3,h4]) ?_
   have e:H5 caps.length rc=some (0,288+40*rc.index.toNat,40):=by unfold H5;rw [if_neg hi,if_neg h1,if_neg h2,if_pos h3,if_pos h4]
   have e1:IntKind.wrap .i64 (288+IntKind.wrap .i64 (40*rc.index))=((288+40*rc.index.toNat:Nat):Int):=by rw [A7,A7];omega
   rw [e,e1]
   (refine Ja ?_;unhygienic intros)
   refine B1 (V8 c k env caps bad) ⟨some px,n,mb⟩ ?_;refine Je ?_
   refine Ys fun o=>?_
   exact ⟨rfl,o.sub⟩
  ·refine Yf (by simp [h4]) ?_
   have e:H5 caps.length rc=some (rc.index.toNat-3,0,40):=by unfold H5;rw [if_neg hi,if_neg h1,if_neg h2,if_pos h3,if_neg h4]
   have e1:IntKind.wrap .i64 (IntKind.wrap .i64 (rc.index-4)+1)=((rc.index.toNat-3:Nat):Int):=by rw [A7,A7];omega
   rw [e,e1]
   (refine Ja ?_;unhygienic intros)
   refine Yt (by simpa using h3) ?_
   (refine Ja ?_;unhygienic intros)
   rw [Int.toNat_natCast]
   refine Je ?_
   refine Tr.xIntS (v:=caps.getD (rc.index.toNat-3) 0) (hg _ (by omega)) ?_
   (refine Ja ?_;unhygienic intros)
   refine B1 (V8 c k env caps bad) ⟨some px,n,mb⟩ ?_;refine Je ?_
   refine Ys fun o=>?_
   exact ⟨rfl,o.sub⟩
 refine Yf (by simp [h3]) ?_
 (refine Ja ?_;unhygienic intros)
 refine Yf (by simpa using h3) ?_
 (refine Ja ?_;unhygienic intros)
 by_cases h4:rc.kind=4
 ·refine Yt (by simpa using h4) ?_
  have e:H5 caps.length rc=some (0,448,40):=by unfold H5;rw [if_neg hi,if_neg h1,if_neg h2,if_neg h3,if_pos h4]
  rw [e]
  (refine Ja ?_;unhygienic intros)
  refine B1 (V8 c k env caps bad) ⟨some px,n,mb⟩ ?_;refine Je ?_
  refine Ys fun o=>?_
  exact ⟨rfl,o.sub⟩
 refine Yf (by simpa using h4) ?_
 have e:H5 caps.length rc=some (0,488,4):=by unfold H5;rw [if_neg hi,if_neg h1,if_neg h2,if_neg h3,if_neg h4]
 rw [e]
 (refine Ja ?_;unhygienic intros)
 refine B1 (V8 c k env caps bad) ⟨some px,n,mb⟩ ?_;refine Je ?_
 refine Ys fun o=>?_
 exact ⟨rfl,o.sub⟩
theorem H12:Ai1 PR 8 D7=some [TypeDesc.int .i64,TypeDesc.int .i64]:=by kernel_rfl
theorem Id7:D80 PR D7=some true:=by kernel_rfl
instance {a b:Int}:KeyC PR D7 (.agg ⟨[.int .i64 a,.int .i64 b]⟩):=⟨fun x=>by
 unfold NN.keyN;rw [H12,Id7];rfl⟩
theorem Eo5 (r:RecS):∀ (l:List RecS) (i j:Nat),Ag2 (.agg ⟨Aa2 r⟩) (Af3 j l) i=some (if r ∈ l then some (i+l.idxOf r) else none)
 | [],i,j=>by simp [Af3,Ag2]
 | q::l,i,j=>by
  have ih:=Eo5 r l (i+1) (j+1)
  obtain ⟨qk,qi⟩:=q
  obtain ⟨rk,ri⟩:=r
  simp only [Af3,Ag2,Be1,Aa2,eqs,eq1,decide_true,List.mem_cons] at ih ⊢
  by_cases h:rk=qk∧ri=qi
  ·obtain ⟨rfl,rfl⟩:=h
   simp
  ·have e:(rk==qk && (ri==qi && true))=false:=by
    rw [Bool.and_eq_false_iff]
    by_cases h1:rk=qk
    ·right;simp;intro h2;exact h ⟨h1,h2⟩
    ·left;simpa using h1
   have hne:¬ (({ kind:=rk,index:=ri }:RecS)={ kind:=qk,index:=qi }):=fun e=>by
    rw [RecS.mk.injEq] at e;exact h e
   rw [e]
   simp only [hne,false_or]
   rw [ih,List.idxOf_cons]
   have:(({ kind:=qk,index:=qi }:RecS)=={ kind:=rk,index:=ri })=false:=by
    rw [beq_eq_false_iff_ne];exact fun e=>hne e.symm
   rw [this,cond_false]
   split<;>simp;omega
theorem Dr0:∀ (l:List RecS) (j:Nat),(Af3 j l).length=l.length
 | [],_=>rfl
 | _::l,j=>by simp [Af3,Dr0 l]
theorem G40:∀ (l:List RecS) (j i:Nat) (r:RecS),l[i]?=some r→(Af3 j l)[i]?=some { key:=.agg ⟨Aa2 r⟩,val:=int 1,born:=j+i }
 | [],_,i,r,h=>by simp at h
 | q::l,j,0,r,h=>by simp at h;subst h;rfl
 | q::l,j,i+1,r,h=>by
  have:=G40 l (j+1) i r (by simpa using h)
  rw [Af3,List.getElem?_cons_succ,this];congr 2;omega
theorem Bu1 (r:RecS) (l:List RecS):Ak0 (int 0) (.agg ⟨Aa2 r⟩) (Af3 0 l)=some (if r ∈ l then (int 1,true) else (int 0,false)):=by
 unfold Ak0
 rw [Eo5]
 by_cases h:r ∈ l
 ·rw [if_pos h,if_pos h]
  have hi:=List.idxOf_lt_length_of_mem h
  have hg:l[l.idxOf r]?=some r:=by rw [List.getElem?_eq_getElem hi,List.getElem_idxOf]
  simp only [Nat.zero_add]
  rw [G40 l 0 _ r hg]
 ·rw [if_neg h,if_neg h]
theorem G37:∀ (l m:List RecS) (j:Nat),Af3 j (l++m)=Af3 j l++Af3 (j+l.length) m
 | [],m,j=>by simp [Af3]
 | q::l,m,j=>by simp only [List.cons_append,Af3,G37 l m (j+1),List.length_cons];congr 2;congr 1;omega
theorem D90 {r:RecS} {l:List RecS} (h:¬ r ∈ l):Dy9 (int 0) (.agg ⟨Aa2 r⟩) (Af3 0 l) l.length=some (int 0,l.length,.map (Af3 0 l++[{ key:=.agg ⟨Aa2 r⟩,val:=int 0,born:=l.length }]) (l.length+1)):=by
 unfold Dy9;rw [Eo5,if_neg h]
theorem Gp4 (r:RecS) (e:MapEntry):∀ (l:List RecS) (i j:Nat),¬ r ∈ l→Ag2 (.agg ⟨Aa2 r⟩) (Af3 j l++[e]) i=Ag2 (.agg ⟨Aa2 r⟩) [e] (i+l.length)
 | [],i,j,h=>by simp [Af3]
 | q::l,i,j,h=>by
  have ih:=Gp4 r e l (i+1) (j+1) (fun hm=>h (List.mem_cons_of_mem _ hm))
  have hq:Be1 (.agg ⟨Aa2 r⟩) (.agg ⟨Aa2 q⟩)=some false:=by
   obtain ⟨qk,qi⟩:=q
   obtain ⟨rk,ri⟩:=r
   simp only [Be1,Aa2,eqs,eq1,decide_true]
   congr 1
   rw [Bool.and_eq_false_iff]
   by_cases h1:rk=qk
   ·right;simp;intro h2;exact h (by subst h1 h2;exact List.mem_cons_self ..)
   ·left;simpa using h1
  show (match Be1 (.agg ⟨Aa2 r⟩) (.agg ⟨Aa2 q⟩) with
   | some true=>some (some i)
   | some false=>Ag2 (.agg ⟨Aa2 r⟩) (Af3 (j+1) l++[e]) (i+1)
   | none=>none)=_
  rw [hq]
  simp only
  rw [ih];congr 1;simp;omega
theorem Dt1 {r:RecS} {l:List RecS} (h:¬ r ∈ l):Ak0 (int 0) (.agg ⟨Aa2 r⟩) (Af3 0 l++[{ key:=.agg ⟨Aa2 r⟩,val:=int 0,born:=l.length }])=some (int 0,true):=by
 unfold Ak0
 rw [Gp4 r _ l 0 0 h]
 obtain ⟨rk,ri⟩:=r
 simp only [Ag2,Be1,Aa2,eqs,eq1,decide_true,BEq.rfl,Bool.and_self,Nat.zero_add]
 rw [List.getElem?_append_right (by rw [Dr0];exact Nat.le_refl _),Dr0];simp
theorem Da3:∀ (l:List RecS) (j:Nat) (n:Nat) (e:MapEntry) (i:Nat),e.born=n→j+l.length≤n→Bj7 (n:Int) (Af3 j l++[e]) i=some (i+l.length)
 | [],j,n,e,i,h,hl=>by simp [Af3,Bj7,h]
 | q::l,j,n,e,i,h,hl=>by
  have ih:=Da3 l (j+1) n e (i+1) h (by simp at hl;omega)
  simp only [Af3,List.cons_append,Bj7]
  have:(((j:Nat):Int)==(n:Int))=false:=by simp at hl ⊢;omega
  rw [this,cond_false,ih];congr 1;simp;omega
theorem Gm9 (f:MapEntry→MapEntry) (e:MapEntry):∀ (l:List MapEntry),modN f l.length (l++[e])=l++[f e]
 | []=>rfl
 | q::l=>by simp [modN,Gm9 f e l]
theorem D94 (r:RecS) (l:List RecS):modN (fun e=>{ e with val:=int (IntKind.wrap .i64 (0+1)) }) l.length (Af3 0 l++[{ key:=.agg ⟨Aa2 r⟩,val:=int 0,born:=l.length }])=Af3 0 (l++[r]):=by
 rw [show l.length=(Af3 0 l).length from (Dr0 l 0).symm,Gm9,G37]
 simp [Af3,Dr0];decide
theorem Fr.mem_at (F:Fr) (m:List (List UInt8)):(F.at m).mem=Az9 F.S.mem F.rg m:=rfl
theorem Fr.at_ok {F:Fr} (k:FrOk F) {m:List (List UInt8)} (f:Fit F.S.mem.length F.rg m):KOk F.N (F.at m):=by
 have:=k.ok
 exact ⟨this.envs,this.tabs,this.space,this.quota,by rw [Fr.mem_at,Dq3 f];exact this.mem,this.regs,this.may,this.mayl,this.nsect,this.sects,this.now⟩
theorem H43 {F:Fr} (k:FrOk F) {r:RecS} {j a n:Nat} (h:H5 F.caps.length r=some (j,a,n)):∃ lo z,F.rg[j]?=some (lo,z)∧a+n≤z∧j<F.caps.length:=by
 obtain ⟨lo0,h0⟩:=k.own
 have hl:=k.len;have hn:=k.ne
 unfold H5 at h
 split at h;· cases h
 rename_i hi
 split at h
 ·rename_i h1
  have hm:V2 F.caps.length r.kind=8:=by unfold V2;rw [if_pos h1]
  cases h;exact ⟨lo0,492,h0,by omega,hn⟩
 rename_i h1
 split at h
 ·rename_i h2
  have hm:V2 F.caps.length r.kind=12:=by unfold V2;rw [if_neg h1,if_pos h2]
  cases h;exact ⟨lo0,492,h0,by omega,hn⟩
 rename_i h2
 split at h
 ·rename_i h3
  have hm:V2 F.caps.length r.kind=3+F.caps.length:=by unfold V2;rw [if_neg h1,if_neg h2,if_pos h3]
  split at h
  ·cases h;exact ⟨lo0,492,h0,by omega,hn⟩
  ·cases h
   have hlt:r.index.toNat-3<F.rg.length:=by omega
   have hg:=List.getElem?_eq_getElem hlt
   generalize hx:F.rg[r.index.toNat-3]=x at hg
   obtain ⟨lo,z⟩:=x
   have:=k.brs _ lo z (by omega) hg
   exact ⟨lo,z,hg,by omega,by omega⟩
 split at h<;>(cases h;exact ⟨lo0,492,h0,by omega,hn⟩)
def Ac6 (kind:Int):Nat:=if kind=1 then 24 else if kind=2 then 8 else if kind=3 then 40 else if kind=4 then 40 else 4
theorem D60 {nc:Nat} {r:RecS} {j a n:Nat} (h:H5 nc r=some (j,a,n)):n=Ac6 r.kind:=by
 unfold H5 at h;unfold Ac6
 split at h;· cases h
 split at h
 ·rename_i h1;cases h;rw [if_pos h1]
 rename_i h1
 rw [if_neg h1]
 split at h
 ·rename_i h2;cases h;rw [if_pos h2]
 rename_i h2
 rw [if_neg h2]
 split at h
 ·rename_i h3;rw [if_pos h3];split at h<;>(cases h;rfl)
 rename_i h3
 rw [if_neg h3]
 split at h
 ·rename_i h4;cases h;rw [if_pos h4]
 ·rename_i h4;cases h;rw [if_neg h4]
def rdX (X:CX) (r:RecS):Option (List UInt8) :=
 match H5 X.m.length r with
 | some (j,a,n)=>if r ∈ X.bad then none else some (slice (X.m.getD j []) a n)
 | none=>none
def wrX (X:CX) (r:RecS) (b:List UInt8) (ok:Bool):Bool × CX :=
 match H5 X.m.length r with
 | some (j,a,n)=>if ok=true∧¬ r ∈ X.bad then (true,{ X with m:=X.m.set j (J5 (X.m.getD j []) a b) }) else (false,X)
 | none=>(false,X)
theorem Fit.mlen {F:Fr} (k:FrOk F) {m:List (List UInt8)} (f:Fit F.S.mem.length F.rg m):m.length=F.caps.length:=by rw [f.len,k.len]
theorem D50 {F:Fr} (k:FrOk F) {m:List (List UInt8)} (f:Fit F.S.mem.length F.rg m) {r:RecS} {j a n:Nat} (h:H5 F.caps.length r=some (j,a,n)) :
  ∃ lo z cap,F.caps[j]?=some cap∧F.rg[j]?=some (lo,z)∧a+n≤z∧m[j]?=some (m.getD j [])∧(m.getD j []).length=z∧lo+z≤F.S.mem.length∧cap=F.caps.getD j 0:=by
 obtain ⟨lo,z,hr,ha,hj⟩:=H43 k h
 obtain ⟨h1,x,hx,hl⟩:=f.each j lo z hr
 have e:m.getD j []=x:=by rw [List.getD_eq_getElem?_getD,hx];rfl
 exact ⟨lo,z,F.caps.getD j 0,N0 0 hj,hr,ha,by rw [e];exact hx,by rw [e];exact hl,h1,rfl⟩
theorem If7 {F:Fr} (k:FrOk F) {X:CX} (f:Fit F.S.mem.length F.rg X.m) {r:RecS} {l:List UInt8} (h:rdX X r=some l):l.length=Ac6 r.kind:=by
 unfold rdX at h
 rw [f.mlen k] at h
 cases hp:H5 F.caps.length r with
 | none=>rw [hp] at h;cases h
 | some p =>
  obtain ⟨j,a,n⟩:=p
  rw [hp] at h
  obtain ⟨lo,z,cap,_,_,ha,hx,hl,_⟩:=D50 k f hp
  simp only at h
  split at h
  ·cases h
  ·cases h;rw [Gn9 (by omega),D60 hp]
theorem Io6 {F:Fr} (k:FrOk F) {m:List (List UInt8)} (f:Fit F.S.mem.length F.rg m) {r:RecS} {j a n:Nat} (h:H5 F.caps.length r=some (j,a,n)) :
  Y4 (F.at m) F.env ⟨1,F.caps.getD j 0,(a:Int),(n:Int),0,0,[]⟩=((0,0,slice (m.getD j []) a n),F.at m):=by
 obtain ⟨lo,z,cap,hc,hr,ha,hx,hl,hz,rfl⟩:=D50 k f h
 have hp:=k.pl j _ lo z hc hr a n 1 (.inl rfl) ha
 have lp:=Dq3 f
 have hb:Du2 (Az9 F.S.mem F.rg m) ((lo+a:Nat):Int) (n:Int)=some (slice (m.getD j []) a n):=by
  unfold Du2
  rw [if_pos (by rw [lp];omega),Int.toNat_natCast,Int.toNat_natCast]
  rw [← Hk8 f k.dj hr hx ha];rfl
 have e:An3 (F.at m).tabs (F.at m).regs (F.at m).mem F.env (F.caps.getD j 0) (a:Int) (n:Int)=(slice (m.getD j []) a n,0):=by
  unfold An3
  rw [show O5 (F.at m).tabs (F.at m).regs F.env (F.caps.getD j 0) 1 (a:Int) (n:Int)=(((lo+a:Nat):Int),0) from hp]
  rw [if_neg (by simp),show Du2 (F.at m).mem _ _=_ from hb]
 unfold Y4
 rw [if_neg (show ¬ (F.env<0∨F.env≥((F.at m).envs.length:Int)) from k.env)]
 unfold kDo
 rw [if_pos rfl,e]
theorem Il9 {F:Fr} (k:FrOk F) {m:List (List UInt8)} (f:Fit F.S.mem.length F.rg m) {r:RecS} {j a n:Nat} (h:H5 F.caps.length r=some (j,a,n)) {b:List UInt8} (hb:b.length=n) :
  Y4 (F.at m) F.env ⟨2,F.caps.getD j 0,(a:Int),0,0,0,b⟩=((0,0,[]),F.at (m.set j (J5 (m.getD j []) a b))):=by
 obtain ⟨lo,z,cap,hc,hr,ha,hx,hl,hz,rfl⟩:=D50 k f h
 have hp:=k.pl j _ lo z hc hr a n 2 (.inr rfl) ha
 have lp:=Dq3 f
 have hs:A98 (Az9 F.S.mem F.rg m) ((lo+a:Nat):Int) b=some (Az9 F.S.mem F.rg (m.set j (J5 (m.getD j []) a b))):=by
  unfold A98
  rw [if_pos (by rw [lp];omega),Int.toNat_natCast]
  rw [← Ha7 f k.dj hr hx (by omega)];rfl
 have e:Aj0 (F.at m).tabs (F.at m).regs (F.at m).mem F.env (F.caps.getD j 0) (a:Int) b=(0,Az9 F.S.mem F.rg (m.set j (J5 (m.getD j []) a b))):=by
  unfold Aj0
  rw [hb,show O5 (F.at m).tabs (F.at m).regs F.env (F.caps.getD j 0) 2 (a:Int) (n:Int)=(((lo+a:Nat):Int),0) from hp]
  rw [if_neg (by simp),show A98 (F.at m).mem _ _=_ from hs]
 unfold Y4
 rw [if_neg (show ¬ (F.env<0∨F.env≥((F.at m).envs.length:Int)) from k.env)]
 unfold kDo
 rw [if_neg (show ¬ ((2:Int)=1) by decide),if_pos rfl,e];rfl
theorem Id2 {F:Fr} (k:FrOk F) {X:CX} (f:Fit F.S.mem.length F.rg X.m) {r:RecS} {b:List UInt8} {ok:Bool} (hb:ok=true→b.length=Ac6 r.kind):Fit F.S.mem.length F.rg (wrX X r b ok).2.m:=by
 unfold wrX
 rw [f.mlen k]
 cases hp:H5 F.caps.length r with
 | none=>exact f
 | some p =>
  obtain ⟨j,a,n⟩:=p
  obtain ⟨lo,z,cap,hc,hr,ha,hx,hl,hz,_⟩:=D50 k f hp
  simp only
  split
  ·rename_i hk
   exact f.set hr (by rw [Ad3 (by rw [hb hk.1,← D60 hp];omega)];exact hl)
  ·exact f
instance {caps:List Int} {o:Option (Nat × Nat × Nat)}:LenC (G87 caps o) 3:=⟨by cases o<;>rfl⟩
theorem H49 (caps:List Int) (o:Option (Nat × Nat × Nat)):(G87 caps o).all Value.oneCell=true:=by cases o<;>rfl
instance {caps:List Int} {o:Option (Nat × Nat × Nat)} {cs:List Value} [k:LenC cs 3]:SetsC cs 0 (G87 caps o) (G87 caps o):=⟨Bf2 k.ok LenC.ok (H49 caps o)⟩
instance {rc:RecS}:PartC (Aa2 rc) 0 2 (Aa2 rc):=⟨rfl⟩
theorem Hi6 (r:RecS) (l:List RecS):(if r ∈ l then (int 1,true) else (int 0,false))=(int (if r ∈ l then 1 else 0),decide (r ∈ l)):=by split<;>simp [*]
theorem Hj2 (r:RecS) (l:List RecS):decide ((if r ∈ l then (1:Int) else 0)>0)=decide (r ∈ l):=by split<;>simp [*]
theorem D09 (k:Nat) (S:KS) (N:Nat) (ok:KOk N S) (hN:N+1<1000000000) (env:Int) (c:CallS) (ba:Option Addr) (bc:Nat) (ro:Bool) (h5:c.op≠5) :
  Ct A8 Q2 [P0 k,int env,.agg ⟨Bk3 c ba bc⟩] [D8 k S,slC ro A3 1 ba c.b.length bc (A0 c.b)] fun v own=>∃ x d,v=.agg ⟨[int (Y4 S env c).1.1,int (Y4 S env c).1.2.1,.slice x (Y4 S env c).1.2.2.length d]⟩ ∧
    own [slC false A3 1 x (Y4 S env c).1.2.2.length d (A0 (Y4 S env c).1.2.2),D8 k (Y4 S env c).2,slC ro A3 1 ba c.b.length bc (A0 c.b)]:=by
 intro h r o
 obtain ⟨pq,o1⟩:=Own.ex (f:=fun pq=>slX ro A3 1 ba c.b.length bc pq (A0 c.b)) (o.perm (.swap _ _ _))
 obtain ⟨v,h',e,x,d,rfl,o2⟩:=Hv8 k S N ok hN env c ba bc ro pq h5 h r (o1.perm (.swap _ _ _))
 refine ⟨_,h',e,x,d,rfl,?_⟩
 have o3:=o2.picks [2] rfl
 exact (Own.inex (f:=fun pq=>slX ro A3 1 ba c.b.length bc pq (A0 c.b)) pq o3).picks [1,1,0] rfl
theorem D68 (c k:Nat) (F:Fr) (X:CX) (rc:RecS) (ok:FrOk F):Ct A8 N1 [P0 c,.agg ⟨Aa2 rc⟩] [cmC c k F X] fun v own =>
  (∃ l a cp,rdX X rc=some l∧l.length=Ac6 rc.kind∧v=.tuple ⟨[.slice a l.length cp,.bool true]⟩∧own [slC false A3 1 a l.length cp (A0 l),cmC c k F X]) ∨
  (rdX X rc=none∧v=.tuple ⟨[.slice none 0 0,.bool false]⟩∧own [cmC c k F X]):=by
 refine Ct.of Dw0 rfl fun h r=>Tr.eq (Dy2 ..) ?_;refine Je ?_
 refine B3 (cmC c k F X) fun u=>?_;refine Je ?_
 refine P2 2 rfl fun f=>?_
 (refine Ja ?_;unhygienic intros)
 refine Yc (Gl9 c k F.env F.caps X.bad rc ok.small ok.ne) ?_;rintro _ h ⟨rfl,o⟩<;>(refine Jg o ?_;unhygienic intros)
 have em:=f.mlen ok
 cases hp:H5 F.caps.length rc with
 | none =>
  (refine Jb ?_;unhygienic intros)
  refine Yb (Yt rfl ?_)
  refine Ys fun o=>(?_:Tr _ _ _ _) o;refine Je ?_
  (refine Ja ?_;unhygienic intros)
  refine B1 (cmC c k F X) () ?_;refine Je ?_
  refine Ys fun o=>?_
  exact .inr ⟨by unfold rdX;rw [em,hp],rfl,o.sub⟩
 | some p =>
  obtain ⟨j,a,n⟩:=p
  refine B3 (V8 c k F.env F.caps X.bad) fun ⟨ca,cn,mb⟩=>?_;refine Je ?_
  (refine Jb ?_;unhygienic intros)
  refine Tr.orG (c:=decide (rc ∈ X.bad)) (fun _=>?_) ?_
  ·(refine Ja ?_;unhygienic intros)
   rw [Bu1,Hi6]
   (refine Ja ?_;unhygienic intros)
   refine Ys fun o=>?_
   rw [Hj2];exact ⟨by first|rfl|trivial,by first|rfl|trivial⟩
  by_cases hb:rc ∈ X.bad
  ·rw [decide_eq_true hb]
   (refine Ja ?_;unhygienic intros)
   refine B1 (V8 c k F.env F.caps X.bad) ⟨ca,cn,mb⟩ ?_;refine Je ?_
   refine B1 (cmC c k F X) () ?_;refine Je ?_
   refine Ys fun o=>?_
   exact .inr ⟨by unfold rdX;rw [em,hp];exact if_pos hb,rfl,o.sub⟩
  ·rw [decide_eq_false hb]
   refine Yf rfl ?_
   (refine Ja ?_;unhygienic intros)
   refine B1 (V8 c k F.env F.caps X.bad) ⟨ca,cn,mb⟩ ?_;refine Je ?_
   have J:=If4 k (F.at X.m) F.N (F.at_ok ok f) ok.hN F.env 1 (F.caps.getD j 0) (a:Int) (n:Int) 0 0 (by decide)
   rw [Io6 ok f hp] at J
   refine Yc (J) ?_;rintro _ h ⟨y,d,rfl,o⟩<;>(refine Jf o ?_;unhygienic intros)
   refine Yf rfl ?_
   (refine Ja ?_;unhygienic intros)
   refine B1 (cmC c k F X) () ?_;refine Je ?_
   refine Ys fun o=>?_
   have e:rdX X rc=some (slice (X.m.getD j []) a n):=by unfold rdX;rw [em,hp];exact if_neg hb
   exact .inl ⟨_,y,d,e,If7 ok f e,rfl,o.sub⟩
theorem Da1 (c k:Nat) (F:Fr) (X:CX) (rc:RecS) (ok:FrOk F) (bs:List UInt8) (g:Bool) (ba:Option Addr) (bc:Nat) (hb:g=true→bs.length=Ac6 rc.kind) :
  Ct A8 I7 [P0 c,.agg ⟨Aa2 rc⟩,.slice ba bs.length bc,.bool g] [cmC c k F X,slC false A3 1 ba bs.length bc (A0 bs)] fun v own =>
   v=.bool (wrX X rc bs g).1∧own [cmC c k F (wrX X rc bs g).2,slC false A3 1 ba bs.length bc (A0 bs)]:=by
 refine Ct.of Dr3 rfl fun h r=>Tr.eq (Dr6 ..) ?_;refine Je ?_
 refine B3 (cmC c k F X) fun u=>?_;refine Je ?_
 refine P2 2 rfl fun f=>?_
 (refine Ja ?_;unhygienic intros)
 refine Yc (Gl9 c k F.env F.caps X.bad rc ok.small ok.ne) ?_;rintro _ h ⟨rfl,o⟩<;>(refine Jg o ?_;unhygienic intros)
 have em:=f.mlen ok
 cases hp:H5 F.caps.length rc with
 | none =>
  (refine Jb ?_;unhygienic intros)
  refine Yb (Yt rfl ?_)
  refine Ys fun o=>(?_:Tr _ _ _ _) o;refine Je ?_
  refine Yb (Yt rfl ?_)
  refine Ys fun o=>(?_:Tr _ _ _ _) o;refine Je ?_
  (refine Ja ?_;unhygienic intros)
  refine B1 (cmC c k F X) () ?_;refine Je ?_
  refine Ys fun o=>?_
  have e:wrX X rc bs g=(false,X):=by unfold wrX;rw [em,hp]
  rw [e]
  exact ⟨by first|rfl|trivial,o.sub⟩
 | some p =>
  obtain ⟨j,a,n⟩:=p
  refine B3 (V8 c k F.env F.caps X.bad) fun ⟨ca,cn,mb⟩=>?_;refine Je ?_
  (refine Jb ?_;unhygienic intros)
  refine Yb (Yf rfl ?_)
  refine Ys fun o=>(?_:Tr _ _ _ _) o;refine Je ?_
  (refine Jb ?_;unhygienic intros)
  refine Tr.orG (c:=decide (rc ∈ X.bad)) (fun _=>?_) ?_
  ·(refine Ja ?_;unhygienic intros)
   rw [Bu1,Hi6]
   (refine Ja ?_;unhygienic intros)
   refine Ys fun o=>?_
   rw [Hj2];exact ⟨by first|rfl|trivial,by first|rfl|trivial⟩
  by_cases hg:g=true∧¬ rc ∈ X.bad
  ·have e:wrX X rc bs g=(true,{ X with m:=X.m.set j (J5 (X.m.getD j []) a bs) }):=by unfold wrX;rw [em,hp];exact if_pos hg
   have f2:=Id2 (r:=rc) (b:=bs) (ok:=g) ok f hb
   rw [e] at f2
   obtain ⟨rfl,hg2⟩:=hg
   rw [e,decide_eq_false hg2]
   refine Yf rfl ?_
   (refine Ja ?_;unhygienic intros)
   refine B1 (V8 c k F.env F.caps X.bad) ⟨ca,cn,mb⟩ ?_;refine Je ?_
   have hl:bs.length=n:=by rw [hb rfl,D60 hp]
   have J:=D09 k (F.at X.m) F.N (F.at_ok ok f) ok.hN F.env ⟨2,F.caps.getD j 0,(a:Int),0,0,0,bs⟩ ba bc false (show ((2:Int)≠5) by decide)
   rw [Il9 ok f hp hl] at J
   refine Yc (J) ?_;rintro _ h ⟨y,d,rfl,o⟩<;>(refine Jf o ?_;unhygienic intros)
   refine Ap7 (show Fit F.S.mem.length F.rg (X.m.set j (J5 (X.m.getD j []) a bs)) from f2) ?_
   refine B1 (cmC c k F { X with m:=X.m.set j (J5 (X.m.getD j []) a bs) }) () ?_;refine Je ?_
   refine Ys fun o=>?_
   exact ⟨rfl,o.sub⟩
  ·have e:wrX X rc bs g=(false,X):=by unfold wrX;rw [em,hp];exact if_neg hg
   rw [e]
   refine Yt ?_ ?_
   ·cases g with
    | false=>rfl
    | true=>simpa using hg
   refine B1 (V8 c k F.env F.caps X.bad) ⟨ca,cn,mb⟩ ?_;refine Je ?_
   refine B1 (cmC c k F X) () ?_;refine Je ?_
   refine Ys fun o=>?_
   exact ⟨by first|rfl|trivial,o.sub⟩
def W0 {α:Type} (dec:List UInt8→α × Int) (z:α) (X:CX) (rc:RecS):(α × Int) × CX :=
 match rdX X rc with
 | some l=>(dec l,if (dec l).2=2 then { X with bad:=X.bad++[rc] } else X)
 | none=>((z,2),X)
theorem D84 {X:CX} {rc:RecS} {l:List UInt8} (h:rdX X rc=some l):¬ rc ∈ X.bad:=by
 unfold rdX at h
 split at h
 ·split at h
  ·cases h
  ·assumption
 ·cases h
theorem H18 (l:List UInt8) (h:(Z7 l).2≠1):(Z7 l).1=.zero:=by
 unfold Z7 at *;split<;>first|rfl|(split<;>first|rfl|(simp_all;done))
theorem Hy1 (l:List UInt8) (h:(Z3 l).2≠1):(Z3 l).1=.zero:=by
 unfold Z3 at *;split<;>first|rfl|(split<;>first|rfl|(simp_all;done))
theorem Hx3 (l:List UInt8) (h:(P7 l).2≠1):(P7 l).1=.zero:=by
 unfold P7 at *;split<;>first|rfl|(split<;>first|rfl|(simp_all;done))
theorem Ih4 (c k:Nat) (F:Fr) (X:CX) (rc:RecS) (ok:FrOk F) (hk:Ac6 rc.kind=24):Ct A8 I8 [P0 c,.agg ⟨Aa2 rc⟩,.func (.func A37) ⟨[]⟩ ⟨[]⟩] [cmC c k F X] fun v own =>
  v=.tuple ⟨[.agg ⟨D3 (W0 Z7 .zero X rc).1.1⟩,int (W0 Z7 .zero X rc).1.2]⟩∧own [cmC c k F (W0 Z7 .zero X rc).2]:=by
 refine Ct.of An2 rfl fun h r=>Tr.eq (Di0 ..) ?_;refine Je ?_
 (refine Ja ?_;unhygienic intros)
 refine Yc (D68 c k F X rc ok) ?_
 rintro v h (⟨l,a,cp,hr,hl,rfl,o⟩|⟨hr,rfl,o⟩)
 ·refine (?_:Tr _ _ _ _) o
  refine Je ?_
  have e:W0 Z7 .zero X rc=(Z7 l,if (Z7 l).2=2 then { X with bad:=X.bad++[rc] } else X):=by unfold W0;rw [hr]
  have hb:=D84 hr
  rw [e]
  rw [hk] at hl
  rw [hl]
  (refine Ja ?_;unhygienic intros)
  refine Yc (Hl1 a cp l hl) ?_;rintro _ h ⟨rfl,o⟩<;>(refine Jf o ?_;unhygienic intros)
  by_cases h2:(Z7 l).2=2
  ·refine Yt (by simpa using h2) ?_
   have hz:=H18 l (by omega)
   simp only [if_pos h2]
   refine B3 (cmC c k F X) fun u=>?_;refine Je ?_
   refine B3 (V8 c k F.env F.caps X.bad) fun ⟨ca,cn,mb⟩=>?_;refine Je ?_
   (refine Ja ?_;unhygienic intros)
   rw [Bu1,if_neg hb]
   (refine Ja ?_;unhygienic intros)
   rw [D90 hb]
   (refine Ja ?_;unhygienic intros)
   rw [Dt1 hb]
   (refine Ja ?_;unhygienic intros)
   rw [Da3 X.bad 0 X.bad.length _ 0 rfl (by omega),Nat.zero_add]
   (refine Ja ?_;unhygienic intros)
   rw [D94]
   refine Tr.jmp An2 (Tr.eq (A30 ..) ?_);(try simp only[Nr,Nl,wl,Nat.reduceAdd,Nat.reduceMul,Int.reduceToNat])
   refine Yt (by rw [bne_iff_ne];omega) ?_
   (refine Ja ?_;unhygienic intros)
   rw [show X.bad.length+1=(X.bad++[rc]).length by simp]
   refine B1 (V8 c k F.env F.caps (X.bad++[rc])) ⟨ca,cn,mb⟩ ?_;refine Je ?_
   refine B1 (cmC c k F { X with bad:=X.bad++[rc] }) () ?_;refine Je ?_
   refine Ys fun o=>?_
   exact ⟨by rw [hz]<;>rfl,o.sub⟩
  ·refine Yf (by simpa using h2) ?_
   simp only [if_neg h2]
   refine Tr.jmp An2 (Tr.eq (A30 ..) ?_);(try simp only[Nr,Nl,wl,Nat.reduceAdd,Nat.reduceMul,Int.reduceToNat])
   by_cases h1:(Z7 l).2=1
   ·refine Yf (by simpa using h1) ?_
    (refine Ja ?_;unhygienic intros)
    refine Ys fun o=>?_
    exact ⟨rfl,o.sub⟩
   ·refine Yt (by simpa using h1) ?_
    (refine Ja ?_;unhygienic intros)
    refine Ys fun o=>?_
    exact ⟨by rw [H18 l h1]<;>rfl,o.sub⟩
 ·refine (?_:Tr _ _ _ _) o
  refine Je ?_
  have e:W0 Z7 .zero X rc=((.zero,2),X):=by unfold W0;rw [hr]
  rw [e]
  (refine Ja ?_;unhygienic intros)
  refine Ys fun o=>?_
  exact ⟨rfl,o.sub⟩
theorem Ig5 (c k:Nat) (F:Fr) (X:CX) (rc:RecS) (ok:FrOk F) (hk:Ac6 rc.kind=8):Ct A8 J0 [P0 c,.agg ⟨Aa2 rc⟩,.func (.func A46) ⟨[]⟩ ⟨[]⟩] [cmC c k F X] fun v own =>
  v=.tuple ⟨[.agg ⟨Ai2 (W0 Z3 .zero X rc).1.1⟩,int (W0 Z3 .zero X rc).1.2]⟩∧own [cmC c k F (W0 Z3 .zero X rc).2]:=by
 refine Ct.of Ap3 rfl fun h r=>Tr.eq (Di5 ..) ?_;refine Je ?_
 (refine Ja ?_;unhygienic intros)
 refine Yc (D68 c k F X rc ok) ?_
 rintro v h (⟨l,a,cp,hr,hl,rfl,o⟩|⟨hr,rfl,o⟩)
 ·refine (?_:Tr _ _ _ _) o
  refine Je ?_
  have e:W0 Z3 .zero X rc=(Z3 l,if (Z3 l).2=2 then { X with bad:=X.bad++[rc] } else X):=by unfold W0;rw [hr]
  have hb:=D84 hr
  rw [e]
  rw [hk] at hl
  rw [hl]
  (refine Ja ?_;unhygienic intros)
  refine Yc (Hk2 a cp l hl) ?_;rintro _ h ⟨rfl,o⟩<;>(refine Jf o ?_;unhygienic intros)
  by_cases h2:(Z3 l).2=2
  ·refine Yt (by simpa using h2) ?_
   have hz:=Hy1 l (by omega)
   simp only [if_pos h2]
   refine B3 (cmC c k F X) fun u=>?_;refine Je ?_
   refine B3 (V8 c k F.env F.caps X.bad) fun ⟨ca,cn,mb⟩=>?_;refine Je ?_
   (refine Ja ?_;unhygienic intros)
   rw [Bu1,if_neg hb]
   (refine Ja ?_;unhygienic intros)
   rw [D90 hb]
   (refine Ja ?_;unhygienic intros)
   rw [Dt1 hb]
   (refine Ja ?_;unhygienic intros)
   rw [Da3 X.bad 0 X.bad.length _ 0 rfl (by omega),Nat.zero_add]
   (refine Ja ?_;unhygienic intros)
   rw [D94]
   refine Tr.jmp Ap3 (Tr.eq (A38 ..) ?_);(try simp only[Nr,Nl,wl,Nat.reduceAdd,Nat.reduceMul,Int.reduceToNat])
   refine Yt (by rw [bne_iff_ne];omega) ?_
   (refine Ja ?_;unhygienic intros)
   rw [show X.bad.length+1=(X.bad++[rc]).length by simp]
   refine B1 (V8 c k F.env F.caps (X.bad++[rc])) ⟨ca,cn,mb⟩ ?_;refine Je ?_
   refine B1 (cmC c k F { X with bad:=X.bad++[rc] }) () ?_;refine Je ?_
   refine Ys fun o=>?_
   exact ⟨by rw [hz]<;>rfl,o.sub⟩
  ·refine Yf (by simpa using h2) ?_
   simp only [if_neg h2]
   refine Tr.jmp Ap3 (Tr.eq (A38 ..) ?_);(try simp only[Nr,Nl,wl,Nat.reduceAdd,Nat.reduceMul,Int.reduceToNat])
   by_cases h1:(Z3 l).2=1
   ·refine Yf (by simpa using h1) ?_
    (refine Ja ?_;unhygienic intros)
    refine Ys fun o=>?_
    exact ⟨rfl,o.sub⟩
   ·refine Yt (by simpa using h1) ?_
    (refine Ja ?_;unhygienic intros)
    refine Ys fun o=>?_
    exact ⟨by rw [Hy1 l h1]<;>rfl,o.sub⟩
 ·refine (?_:Tr _ _ _ _) o
  refine Je ?_
  have e:W0 Z3 .zero X rc=((.zero,2),X):=by unfold W0;rw [hr]
  rw [e]
  (refine Ja ?_;unhygienic intros)
  refine Ys fun o=>?_
  exact ⟨rfl,o.sub⟩
theorem Hi2 (c k:Nat) (F:Fr) (X:CX) (rc:RecS) (ok:FrOk F) (hk:Ac6 rc.kind=40):Ct A8 H7 [P0 c,.agg ⟨Aa2 rc⟩,.func (.func Au9) ⟨[]⟩ ⟨[]⟩] [cmC c k F X] fun v own =>
  v=.tuple ⟨[.agg ⟨E1 (W0 P7 .zero X rc).1.1⟩,int (W0 P7 .zero X rc).1.2]⟩∧own [cmC c k F (W0 P7 .zero X rc).2]:=by
 refine Ct.of An6 rfl fun h r=>Tr.eq (Di4 ..) ?_;refine Je ?_
 (refine Ja ?_;unhygienic intros)
 refine Yc (D68 c k F X rc ok) ?_
 rintro v h (⟨l,a,cp,hr,hl,rfl,o⟩|⟨hr,rfl,o⟩)
 ·refine (?_:Tr _ _ _ _) o
  refine Je ?_
  have e:W0 P7 .zero X rc=(P7 l,if (P7 l).2=2 then { X with bad:=X.bad++[rc] } else X):=by unfold W0;rw [hr]
  have hb:=D84 hr
  rw [e]
  rw [hk] at hl
  rw [hl]
  (refine Ja ?_;unhygienic intros)
  refine Yc (Hl6 a cp l hl) ?_;rintro _ h ⟨rfl,o⟩<;>(refine Jf o ?_;unhygienic intros)
  by_cases h2:(P7 l).2=2
  ·refine Yt (by simpa using h2) ?_
   have hz:=Hx3 l (by omega)
   simp only [if_pos h2]
   refine B3 (cmC c k F X) fun u=>?_;refine Je ?_
   refine B3 (V8 c k F.env F.caps X.bad) fun ⟨ca,cn,mb⟩=>?_;refine Je ?_
   (refine Ja ?_;unhygienic intros)
   rw [Bu1,if_neg hb]
   (refine Ja ?_;unhygienic intros)
   rw [D90 hb]
   (refine Ja ?_;unhygienic intros)
   rw [Dt1 hb]
   (refine Ja ?_;unhygienic intros)
   rw [Da3 X.bad 0 X.bad.length _ 0 rfl (by omega),Nat.zero_add]
   (refine Ja ?_;unhygienic intros)
   rw [D94]
   refine Tr.jmp An6 (Tr.eq (A31 ..) ?_);(try simp only[Nr,Nl,wl,Nat.reduceAdd,Nat.reduceMul,Int.reduceToNat])
   refine Yt (by rw [bne_iff_ne];omega) ?_
   (refine Ja ?_;unhygienic intros)
   rw [show X.bad.length+1=(X.bad++[rc]).length by simp]
   refine B1 (V8 c k F.env F.caps (X.bad++[rc])) ⟨ca,cn,mb⟩ ?_;refine Je ?_
   refine B1 (cmC c k F { X with bad:=X.bad++[rc] }) () ?_;refine Je ?_
   refine Ys fun o=>?_
   exact ⟨by rw [hz]<;>rfl,o.sub⟩
  ·refine Yf (by simpa using h2) ?_
   simp only [if_neg h2]
   refine Tr.jmp An6 (Tr.eq (A31 ..) ?_);(try simp only[Nr,Nl,wl,Nat.reduceAdd,Nat.reduceMul,Int.reduceToNat])
   by_cases h1:(P7 l).2=1
   ·refine Yf (by simpa using h1) ?_
    (refine Ja ?_;unhygienic intros)
    refine Ys fun o=>?_
    exact ⟨rfl,o.sub⟩
   ·refine Yt (by simpa using h1) ?_
    (refine Ja ?_;unhygienic intros)
    refine Ys fun o=>?_
    exact ⟨by rw [Hx3 l h1]<;>rfl,o.sub⟩
 ·refine (?_:Tr _ _ _ _) o
  refine Je ?_
  have e:W0 P7 .zero X rc=((.zero,2),X):=by unfold W0;rw [hr]
  rw [e]
  (refine Ja ?_;unhygienic intros)
  refine Ys fun o=>?_
  exact ⟨rfl,o.sub⟩
def E98 (g:Int):List UInt8:=[b8 g,211,Bs4 [b8 g,211],0]
def As6 (l:List UInt8):Int × Int:=if byI l 0<8∧E98 (byI l 0)=l then (byI l 0,1) else (0,2)
theorem Gt8 (g:Int):Ct A8 Ao4 [int g] [] fun v own =>
  (0≤g∧g<8∧∃ a c,v=.tuple ⟨[.slice a 4 c,.bool true]⟩∧own [slC false A3 1 a 4 c (A0 (E98 g))])∨(¬ (0≤g∧g<8)∧v=.tuple ⟨[.slice none 0 0,.bool false]⟩∧own []):=by
 refine Ct.of Ec4 rfl fun h r=>Tr.eq (Ec6 ..) ?_;refine Je ?_
 (refine Ja ?_;unhygienic intros)
 by_cases hg:0≤g∧g<8
 ·refine Yf (by simp;omega) ?_
  rw [Bh6]
  refine Yn fun b h=>?_
  rw [show ([.int .u8 ((b8 g).toNat:Int),.int .u8 211]:List Value)=A0 [b8 g,211] from rfl]
  refine Ah3 0 rfl 1 2 rfl (by omega) ?_
  refine Je ?_
  refine Tr.pcall (Gc1 (slC false A3 1 (some ⟨b,0,none⟩) 2 2 (A0 [b8 g,211])) (some ⟨b,0,none⟩) false 2 2 2 [b8 g,211] 2 (by simp) (by simp [A9])) ?_
  (refine Ja ?_;unhygienic intros)
  rw [show List.take 2 [b8 g,211]=[b8 g,211] from rfl,Dq6]
  refine Tr.xApd ⟨rfl,rfl,by simp [A9]⟩ fun a' c' h'=>?_
  refine Je ?_
  refine Ys fun o=>?_
  exact .inl ⟨hg.1,hg.2,a',c',rfl,(show Own h' (_::slC false A3 1 a' 4 c' (A0 (E98 g))::_) from o).sub⟩
 ·refine Yt (by simp;omega) ?_
  refine Ys fun o=>?_
  exact .inr ⟨hg,rfl,o.sub⟩
theorem Ie9 (l:List UInt8):∀ (m i:Nat) (r:List UInt8),l.length-i=m→ByteArray.toList.loop ⟨⟨l⟩⟩ i r=r.reverse++l.drop i:=by
 intro m
 induction m with
 | zero =>
  intro i r hm
  unfold ByteArray.toList.loop
  rw [if_neg (show ¬ i<(ByteArray.mk ⟨l⟩).size by show ¬ i<l.length;omega),List.drop_eq_nil_of_le (by omega)];simp
 | succ m ih =>
  intro i r hm
  have hlt:i<l.length:=by omega
  unfold ByteArray.toList.loop
  rw [if_pos (show i<(ByteArray.mk ⟨l⟩).size from hlt),ih (i+1) _ (by omega),List.drop_eq_getElem_cons hlt]
  have:(ByteArray.mk ⟨l⟩).get! i=l[i]:=by
   show (Array.mk l)[i]! = l[i]
   simp [hlt]
  rw [this];simp
theorem Gl3 (l:List UInt8):(ByteArray.mk ⟨l⟩).toList=l:=by
 unfold ByteArray.toList
 rw [Ie9 l _ 0 [] rfl];simp
theorem Hk4 (a:Option Addr) (c:Nat) (l:List UInt8) (hl:l.length=4):Ct A8 Am2 [.slice a 4 c] [slC false A3 1 a 4 c (A0 l)] fun v own=>v=.tuple ⟨[int (As6 l).1,int (As6 l).2]⟩∧own [slC false A3 1 a 4 c (A0 l)]:=by
 refine Ct.of Ew1 rfl fun h r=>Tr.eq (Ew9 ..) ?_;refine Je ?_
 refine Yf rfl ?_
 (refine Ja ?_;unhygienic intros;repeat(refine Gw ?_;rintro px rfl;refine Ja ?_;unhygienic intros))
 refine Tr.xIntS (v:=byI l 0) (Ac4 (by omega)) ?_
 simp only [byI,Al6]
 refine Yc (Gt8 (byI l 0)) ?_
 rintro v h (⟨h1,h2,a1,c1,rfl,o⟩|⟨hn,rfl,o⟩)
 ·refine (?_:Tr _ _ _ _) o
  refine Je ?_
  (refine Ja ?_;unhygienic intros)
  rw [Gl3,Gl3]
  by_cases he:E98 (byI l 0)=l
  ·have e:As6 l=(byI l 0,1):=by unfold As6;rw [if_pos ⟨h2,he⟩]
   refine Yf (by simp [he]) ?_
   (refine Ja ?_;unhygienic intros)
   refine Tr.xIntS (v:=byI l 0) (Ac4 (by omega)) ?_
   refine Ys fun o=>?_
   rw [e];exact ⟨by simp only [byI,Al6],o.sub⟩
  ·have e:As6 l=(0,2):=by unfold As6;rw [if_neg (fun hh=>he hh.2)]
   refine Yt (by simp [he]) ?_
   refine Ys fun o=>?_
   rw [e];exact ⟨rfl,o.sub⟩
 ·refine (?_:Tr _ _ _ _) o
  refine Je ?_
  (refine Jb ?_;unhygienic intros)
  refine Yb (Yt rfl ?_)
  refine Ys fun o=>(?_:Tr _ _ _ _) o;refine Je ?_
  (refine Ja ?_;unhygienic intros)
  refine Ys fun o=>?_
  exact ⟨by unfold As6;rw [if_neg (by simp only [byI] at *;omega)],o.sub⟩
theorem Hv5 (l:List UInt8) (h:(As6 l).2≠1):(As6 l).1=0:=by
 unfold As6 at *;split<;>simp_all
theorem Id9 (c k:Nat) (F:Fr) (X:CX) (rc:RecS) (ok:FrOk F) (hk:Ac6 rc.kind=4):Ct A8 P8 [P0 c,.agg ⟨Aa2 rc⟩,.func (.func Am2) ⟨[]⟩ ⟨[]⟩] [cmC c k F X] fun v own =>
  v=.tuple ⟨[int (W0 As6 0 X rc).1.1,int (W0 As6 0 X rc).1.2]⟩∧own [cmC c k F (W0 As6 0 X rc).2]:=by
 refine Ct.of A79 rfl fun h r=>Tr.eq (D92 ..) ?_;refine Je ?_
 (refine Ja ?_;unhygienic intros)
 refine Yc (D68 c k F X rc ok) ?_
 rintro v h (⟨l,a,cp,hr,hl,rfl,o⟩|⟨hr,rfl,o⟩)
 ·refine (?_:Tr _ _ _ _) o
  refine Je ?_
  have e:W0 As6 0 X rc=(As6 l,if (As6 l).2=2 then { X with bad:=X.bad++[rc] } else X):=by unfold W0;rw [hr]
  have hb:=D84 hr
  rw [e]
  rw [hk] at hl
  rw [hl]
  (refine Ja ?_;unhygienic intros)
  refine Yc (Hk4 a cp l hl) ?_;rintro _ h ⟨rfl,o⟩<;>(refine Jf o ?_;unhygienic intros)
  by_cases h2:(As6 l).2=2
  ·refine Yt (by simpa using h2) ?_
   have hz:=Hv5 l (by omega)
   simp only [if_pos h2]
   refine B3 (cmC c k F X) fun u=>?_;refine Je ?_
   refine B3 (V8 c k F.env F.caps X.bad) fun ⟨ca,cn,mb⟩=>?_;refine Je ?_
   (refine Ja ?_;unhygienic intros)
   rw [Bu1,if_neg hb]
   (refine Ja ?_;unhygienic intros)
   rw [D90 hb]
   (refine Ja ?_;unhygienic intros)
   rw [Dt1 hb]
   (refine Ja ?_;unhygienic intros)
   rw [Da3 X.bad 0 X.bad.length _ 0 rfl (by omega),Nat.zero_add]
   (refine Ja ?_;unhygienic intros)
   rw [D94]
   refine Tr.jmp A79 (Tr.eq (Bk7 ..) ?_);(try simp only[Nr,Nl,wl,Nat.reduceAdd,Nat.reduceMul,Int.reduceToNat])
   refine Yt (by rw [bne_iff_ne];omega) ?_
   rw [show X.bad.length+1=(X.bad++[rc]).length by simp]
   refine B1 (V8 c k F.env F.caps (X.bad++[rc])) ⟨ca,cn,mb⟩ ?_;refine Je ?_
   refine B1 (cmC c k F { X with bad:=X.bad++[rc] }) () ?_;refine Je ?_
   refine Ys fun o=>?_
   exact ⟨by rw [hz],o.sub⟩
  ·refine Yf (by simpa using h2) ?_
   simp only [if_neg h2]
   refine Tr.jmp A79 (Tr.eq (Bk7 ..) ?_);(try simp only[Nr,Nl,wl,Nat.reduceAdd,Nat.reduceMul,Int.reduceToNat])
   by_cases h1:(As6 l).2=1
   ·refine Yf (by simpa using h1) ?_
    refine Ys fun o=>?_
    exact ⟨rfl,o.sub⟩
   ·refine Yt (by simpa using h1) ?_
    refine Ys fun o=>?_
    exact ⟨by rw [Hv5 l h1],o.sub⟩
 ·refine (?_:Tr _ _ _ _) o
  refine Je ?_
  have e:W0 As6 0 X rc=((0,2),X):=by unfold W0;rw [hr]
  rw [e]
  (refine Ja ?_;unhygienic intros)
  refine Ys fun o=>?_
  exact ⟨rfl,o.sub⟩
abbrev Ec5 (X:CX) (i:Int):(ProcS × Int) × CX:=W0 Z7 .zero X ⟨1,i⟩
abbrev D61 (X:CX) (i:Int):(FileS × Int) × CX:=W0 Z3 .zero X ⟨2,i⟩
abbrev D75 (X:CX) (i:Int):(PipeS × Int) × CX:=W0 P7 .zero X ⟨3,i⟩
abbrev Ed2 (X:CX):(PipeS × Int) × CX:=W0 P7 .zero X ⟨4,0⟩
abbrev Ep2 (X:CX):(Int × Int) × CX:=W0 As6 0 X ⟨5,0⟩
abbrev Br1 (X:CX) (i:Int) (p:ProcS):Bool × CX:=wrX X ⟨1,i⟩ (Au1 p) (okS p)
abbrev Bg9 (X:CX) (i:Int) (p:FileS):Bool × CX:=wrX X ⟨2,i⟩ (Ah1 p) (okF p)
abbrev A67 (X:CX) (i:Int) (p:PipeS):Bool × CX:=wrX X ⟨3,i⟩ (I0 p) (okP p)
abbrev B58 (X:CX) (p:PipeS):Bool × CX:=wrX X ⟨4,0⟩ (I0 p) (okP p)
abbrev Ib9 (X:CX) (rc:RecS):Bool × CX:=wrX X rc (List.replicate (Ac6 rc.kind) 0) true
theorem Ep7 (X:CX) (rc:RecS) (b:List UInt8):wrX X rc b false=(false,X):=by
 unfold wrX;split<;>simp
theorem Di7 (c k:Nat) (F:Fr) (X:CX) (rc:RecS) (ok:FrOk F):Ct A8 I7 [P0 c,.agg ⟨Aa2 rc⟩,.slice none 0 0,.bool false] [cmC c k F X] fun v own=>v=.bool false∧own [cmC c k F X]:=by
 intro h r o
 have o1:Own h (slC false A3 1 none 0 0 (A0 [])::cmC c k F X::r):=o.slNil false A3 (by omega)
 obtain ⟨v,h',e,rfl,o2⟩:=Da1 c k F X rc ok [] false none 0 (by simp) h r (o1.perm (.swap _ _ _))
 rw [Ep7] at e o2
 exact ⟨_,h',e,rfl,o2.sub⟩
theorem E20 (i:Int):Ct A8 A52 [int i] [] fun v own=>v=.agg ⟨Aa2 ⟨1,i⟩⟩∧own []:=by
 refine Ct.of Gj6 rfl fun h r=>Tr.eq (Gl1 ..) ?_;refine Je ?_
 (refine Ja ?_;unhygienic intros)
 refine Ys fun o=>?_
 exact ⟨rfl,o.sub⟩
theorem E18 (i:Int):Ct A8 A19 [int i] [] fun v own=>v=.agg ⟨Aa2 ⟨2,i⟩⟩∧own []:=by
 refine Ct.of Gj5 rfl fun h r=>Tr.eq (Gg6 ..) ?_;refine Je ?_
 (refine Ja ?_;unhygienic intros)
 refine Ys fun o=>?_
 exact ⟨rfl,o.sub⟩
theorem E63 (i:Int):Ct A8 A28 [int i] [] fun v own=>v=.agg ⟨Aa2 ⟨3,i⟩⟩∧own []:=by
 refine Ct.of Gj7 rfl fun h r=>Tr.eq (Gh8 ..) ?_;refine Je ?_
 (refine Ja ?_;unhygienic intros)
 refine Ys fun o=>?_
 exact ⟨rfl,o.sub⟩
theorem E15 (c k:Nat) (F:Fr) (X:CX) (ok:FrOk F) (i:Int):Ct A8 Q4 [P0 c,int i] [cmC c k F X] fun v own=>v=.tuple ⟨[.agg ⟨D3 (Ec5 X i).1.1⟩,int (Ec5 X i).1.2]⟩∧own [cmC c k F (Ec5 X i).2]:=by
 refine Ct.of Dw2 rfl fun h r=>Tr.eq (Dw7 ..) ?_;refine Je ?_
 (refine Ja ?_;unhygienic intros)
 refine Yc (E20 i) ?_;rintro _ h ⟨rfl,o⟩<;>(refine Jf o ?_;unhygienic intros)
 refine Yc (Ih4 c k F X ⟨1,i⟩ ok rfl) ?_;rintro _ h ⟨rfl,o⟩<;>(refine Jf o ?_;unhygienic intros)
 refine Ys fun o=>?_
 exact ⟨rfl,o.sub⟩
theorem Dk8 (c k:Nat) (F:Fr) (X:CX) (ok:FrOk F) (i:Int):Ct A8 J6 [P0 c,int i] [cmC c k F X] fun v own=>v=.tuple ⟨[.agg ⟨Ai2 (D61 X i).1.1⟩,int (D61 X i).1.2]⟩∧own [cmC c k F (D61 X i).2]:=by
 refine Ct.of Dy0 rfl fun h r=>Tr.eq (Dx1 ..) ?_;refine Je ?_
 (refine Ja ?_;unhygienic intros)
 refine Yc (E18 i) ?_;rintro _ h ⟨rfl,o⟩<;>(refine Jf o ?_;unhygienic intros)
 refine Yc (Ig5 c k F X ⟨2,i⟩ ok rfl) ?_;rintro _ h ⟨rfl,o⟩<;>(refine Jf o ?_;unhygienic intros)
 refine Ys fun o=>?_
 exact ⟨rfl,o.sub⟩
theorem E27 (c k:Nat) (F:Fr) (X:CX) (ok:FrOk F) (i:Int):Ct A8 Q3 [P0 c,int i] [cmC c k F X] fun v own=>v=.tuple ⟨[.agg ⟨E1 (D75 X i).1.1⟩,int (D75 X i).1.2]⟩∧own [cmC c k F (D75 X i).2]:=by
 refine Ct.of Dw6 rfl fun h r=>Tr.eq (Dw1 ..) ?_;refine Je ?_
 (refine Ja ?_;unhygienic intros)
 refine Yc (E63 i) ?_;rintro _ h ⟨rfl,o⟩<;>(refine Jf o ?_;unhygienic intros)
 refine Yc (Hi2 c k F X ⟨3,i⟩ ok rfl) ?_;rintro _ h ⟨rfl,o⟩<;>(refine Jf o ?_;unhygienic intros)
 refine Ys fun o=>?_
 exact ⟨rfl,o.sub⟩
theorem Gx3 (c k:Nat) (F:Fr) (X:CX) (ok:FrOk F):Ct A8 Q1 [P0 c] [cmC c k F X] fun v own=>v=.tuple ⟨[.agg ⟨E1 (Ed2 X).1.1⟩,int (Ed2 X).1.2]⟩∧own [cmC c k F (Ed2 X).2]:=by
 refine Ct.of Dx6 rfl fun h r=>Tr.eq (Dx4 ..) ?_;refine Je ?_
 (refine Ja ?_;unhygienic intros)
 refine Yc (Hi2 c k F X ⟨4,0⟩ ok rfl) ?_;rintro _ h ⟨rfl,o⟩<;>(refine Jf o ?_;unhygienic intros)
 refine Ys fun o=>?_
 exact ⟨rfl,o.sub⟩
theorem H16 (c k:Nat) (F:Fr) (X:CX) (ok:FrOk F):Ct A8 Ag1 [P0 c] [cmC c k F X] fun v own=>v=.tuple ⟨[int (Ep2 X).1.1,.bool ((Ep2 X).1.2==1)]⟩∧own [cmC c k F (Ep2 X).2]:=by
 refine Ct.of Dr4 rfl fun h r=>Tr.eq (Dr2 ..) ?_;refine Je ?_
 (refine Ja ?_;unhygienic intros)
 refine Yc (Id9 c k F X ⟨5,0⟩ ok rfl) ?_;rintro _ h ⟨rfl,o⟩<;>(refine Jf o ?_;unhygienic intros)
 refine Ys fun o=>?_
 exact ⟨rfl,o.sub⟩
theorem Dr1 (f:FileS):(Ah1 f).length=8:=rfl
theorem Ex8 (c k:Nat) (F:Fr) (X:CX) (ok:FrOk F) (i:Int) (p:ProcS):Ct A8 S9 [P0 c,int i,.agg ⟨D3 p⟩] [cmC c k F X] fun v own=>v=.bool (Br1 X i p).1∧own [cmC c k F (Br1 X i p).2]:=by
 refine Ct.of Df9 rfl fun h r=>Tr.eq (Dh2 ..) ?_;refine Je ?_
 (refine Ja ?_;unhygienic intros)
 refine Yc (Gd5 p) ?_
 rintro v h (⟨hk,a,rfl,o⟩|⟨hk,rfl,o⟩)
 ·refine (?_:Tr _ _ _ _) o
  refine Je ?_
  (refine Ja ?_;unhygienic intros)
  refine Yc (E20 i) ?_;rintro _ h ⟨rfl,o⟩<;>(refine Jf o ?_;unhygienic intros)
  have J:=Da1 c k F X ⟨1,i⟩ ok (Au1 p) true a 24 (fun _=>D66 p)
  rw [D66] at J
  refine Yc (J) ?_;rintro _ h ⟨rfl,o⟩<;>(refine Jf o ?_;unhygienic intros)
  refine Ys fun o=>?_
  unfold Br1;rw [hk]
  exact ⟨rfl,o.sub⟩
 ·refine (?_:Tr _ _ _ _) o
  refine Je ?_
  (refine Ja ?_;unhygienic intros)
  refine Yc (E20 i) ?_;rintro _ h ⟨rfl,o⟩<;>(refine Jf o ?_;unhygienic intros)
  refine Yc (Di7 c k F X ⟨1,i⟩ ok) ?_;rintro _ h ⟨rfl,o⟩<;>(refine Jf o ?_;unhygienic intros)
  refine Ys fun o=>?_
  unfold Br1;rw [hk,Ep7]
  exact ⟨rfl,o.sub⟩
theorem Dx8 (c k:Nat) (F:Fr) (X:CX) (ok:FrOk F) (i:Int) (p:FileS):Ct A8 N7 [P0 c,int i,.agg ⟨Ai2 p⟩] [cmC c k F X] fun v own=>v=.bool (Bg9 X i p).1∧own [cmC c k F (Bg9 X i p).2]:=by
 refine Ct.of Df2 rfl fun h r=>Tr.eq (Di1 ..) ?_;refine Je ?_
 (refine Ja ?_;unhygienic intros)
 refine Yc (Gb4 p) ?_
 rintro v h (⟨hk,a,rfl,o⟩|⟨hk,rfl,o⟩)
 ·refine (?_:Tr _ _ _ _) o
  refine Je ?_
  (refine Ja ?_;unhygienic intros)
  refine Yc (E18 i) ?_;rintro _ h ⟨rfl,o⟩<;>(refine Jf o ?_;unhygienic intros)
  have J:=Da1 c k F X ⟨2,i⟩ ok (Ah1 p) true a 8 (fun _=>Dr1 p)
  rw [Dr1] at J
  refine Yc (J) ?_;rintro _ h ⟨rfl,o⟩<;>(refine Jf o ?_;unhygienic intros)
  refine Ys fun o=>?_
  unfold Bg9;rw [hk]
  exact ⟨rfl,o.sub⟩
 ·refine (?_:Tr _ _ _ _) o
  refine Je ?_
  (refine Ja ?_;unhygienic intros)
  refine Yc (E18 i) ?_;rintro _ h ⟨rfl,o⟩<;>(refine Jf o ?_;unhygienic intros)
  refine Yc (Di7 c k F X ⟨2,i⟩ ok) ?_;rintro _ h ⟨rfl,o⟩<;>(refine Jf o ?_;unhygienic intros)
  refine Ys fun o=>?_
  unfold Bg9;rw [hk,Ep7]
  exact ⟨rfl,o.sub⟩
theorem E11 (c k:Nat) (F:Fr) (X:CX) (ok:FrOk F) (i:Int) (p:PipeS):Ct A8 S4 [P0 c,int i,.agg ⟨E1 p⟩] [cmC c k F X] fun v own=>v=.bool (A67 X i p).1∧own [cmC c k F (A67 X i p).2]:=by
 refine Ct.of Dh4 rfl fun h r=>Tr.eq (Dg8 ..) ?_;refine Je ?_
 (refine Ja ?_;unhygienic intros)
 refine Yc (D79 p) ?_
 rintro v h (⟨hk,a,rfl,o⟩|⟨hk,rfl,o⟩)
 ·refine (?_:Tr _ _ _ _) o
  refine Je ?_
  (refine Ja ?_;unhygienic intros)
  refine Yc (E63 i) ?_;rintro _ h ⟨rfl,o⟩<;>(refine Jf o ?_;unhygienic intros)
  have J:=Da1 c k F X ⟨3,i⟩ ok (I0 p) true a 40 (fun _=>Ay5 p.len)
  rw [Ay5 p.len] at J
  refine Yc (J) ?_;rintro _ h ⟨rfl,o⟩<;>(refine Jf o ?_;unhygienic intros)
  refine Ys fun o=>?_
  unfold A67;rw [hk]
  exact ⟨rfl,o.sub⟩
 ·refine (?_:Tr _ _ _ _) o
  refine Je ?_
  (refine Ja ?_;unhygienic intros)
  refine Yc (E63 i) ?_;rintro _ h ⟨rfl,o⟩<;>(refine Jf o ?_;unhygienic intros)
  refine Yc (Di7 c k F X ⟨3,i⟩ ok) ?_;rintro _ h ⟨rfl,o⟩<;>(refine Jf o ?_;unhygienic intros)
  refine Ys fun o=>?_
  unfold A67;rw [hk,Ep7]
  exact ⟨rfl,o.sub⟩
def Dg7 (f:CX→Int→CX):Nat→Int→CX→CX
 | 0,_,X=>X
 | m+1,i,X=>Dg7 f m (i+1) (f X i)
def Gd3 (X:CX):CX:=(Ep2 (Ed2 X).2).2
def G86 (nc:Nat) (X:CX):CX:=Gd3 (Dg7 (fun X i=>(D75 X i).2) (3+nc) 0 X)
def G33 (nc:Nat) (X:CX):CX:=G86 nc (Dg7 (fun X i=>(D61 X i).2) 12 0 X)
def lookN (nc:Nat) (X:CX):CX:=G33 nc (Dg7 (fun X i=>(Ec5 X i).2) 8 0 X)
def E86 (X:CX):CX:=lookN X.m.length X
theorem Hm9 (c k:Nat) (F:Fr) (ok:FrOk F):∀ (m:Nat) (i:Int) (X:CX),0≤i→i+m=3+F.caps.length →
  CtJ G5 B7 Ac0 [(0,P0 c),(20,int (3+F.caps.length)),(21,int i)] [cmC c k F X] fun v own=>v=.tuple ⟨[]⟩∧own [cmC c k F (Gd3 (Dg7 (fun X i=>(D75 X i).2) m i X))]:=by
 have hs:=ok.small
 intro m
 induction m with
 | zero =>
  intro i X h0 hi
  refine CtJ.of N3 fun h r=>Tr.eq (Bd6 ..) ?_;refine Je ?_
  refine Yf (by simp;omega) ?_
  refine Yc (Gx3 c k F X ok) ?_;rintro _ h ⟨rfl,o⟩<;>(refine Jf o ?_;unhygienic intros)
  refine Yc (H16 c k F (Ed2 X).2 ok) ?_;rintro _ h ⟨rfl,o⟩<;>(refine Jf o ?_;unhygienic intros)
  refine Ys fun o=>?_
  exact ⟨rfl,o⟩
 | succ m ih =>
  intro i X h0 hi
  have e1:IntKind.wrap .i64 (i+1)=i+1:=by rw [A7];omega
  refine CtJ.of N3 fun h r=>Tr.eq (Bd6 ..) ?_;refine Je ?_
  refine Yt (by simp;omega) ?_
  refine Yc (E27 c k F X ok i) ?_;rintro _ h ⟨rfl,o⟩<;>(refine Jf o ?_;unhygienic intros)
  rw [e1]
  refine Yr (ih (i+1) (D75 X i).2 (by omega) (by omega)) ?_
  rintro _ h ⟨rfl,o⟩
  exact ⟨rfl,o⟩
theorem Ho5 (c k:Nat) (F:Fr) (ok:FrOk F):∀ (m:Nat) (i:Int) (X:CX),0≤i→i+m=12 →
  CtJ G5 B7 Ac5 [(0,P0 c),(12,int i)] [cmC c k F X] fun v own=>v=.tuple ⟨[]⟩∧own [cmC c k F (G86 F.caps.length (Dg7 (fun X i=>(D61 X i).2) m i X))]:=by
 have hs:=ok.small
 intro m
 induction m with
 | zero =>
  intro i X h0 hi
  refine CtJ.of N3 fun h r=>Tr.eq (Bd1 ..) ?_;refine Je ?_
  refine Yf (by simp;omega) ?_
  refine B3 (cmC c k F X) fun u=>?_;refine Je ?_
  refine Tr.pcall (G59 c k F.env F.caps X.bad 3 ok.small) ?_;refine Je ?_;(refine Ja ?_;unhygienic intros)
  refine B1 (cmC c k F X) () ?_;refine Je ?_
  refine Yr (Hm9 c k F ok (3+F.caps.length) 0 X (by omega) (by omega)) ?_
  rintro _ h ⟨rfl,o⟩
  exact ⟨rfl,o⟩
 | succ m ih =>
  intro i X h0 hi
  have e1:IntKind.wrap .i64 (i+1)=i+1:=by rw [A7];omega
  refine CtJ.of N3 fun h r=>Tr.eq (Bd1 ..) ?_;refine Je ?_
  refine Yt (by simp;omega) ?_
  refine Yc (Dk8 c k F X ok i) ?_;rintro _ h ⟨rfl,o⟩<;>(refine Jf o ?_;unhygienic intros)
  rw [e1]
  refine Yr (ih (i+1) (D61 X i).2 (by omega) (by omega)) ?_
  rintro _ h ⟨rfl,o⟩
  exact ⟨rfl,o⟩
theorem Hm5 (c k:Nat) (F:Fr) (ok:FrOk F):∀ (m:Nat) (i:Int) (X:CX),0≤i→i+m=8 →
  CtJ G5 B7 Ac7 [(0,P0 c),(5,int i)] [cmC c k F X] fun v own=>v=.tuple ⟨[]⟩∧own [cmC c k F (G33 F.caps.length (Dg7 (fun X i=>(Ec5 X i).2) m i X))]:=by
 intro m
 induction m with
 | zero =>
  intro i X h0 hi
  refine CtJ.of N3 fun h r=>Tr.eq (Bd2 ..) ?_;refine Je ?_
  refine Yf (by simp;omega) ?_
  refine Yr (Ho5 c k F ok 12 0 X (by omega) (by omega)) ?_
  rintro _ h ⟨rfl,o⟩
  exact ⟨rfl,o⟩
 | succ m ih =>
  intro i X h0 hi
  have e1:IntKind.wrap .i64 (i+1)=i+1:=by rw [A7];omega
  refine CtJ.of N3 fun h r=>Tr.eq (Bd2 ..) ?_;refine Je ?_
  refine Yt (by simp;omega) ?_
  refine Yc (E15 c k F X ok i) ?_;rintro _ h ⟨rfl,o⟩<;>(refine Jf o ?_;unhygienic intros)
  rw [e1]
  refine Yr (ih (i+1) (Ec5 X i).2 (by omega) (by omega)) ?_
  rintro _ h ⟨rfl,o⟩
  exact ⟨rfl,o⟩
theorem Hj6 (c k:Nat) (F:Fr) (X:CX) (ok:FrOk F):Ct A8 B7 [P0 c] [cmC c k F X] fun v own=>v=.tuple ⟨[]⟩∧own [cmC c k F (E86 X)]:=by
 refine Ct.of N3 rfl fun h r=>Tr.eq (Dy6 ..) ?_;refine Je ?_
 intro o
 obtain ⟨u,o1⟩:=Own.unfold (cmC c k F X) o
 have f:=(Own.front o1 (i:=2) rfl).pure
 have e:E86 X=lookN F.caps.length X:=by unfold E86;rw [f.mlen ok]
 rw [e]
 refine (?_:Tr _ _ _ _) o
 refine Yr (Hm5 c k F ok 8 0 X (by omega) (by omega)) ?_
 rintro _ h ⟨rfl,o⟩
 exact ⟨rfl,o⟩
end Go.EQ
