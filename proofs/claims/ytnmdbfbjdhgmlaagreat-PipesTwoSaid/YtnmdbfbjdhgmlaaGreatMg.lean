/- Pipes are apart: what flows in one is nothing to another one; no conditions. -/
import Derived.Test.YtnmdbfbjdhgmlaaGreatMf
set_option linter.all false
set_option maxRecDepth 10000
namespace Go.EQ
open Go Go.NN
theorem Q9 (l:List UInt8):(A0 l).length=l.length:=by simp [A0]
theorem Dx7 {l:List UInt8} {i:Nat} {x:UInt8} (h:l[i]?=some x):(A0 l)[i]?=some (.int .u8 x.toNat):=by
 unfold A0;rw [List.getElem?_map,h];rfl
theorem Ib0 (l:List UInt8) (x:Nat):(A0 l).take x=A0 (l.take x):=by unfold A0;rw [List.map_take]
theorem Id2 (l m:List UInt8):A0 (l++m)=A0 l++A0 m:=by simp [A0]
def D83 (n:Int) (l:List UInt8):Int:=l.foldl (fun n c=>IntKind.wrap .u8 (n+c.toNat)) n
def Ge0 (l:List UInt8):Int:=D83 (IntKind.wrap .u8 l.length) l
theorem Hn8 (p:HP) (a:Option Addr) (ro:Bool) (n c d:Nat) (l:List UInt8) [ks:IsSl p a ro A4 1 n c (A0 l)] (x:Nat) (hx:x≤l.length) (hl:l.length≤B0):∀ (m i:Nat) (acc:Int),x-i=m→i≤x →
  S5 I4 Z9 Bi2 [(3,.int .u8 acc),(9,.slice a x d),(10,int x),(11,int i)] [p] (.int .u8 (D83 acc ((l.take x).drop i))):=by
 intro m
 induction m with
 | zero =>
  intro i acc hm hi
  refine S5.of Dv3 fun h r=>Tr.eq (Dy7 ..) ?_;refine Je ?_
  refine Yf (by simp;omega) ?_
  refine Ys fun o=>?_
  rw [List.drop_eq_nil_of_le (by simp;omega)];exact ⟨rfl,rfl⟩
 | succ m ih =>
  intro i acc hm hi
  have hlt:i<(l.take x).length:=by rw [List.length_take];omega
  have hp:l[i]?=some (l.take x)[i]:=by
   rw [List.getElem_take];exact List.getElem?_eq_getElem (by omega)
  have hd:(l.take x).drop i=(l.take x)[i]::(l.take x).drop (i+1):=List.drop_eq_getElem_cons hlt
  generalize (l.take x)[i]=y at hp hd
  have e1:IntKind.wrap .i64 ((i:Int)+1)=((i+1:Nat):Int):=by rw [A8];simp only [B0] at hl;omega
  refine S5.of Dv3 fun h r=>Tr.eq (Dy7 ..) ?_;refine Je ?_
  refine Yt (by simp;omega) ?_
  refine Q2 0 rfl fun h1 h2 h3=>?_
  rw [Q9] at h1
  (refine Ja ?_;unhygienic intros;repeat(refine Gw ?_;rintro px rfl;refine Ja ?_;unhygienic intros))
  refine Tr.xIntS (v:=y.toNat) (by simpa using Dx7 hp) ?_
  rw [e1,hd]
  exact W8 (ih (i+1) _ (by omega) (by omega)) (r:=r) (by simp) fun o=>⟨rfl,rfl⟩
theorem E35 (p:HP) (a:Option Addr) (ro:Bool) (n c d:Nat) (l:List UInt8) [ks:IsSl p a ro A4 1 n c (A0 l)] (x:Nat) (hx:x≤l.length) (hl:l.length≤B0) :
  CtP A9 Z9 [.slice a x d] [p] (.int .u8 (Ge0 (l.take x))):=by
 refine CtP.of Dv3 rfl fun h r=>Tr.eq (G79 ..) ?_;refine Je ?_
 have e:(l.take x).length=x:=by rw [List.length_take];omega
 have J:=Hn8 p a ro n c d l x hx hl _ 0 (IntKind.wrap .u8 x) rfl (by omega)
 rw [List.drop_zero] at J
 refine W8 J (r:=r) (by simp) fun o=>⟨?_,rfl⟩
 unfold Ge0;rw [e]
def Dq5:Nat→List UInt8→Int
 | _,[]=>-1
 | i,x::l=>if x≠0 then i else Dq5 (i+1) l
theorem Gh3:∀ (l:List UInt8) (i:Nat),decide (Dq5 i l≥0)=!l.all (·==0)
 | [],i=>by simp [Dq5]
 | x::l,i=>by
  unfold Dq5
  by_cases h:x=0
  ·rw [if_neg (by simp [h]),Gh3 l (i+1)];simp [h]
  ·rw [if_pos h];simp [h]
theorem Ii0 (x:UInt8):CtP A9 Ad8 [.int .u8 x.toNat] [] (.bool (x != 0)):=by
 refine CtP.of E72 rfl fun h r=>Tr.eq (E84 ..) ?_;refine Je ?_
 refine Ys fun o=>?_
 refine ⟨?_,rfl⟩
 congr 1
 have:((x.toNat:Int)=0)↔x=0:=by
  constructor
  ·intro h;exact UInt8.toNat.inj (by simpa using (show x.toNat=0 by omega))
  ·rintro rfl;rfl
 by_cases h:x=0
 ·subst h;rfl
 ·rw [bne_iff_ne.2 h,bne_iff_ne];intro h2;exact h (this.1 h2)
theorem E15 (p:HP) (a:Option Addr) (ro:Bool) (c:Nat) (l:List UInt8) [ks:IsSl p a ro A4 1 l.length c (A0 l)] (hl:l.length≤B0):∀ (m i:Nat),l.length-i=m→i≤l.length →
  S5 I4 E8 O6 [(0,.slice a l.length c),(1,.func (.func Ad8) ⟨[]⟩ ⟨[]⟩),(7,int l.length),(8,int i)] [p] (int (Dq5 i (l.drop i))):=by
 intro m
 induction m with
 | zero =>
  intro i hm hi
  refine S5.of Ae1 fun h r=>Tr.eq (Ap4 ..) ?_;refine Je ?_
  refine Yf (by simp;omega) ?_
  refine Ys fun o=>?_
  rw [List.drop_eq_nil_of_le (by omega)];exact ⟨rfl,rfl⟩
 | succ m ih =>
  intro i hm hi
  have hlt:i<l.length:=by omega
  have hp:l[i]?=some l[i]:=List.getElem?_eq_getElem hlt
  have hd:l.drop i=l[i]::l.drop (i+1):=List.drop_eq_getElem_cons hlt
  generalize l[i]=x at hp hd
  have e1:IntKind.wrap .i64 ((i:Int)+1)=((i+1:Nat):Int):=by rw [A8];simp only [B0] at hl;omega
  refine S5.of Ae1 fun h r=>Tr.eq (Ap4 ..) ?_;refine Je ?_
  refine Yt (by simp;omega) ?_
  (refine Ja ?_;unhygienic intros;repeat(refine Gw ?_;rintro px rfl;refine Ja ?_;unhygienic intros))
  refine Tr.xIntS (v:=x.toNat) (by simpa using Dx7 hp) ?_
  (refine Ja ?_;unhygienic intros)
  refine Bs4 (Ii0 x) (r:=p::r) (by simp) ?_
  by_cases hx:x=0
  ·have:(x != 0)=false:=by simp [hx]
   rw [this]
   (refine Ja ?_;unhygienic intros)
   rw [e1]
   refine W8 (ih (i+1) (by omega) (by omega)) (r:=r) (by simp) fun o=>?_
   rw [hd,Dq5,if_neg (by simp [hx])];exact ⟨by first|rfl|trivial,by first|rfl|trivial⟩
  ·have:(x != 0)=true:=by simp [hx]
   rw [this]
   (refine Ja ?_;unhygienic intros)
   refine Ys fun o=>?_
   rw [hd,Dq5,if_pos hx];exact ⟨by first|rfl|trivial,by first|rfl|trivial⟩
theorem Hz4 (p:HP) (a:Option Addr) (ro:Bool) (c:Nat) (l:List UInt8) [ks:IsSl p a ro A4 1 l.length c (A0 l)] (hl:l.length≤B0) :
  CtP A9 Ak5 [.slice a l.length c] [p] (.bool (l.all (·==0))):=by
 have j:CtP A9 E8 [.slice a l.length c,.func (.func Ad8) ⟨[]⟩ ⟨[]⟩] [p] (int (Dq5 0 l)):=by
  refine CtP.of Ae1 rfl fun h r=>Tr.eq (Bw3 ..) ?_;refine Je ?_
  exact W8 (E15 p a ro c l hl _ 0 rfl (by omega)) (r:=r) (by simp) fun o=>⟨rfl,rfl⟩
 have j2:CtP A9 O4 [.slice a l.length c,.func (.func Ad8) ⟨[]⟩ ⟨[]⟩] [p] (.bool (!l.all (·==0))):=by
  refine CtP.of Bl2 rfl fun h r=>Tr.eq (Bl7 ..) ?_;refine Je ?_
  refine Bs4 j (r:=r) (by simp) ?_
  (refine Ja ?_;unhygienic intros)
  refine Ys fun o=>?_
  rw [Gh3];exact ⟨by first|rfl|trivial,by first|rfl|trivial⟩
 refine CtP.of Gm5 rfl fun h r=>Tr.eq (Gm3 ..) ?_;refine Je ?_
 refine Bs4 j2 (r:=r) (by simp) ?_
 (refine Ja ?_;unhygienic intros)
 refine Ys fun o=>?_
 exact ⟨by simp,rfl⟩
theorem Gu8 (p q:HP) (a:Option Addr) (ro:Bool) (c:Nat) (a2:Option Addr) (ro2:Bool) (c2:Nat) (l m:List UInt8) [ks:IsSl p a ro A4 1 l.length c (A0 l)] [ks2:IsSl q a2 ro2 A4 1 m.length c2 (A0 m)] (hl:l.length≤B0) (hlm:m.length=l.length):∀ (k i:Nat),l.length-i=k→i≤l.length →
  S5 I4 B9 U6 [(0,.slice a l.length c),(1,.slice a2 m.length c2),(12,int l.length),(13,int i)] [p,q] (.bool (decide (l.drop i=m.drop i))):=by
 intro k
 induction k with
 | zero =>
  intro i hm hi
  refine S5.of Ak3 fun h r=>Tr.eq (Az0 ..) ?_;refine Je ?_
  refine Yf (by simp;omega) ?_
  refine Ys fun o=>?_
  rw [List.drop_eq_nil_of_le (by omega),List.drop_eq_nil_of_le (by omega)];exact ⟨rfl,rfl⟩
 | succ k ih =>
  intro i hm hi
  have hlt:i<l.length:=by omega
  have hp:l[i]?=some l[i]:=List.getElem?_eq_getElem hlt
  have hd:l.drop i=l[i]::l.drop (i+1):=List.drop_eq_getElem_cons hlt
  have hlt2:i<m.length:=by omega
  have hp2:m[i]?=some m[i]:=List.getElem?_eq_getElem hlt2
  have hd2:m.drop i=m[i]::m.drop (i+1):=List.drop_eq_getElem_cons hlt2
  generalize l[i]=x at hp hd
  generalize m[i]=y at hp2 hd2
  have e1:IntKind.wrap .i64 ((i:Int)+1)=((i+1:Nat):Int):=by rw [A8];simp only [B0] at hl;omega
  refine S5.of Ak3 fun h r=>Tr.eq (Az0 ..) ?_;refine Je ?_
  refine Yt (by simp;omega) ?_
  (refine Ja ?_;unhygienic intros;repeat(refine Gw ?_;rintro px rfl;refine Ja ?_;unhygienic intros))
  refine Tr.xIntS (v:=x.toNat) (by simpa using Dx7 hp) ?_
  (refine Ja ?_;unhygienic intros;repeat(refine Gw ?_;rintro px rfl;refine Ja ?_;unhygienic intros))
  refine Tr.xIntS (v:=y.toNat) (by simpa using Dx7 hp2) ?_
  by_cases hx:x=y
  ·subst hx
   refine Yf (by simp) ?_
   rw [e1]
   refine W8 (ih (i+1) (by omega) (by omega)) (r:=r) (by simp) fun o=>?_
   rw [hd,hd2];exact ⟨by simp,rfl⟩
  ·refine Yt (by rw [bne_iff_ne];intro h2;exact hx (UInt8.toNat.inj (by omega))) ?_
   refine Ys fun o=>?_
   rw [hd,hd2];exact ⟨by simp [hx],rfl⟩
theorem Em3 (p q:HP) (a:Option Addr) (ro:Bool) (c:Nat) (a2:Option Addr) (ro2:Bool) (c2:Nat) (l m:List UInt8) [ks:IsSl p a ro A4 1 l.length c (A0 l)] [ks2:IsSl q a2 ro2 A4 1 m.length c2 (A0 m)] (hl:l.length≤B0) :
  CtP A9 B9 [.slice a l.length c,.slice a2 m.length c2] [p,q] (.bool (decide (l=m))):=by
 refine CtP.of Ak3 rfl fun h r=>Tr.eq (Da3 ..) ?_;refine Je ?_
 by_cases h:m.length=l.length
 ·refine Yf (by simp [h]) ?_
  have J:=Gu8 p q a ro c a2 ro2 c2 l m hl h _ 0 rfl (by omega)
  simp only [List.drop_zero] at J
  exact W8 J (r:=r) (by simp) fun o=>⟨rfl,rfl⟩
 ·refine Yt (by rw [bne_iff_ne];omega) ?_
  refine Ys fun o=>?_
  exact ⟨by rw [decide_eq_false (fun e=>h (by rw [e]))],rfl⟩
theorem Ht9 (p:HP) (ro:Bool) (a:Option Addr) (c:Nat) (l:List UInt8) [ks:IsSl p a ro A4 1 l.length c (A0 l)] (hn:l.length≤B0) :
  Ct A9 G1 [.slice a l.length c] [p] fun v own=>∃ a' c',v=.slice a' l.length c'∧own [slC false A4 1 a' l.length c' (A0 l),p]:=by
 refine Ct.of A95 rfl fun h r=>Tr.eq (A82 ..) ?_;refine Je ?_
 refine Q2 0 rfl fun hl hc _=>?_
 refine Tr.cond (fun hb=>?_) fun hb=>?_
 ·obtain rfl:a=none:=by simpa using hb
  refine G5 false A4 1 (by omega) ?_
  intro o
  have o1:=(o.tail.head ks.en).slNone
  obtain rfl:l=[]:=by
   have:=o1.2.2.1
   cases l with
   | nil=>rfl
   | cons x l=>simp [A0] at this
  obtain rfl:c=0:=o1.2.1
  exact ⟨_,_,rfl,none,0,rfl,o⟩
 ·(refine Ja ?_;unhygienic intros)
  refine Ah6 0 rfl 1 0 rfl (by omega) ?_;refine Je ?_
  (refine Ja ?_;unhygienic intros)
  refine Tr.xApd ⟨by simp [A0],by simp [A0,Value.oneCell],by omega⟩ fun a' c' h'=>?_
  refine Je ?_
  refine Ys fun o=>⟨a',c',by simp,by simpa using o⟩
end Go.EQ
namespace Go.NN
section
variable {l:List HP} {h:H} {α:Type} {Q:α→H→Prop} {ro:Bool} {e:TypeId} {cs:List Value}
instance {f:Fn} {a c:Array Value} {k:Option α}:Dx (one (.func f a c) k) k:=⟨rfl⟩
theorem Tr.xPCells {a:Option Addr} {n c sz:Nat} {vs cs':List Value} {l':List HP} {k:H→Option (α × H)} [k1:LkO l a false e sz n c cs] (hn:0<n) (hj:vs≠[]∧vs.length≤cs.length∧vs.all Value.oneCell=true∧vs++cs.drop vs.length=cs') [k2:UpO l a (slC false e sz a n c cs') e sz n c cs l'] (t:∀ h',Tr l' h' (k h') Q):Tr l h (NN.pCells a vs h k) Q:=fun ow=>by
 obtain ⟨i,p,hi,hp⟩:=k1.ix
 obtain ⟨y,rfl⟩:=((ow.front hi).head hp).slSome hn
 have:NN.pCells (Option.some y) vs h k=NN.pAgg ((B1 y).add 0) vs h k:=by
  show NN.pAgg (B1 y) vs h k=_
  congr 1
 rw [this]
 exact Tr.xPAggS (k1:=k1) ⟨hj.1,by omega,hj.2.2.1,by simpa using hj.2.2.2⟩ (k2:=k2) t ow
end
end Go.NN

set_option maxRecDepth 10000
namespace Go.EQ
open Go Go.NN
def b8 (x:Int):UInt8:=UInt8.ofNat (x%256).toNat
theorem Dd1 (x:Int):IntKind.wrap .u8 x=x%256:=H04 x
theorem Bf9 (x:Int):IntKind.wrap .u8 x=((b8 x).toNat:Int):=by
 rw [Dd1,b8,UInt8.toNat_ofNat']
 omega
def Br5 (l:List UInt8):UInt8:=b8 (Ge0 l)
theorem Gu0:∀ (l:List UInt8) (n:Int),0≤n∧n<256→0≤D83 n l∧D83 n l<256
 | [],n,h=>h
 | x::l,n,h=>Gu0 l _ (by show 0≤IntKind.wrap .u8 (n+x.toNat)∧IntKind.wrap .u8 (n+x.toNat)<256;rw [Dd1];omega)
theorem Dm5 (l:List UInt8):Ge0 l=((Br5 l).toNat:Int):=by
 have:=Gu0 l (IntKind.wrap .u8 l.length) (by rw [Dd1];omega)
 unfold Br5
 rw [← Bf9,Dd1]
 unfold Ge0 at *;omega
structure FileS where
 kind:Int
 pipe:Int
 refs:Int
 flags:Int
abbrev FileS.zero:FileS:=⟨0,0,0,0⟩
abbrev Ai1 (f:FileS):List Value:=[int f.kind,int f.pipe,int f.refs,int f.flags]
def okF (f:FileS):Bool:=decide (f.kind≥1) && decide (f.kind≤3) && decide (f.pipe≥0) && decide (f.pipe≤7) && (f.kind != 3 || f.pipe==0) && decide (f.refs≥1) && decide (f.refs≤64) && (f.flags==0 || f.flags==1)
def A67 (f:FileS):List UInt8:=[b8 f.kind,b8 f.pipe,b8 f.refs,b8 f.flags,179]
def Ag7 (f:FileS):List UInt8:=A67 f++[Br5 (A67 f),0,0]
theorem Id6 (f:FileS):Ct A9 Dd3 [.agg ⟨Ai1 f⟩] [] fun v own=>v=.bool (okF f)∧own []:=by
 refine Ct.of Hi3 rfl fun h r=>Tr.eq (Hf7 ..) ?_;refine Je ?_
 (refine Ja ?_;unhygienic intros)
 refine Ys fun o=>?_
 refine ⟨?_,o.sub⟩
 rfl
theorem Ic0 (a:Option Addr) (c:Nat) (f:FileS):Ct A9 Ap6 [.agg ⟨Ai1 f⟩,.slice a 8 c] [slC false A4 1 a 8 c (A0 (List.replicate 8 0))] fun v own=>v=.bool (okF f)∧own [slC false A4 1 a 8 c (A0 (if okF f then Ag7 f else List.replicate 8 0))]:=by
 refine Ct.of Ha3 rfl fun h r=>Tr.eq (G90 ..) ?_;refine Je ?_
 (refine Ja ?_;unhygienic intros)
 refine Yc (Id6 f) ?_;rintro _ h ⟨rfl,o⟩<;>(refine Jf o ?_;unhygienic intros)
 cases hk:okF f with
 | false =>
  (refine Ja ?_;unhygienic intros)
  refine Ys fun o=>?_
  rw [if_neg (by simp)]
  exact ⟨rfl,o.sub⟩
 | true =>
  (refine Ja ?_;unhygienic intros)
  simp only [Bf9,List.drop_zero,List.take]
  refine Q2 2 rfl fun hl hc _=>?_
  refine Tr.xPCells (cs':=A0 (A67 f++[0,0,0])) (by omega) ⟨by simp,by simp [A0],by simp [Value.oneCell],rfl⟩ fun h=>?_
  (refine Ja ?_;unhygienic intros)
  refine Tr.pcall (E35 (slC false A4 1 a 8 c (A0 (A67 f++[0,0,0]))) a false 8 c c (A67 f++[0,0,0]) 5 (by simp [A67]) (by simp [A67,B0])) ?_
  refine Je ?_
  (refine Ja ?_;unhygienic intros;repeat(refine Gw ?_;rintro px rfl;refine Ja ?_;unhygienic intros))
  rw [show List.take 5 (A67 f++[0,0,0]:List UInt8)=A67 f from rfl,Dm5]
  refine Tr.xVS (cs':=A0 (Ag7 f)) ⟨by simp [A0,A67],rfl,rfl⟩ fun h=>?_
  refine Ys fun o=>?_
  simp only [if_true]
  exact ⟨trivial,o.sub⟩
theorem Dq9 {l:List Value} (h:l.all (fun v=>match v with|.int _ _=>true|_=>false)=true):Ao4 (.agg ⟨l⟩) (.agg ⟨l⟩)=true:=by
 show Bn5 l l=true
 induction l with
 | nil=>rfl
 | cons v l ih =>
  simp only [List.all_cons,Bool.and_eq_true] at h
  show (Az3 v v && Bn5 l l)=true
  rw [ih h.2,Bool.and_true]
  cases v<;>first|(simp [Az3];done)|exact absurd h.1 (by simp)
abbrev Gt5 (k:Nat):HP:=pt k (.cells Ah8 false [int 8,.func (.func Ap6) ⟨[]⟩ ⟨[]⟩,.func (.func Ap0) ⟨[]⟩ ⟨[]⟩])
theorem G59 (k:Nat) (f:FileS):Ct A9 U0 [P0 k,.agg ⟨Ai1 f⟩] [Gt5 k] fun v own=>(okF f=true∧∃ a,v=.tuple ⟨[.slice a 8 8,.bool true]⟩∧own [Gt5 k,slC false A4 1 a 8 8 (A0 (Ag7 f))])∨(okF f=false∧v=.tuple ⟨[.slice none 0 0,.bool false]⟩∧own [Gt5 k]):=by
 refine Ct.of Bz3 rfl fun h r=>Tr.eq (By9 ..) ?_;refine Je ?_
 (refine Ja ?_;unhygienic intros)
 refine Tr.ck ⟨by omega,by omega,by simp [B0]⟩ ?_
 refine Yn fun b1 h=>?_
 rw [show I1 (Int.toNat 8) [.int .u8 0]=A0 (List.replicate 8 0) from rfl]
 refine Ah6 0 rfl 1 8 rfl (by omega) ?_
 simp only [List.set_cons_zero]
 refine Je ?_
 (refine Jb ?_;unhygienic intros)
 refine Yb (Yf rfl ?_)
 (refine Jb ?_;unhygienic intros)
 refine Yc (Ic0 (some ⟨b1,0,none⟩) 8 f) ?_;rintro _ h ⟨rfl,o⟩<;>(refine Jg o ?_;unhygienic intros)
 refine Ys fun o=>(?_:Tr _ _ _ _) o;refine Je ?_
 cases hk:okF f with
 | false =>
  (refine Ja ?_;unhygienic intros)
  refine Ys fun o=>?_
  exact .inr ⟨rfl,rfl,o.sub⟩
 | true =>
  (refine Ja ?_;unhygienic intros)
  refine Ys fun o=>?_
  simp only [if_true] at o
  exact .inl ⟨rfl,_,rfl,o.sub⟩
theorem H73:Ct A9 Am3 [int 8,.func (.func Ap6) ⟨[]⟩ ⟨[]⟩,.func (.func Ap0) ⟨[]⟩ ⟨[]⟩] [] fun v own=>∃ k,v=P0 k∧own [pt k (.cells Ah8 false [int 8,.func (.func Ap6) ⟨[]⟩ ⟨[]⟩,.func (.func Ap0) ⟨[]⟩ ⟨[]⟩])]:=by
 refine Ct.of D08 rfl fun h r=>Tr.eq (D07 ..) ?_;refine Je ?_
 rw [show mm2 false (mm2 true 8 0) 64=8 from rfl]
 (refine Ja ?_;unhygienic intros)
 refine Ys fun o=>?_
 exact ⟨_,rfl,o.sub⟩
theorem Gi4:Ct A9 A88 [] [] fun v own=>∃ k,v=P0 k∧own [pt k (.cells Ah8 false [int 8,.func (.func Ap6) ⟨[]⟩ ⟨[]⟩,.func (.func Ap0) ⟨[]⟩ ⟨[]⟩])]:=by
 refine Ct.of Gm6 rfl fun h r=>Tr.eq (Gn6 ..) ?_;refine Je ?_
 refine Yc (H73) ?_;rintro _ h ⟨k,rfl,o⟩<;>(refine Jf o ?_;unhygienic intros)
 refine Ys fun o=>?_
 exact ⟨_,rfl,o.sub⟩
theorem E83 (f:FileS):Ct A9 A08 [.agg ⟨Ai1 f⟩] [] fun v own=>(okF f=true∧∃ a,v=.tuple ⟨[.slice a 8 8,.bool true]⟩∧own [slC false A4 1 a 8 8 (A0 (Ag7 f))])∨(okF f=false∧v=.tuple ⟨[.slice none 0 0,.bool false]⟩∧own []):=by
 refine Ct.of Gc3 rfl fun h r=>Tr.eq (Gb1 ..) ?_;refine Je ?_
 (refine Ja ?_;unhygienic intros)
 refine Yc (Gi4) ?_;rintro _ h ⟨k,rfl,o⟩<;>(refine Jf o ?_;unhygienic intros)
 refine Tr.same (Dq9 rfl) ?_
 refine Yc (G59 k f) ?_
 rintro v h (⟨hk,a,rfl,o⟩|⟨hk,rfl,o⟩)
 ·refine (?_:Tr _ _ _ _) o
  refine Je ?_
  (refine Ja ?_;unhygienic intros)
  refine Ys fun o=>?_
  exact .inl ⟨hk,a,rfl,o.sub⟩
 ·refine (?_:Tr _ _ _ _) o
  refine Je ?_
  (refine Ja ?_;unhygienic intros)
  refine Ys fun o=>?_
  exact .inr ⟨hk,rfl,o.sub⟩
theorem Ab8 {l:List UInt8} {i:Nat} (h:i<l.length):(A0 l)[i]?=some (.int .u8 ((l.getD i 0).toNat:Int)):=by
 rw [List.getD_eq_getElem?_getD,List.getElem?_eq_getElem h];exact Dx7 (List.getElem?_eq_getElem h)
theorem Al1 (x:UInt8):IntKind.wrap .i64 (x.toNat:Int)=(x.toNat:Int):=by
 have:=x.toNat_lt;rw [A8];omega
abbrev byI (l:List UInt8) (i:Nat):Int:=((l.getD i 0).toNat:Int)
def B12 (l:List UInt8):FileS:=⟨byI l 0,byI l 1,byI l 2,byI l 3⟩
def isF (l:List UInt8):Bool:=okF (B12 l) && decide (Ag7 (B12 l)=l)
theorem H91 (a:Option Addr) (c:Nat) (l:List UInt8) (hl:l.length=8):Ct A9 Ap0 [.slice a 8 c] [slC false A4 1 a 8 c (A0 l)] fun v own=>v=.tuple ⟨[.agg ⟨Ai1 (B12 l)⟩,.bool (isF l)]⟩∧own [slC false A4 1 a 8 c (A0 l)]:=by
 have key:∀ a1:Option Addr,CtP A9 B9 [.slice a1 8 8,.slice a 8 c] [slC false A4 1 a1 8 8 (A0 (Ag7 (B12 l))),slC false A4 1 a 8 c (A0 l)] (.bool (decide (Ag7 (B12 l)=l))):=fun a1=>by
  have J:=Em3 (slC false A4 1 a1 8 8 (A0 (Ag7 (B12 l)))) (slC false A4 1 a l.length c (A0 l)) a1 false 8 a false c (Ag7 (B12 l)) l (by simp [Ag7,A67,B0])
  rwa [hl,show (Ag7 (B12 l)).length=8 from rfl] at J
 refine Ct.of G38 rfl fun h r=>Tr.eq (G46 ..) ?_;refine Je ?_
 refine Yn fun b1 h=>?_
 (refine Ja ?_;unhygienic intros;repeat(refine Gw ?_;rintro px rfl;refine Ja ?_;unhygienic intros))
 refine Tr.xIntS (v:=byI l 0) (Ab8 (by omega)) ?_
 (refine Ja ?_;unhygienic intros)
 refine Tr.xIntS (v:=byI l 1) (Ab8 (by omega)) ?_
 (refine Ja ?_;unhygienic intros)
 refine Tr.xIntS (v:=byI l 2) (Ab8 (by omega)) ?_
 (refine Ja ?_;unhygienic intros)
 refine Tr.xIntS (v:=byI l 3) (Ab8 (by omega)) ?_
 simp only [byI,Al1]
 refine Yn fun b2 h=>?_
 (refine Jb ?_;unhygienic intros)
 refine Yc (E83 (B12 l)) ?_
 rintro v h (⟨hk,a1,rfl,o⟩|⟨hk,rfl,o⟩)
 ·refine (?_:Tr _ _ _ _) o
  refine Je ?_
  (refine Jb ?_;unhygienic intros)
  refine Yb (Yt rfl ?_)
  refine Tr.pcall (key a1) ?_;refine Je ?_;(refine Jb ?_;unhygienic intros)
  refine Tr.same (Dq9 rfl) ?_
  refine Ys fun o=>(?_:Tr _ _ _ _) o;refine Je ?_
  (refine Ja ?_;unhygienic intros)
  refine Ys fun o=>?_
  exact ⟨by unfold isF;rw [hk,Bool.true_and];rfl,o.sub⟩
 ·refine (?_:Tr _ _ _ _) o
  refine Je ?_
  (refine Ja ?_;unhygienic intros)
  refine Ys fun o=>?_
  exact ⟨by unfold isF;rw [hk];rfl,o.sub⟩
theorem El7 (n:Nat) (a:Option Addr) (c:Nat) (l:List UInt8) (hl:l.length=n) (hn:n≤B0):Ct A9 G1 [.slice a n c] [slC false A4 1 a n c (A0 l)] fun v own=>∃ a' c',v=.slice a' n c'∧own [slC false A4 1 a' n c' (A0 l),slC false A4 1 a n c (A0 l)]:=by
 subst hl;exact Ht9 (slC false A4 1 a l.length c (A0 l)) false a c l hn
theorem Ef6 (n:Nat) (a:Option Addr) (c:Nat) (l:List UInt8) (hl:l.length=n) (hn:n≤B0):CtP A9 Ak5 [.slice a n c] [slC false A4 1 a n c (A0 l)] (.bool (l.all (·==0))):=by
 subst hl;exact Hz4 (slC false A4 1 a l.length c (A0 l)) a false c l hn
theorem G55 (k:Nat) (a:Option Addr) (c:Nat) (l:List UInt8) (hl:l.length=8):Ct A9 U5 [P0 k,.slice a 8 c] [Gt5 k,slC false A4 1 a 8 c (A0 l)] fun v own=>v=.tuple ⟨[.agg ⟨Ai1 (if isF l then B12 l else .zero)⟩,.bool (isF l)]⟩∧own [Gt5 k,slC false A4 1 a 8 c (A0 l)]:=by
 refine Ct.of Bz4 rfl fun h r=>Tr.eq (Bz1 ..) ?_;refine Je ?_
 (refine Ja ?_;unhygienic intros)
 refine Yf rfl ?_
 (refine Jb ?_;unhygienic intros)
 refine Yc (El7 8 a c l hl (by simp [B0])) ?_;rintro _ h ⟨a1,c1,rfl,o⟩<;>(refine Jg o ?_;unhygienic intros)
 refine Yc (H91 a1 c1 l hl) ?_;rintro _ h ⟨rfl,o⟩<;>(refine Jg o ?_;unhygienic intros)
 cases hk:isF l with
 | false =>
  (refine Ja ?_;unhygienic intros)
  refine Ys fun o=>?_
  exact ⟨rfl,o.sub⟩
 | true =>
  (refine Ja ?_;unhygienic intros)
  refine Ys fun o=>?_
  exact ⟨rfl,o.sub⟩
def Z4 (l:List UInt8):FileS × Int:=if l.all (·==0) then (.zero,0) else if isF l then (B12 l,1) else (.zero,2)
theorem Hh1 (a:Option Addr) (c:Nat) (l:List UInt8) (hl:l.length=8):Ct A9 A14 [.slice a 8 c] [slC false A4 1 a 8 c (A0 l)] fun v own=>v=.tuple ⟨[.agg ⟨Ai1 (Z4 l).1⟩,int (Z4 l).2]⟩∧own [slC false A4 1 a 8 c (A0 l)]:=by
 refine Ct.of Gb5 rfl fun h r=>Tr.eq (Gb0 ..) ?_;refine Je ?_
 refine Yn fun b1 h=>?_
 refine Yb (Yt rfl ?_)
 refine Tr.pcall (Ef6 8 a c l hl (by simp [B0])) ?_;refine Je ?_;(refine Jb ?_;unhygienic intros)
 refine Ys fun o=>(?_:Tr _ _ _ _) o;refine Je ?_
 cases hb:l.all (·==0) with
 | true =>
  (refine Ja ?_;unhygienic intros)
  refine Ys fun o=>?_
  exact ⟨by unfold Z4;rw [hb];rfl,o.sub⟩
 | false =>
  (refine Jb ?_;unhygienic intros)
  refine Yc (Gi4) ?_;rintro _ h ⟨k,rfl,o⟩<;>(refine Jg o ?_;unhygienic intros)
  refine Yc (G55 k a c l hl) ?_;rintro _ h ⟨rfl,o⟩<;>(refine Jg o ?_;unhygienic intros)
  cases hk:isF l with
  | false =>
   (refine Ja ?_;unhygienic intros)
   refine Ys fun o=>?_
   exact ⟨by unfold Z4;rw [hb,hk];rfl,o.sub⟩
  | true =>
   (refine Ja ?_;unhygienic intros)
   refine Ys fun o=>?_
   exact ⟨by unfold Z4;rw [hb,hk];rfl,o.sub⟩
structure PipeS where
 head:Int
 count:Int
 readers:Int
 writers:Int
 data:List UInt8
 len:data.length=32
abbrev PipeS.zero:PipeS:=⟨0,0,0,0,List.replicate 32 0,rfl⟩
abbrev E3 (p:PipeS):List Value:=int p.head::int p.count::int p.readers::int p.writers::A0 p.data
theorem Ab0 {p:PipeS} (hd:p.data.length=32):(E3 p).length=36:=by simp [E3,Q9,hd]
theorem Hm4 {p:PipeS} (hd:p.data.length=32):4+32≤(E3 p).length∧((E3 p).drop 4).take 32=A0 p.data:=⟨by rw [Ab0 hd];exact Nat.le_refl _,by
 rw [show (E3 p).drop 4=A0 p.data from rfl,List.take_of_length_le (by rw [Q9,hd];exact Nat.le_refl _)]⟩
theorem Gh4 (p:PipeS):(E3 p).all Value.oneCell=true:=by simp [E3,Ae4,Value.oneCell]
theorem Hj5 (p:PipeS):Ao4 (.agg ⟨E3 p⟩) (.agg ⟨E3 p⟩)=true:=Dq9 (by simp [E3,A0])
instance {p:PipeS}:LenC (E3 p) 36:=⟨Ab0 p.len⟩
instance {p:PipeS}:PartC (E3 p) 0 36 (E3 p):=⟨B60 (Ab0 p.len)⟩
instance {p:PipeS} {cs:List Value} [k:LenC cs 36]:SetsC cs 0 (E3 p) (E3 p):=⟨Bf5 k.ok (Ab0 p.len) (Gh4 p)⟩
instance {p:PipeS}:SameC (.agg ⟨E3 p⟩):=⟨Hj5 p⟩
def okP (p:PipeS):Bool:=decide (0≤p.head∧p.head≤31) && decide (0≤p.count∧p.count≤32) && decide (0≤p.readers∧p.readers≤8) && decide (0≤p.writers∧p.writers≤8)
def Af8 (p:PipeS):List UInt8:=[1,b8 p.head,b8 p.count,b8 p.readers,b8 p.writers,197]
def I0 (p:PipeS):List UInt8:=Af8 p++Br5 (Af8 p)::0::p.data
theorem Ax3 {p:PipeS} (hd:p.data.length=32):(I0 p).length=40:=by simp [I0,Af8,hd]
theorem Ig4 (n m:Int):CtP A9 Ap5 [int n,int m] [] (.bool (decide (0≤n∧n≤m))):=by
 refine CtP.of G63 rfl fun h r=>Tr.eq (G43 ..) ?_;refine Je ?_
 (refine Ja ?_;unhygienic intros)
 refine Ys fun o=>?_
 refine ⟨?_,rfl⟩
 refine congrArg Value.bool ?_;rw [Bool.eq_iff_iff];simp only [Bool.and_eq_true,Bool.or_eq_true,Bool.not_eq_true',Bool.not_eq_false',decide_eq_true_eq,decide_eq_false_iff_not,bne_iff_ne,beq_iff_eq,ne_eq,A8,Y7,Q0,ge_iff_le,gt_iff_lt];first|done|omega
instance {n m:Int} {l:List HP}:PCi A9 Ap5 [.int .i64 n,.int .i64 m] l (.bool (decide (0≤n∧n≤m))):=PCi.of (Ig4 n m)
theorem Gt2 (p:PipeS):Ct A9 Bs1 [.agg ⟨E3 p⟩] [] fun v own=>v=.bool (okP p)∧own []:=by
 refine Ct.of Hq7 rfl fun h r=>Tr.eq (Ho8 ..) ?_;refine Je ?_
 (refine Ja ?_;unhygienic intros)
 refine Ys fun o=>?_
 exact ⟨rfl,o.sub⟩
theorem H97 (a:Option Addr) (c:Nat) (p:PipeS):Ct A9 Bh4 [.agg ⟨E3 p⟩,.slice a 40 c] [slC false A4 1 a 40 c (A0 (List.replicate 40 0))] fun v own=>v=.bool (okP p)∧own [slC false A4 1 a 40 c (A0 (if okP p then I0 p else List.replicate 40 0))]:=by
 have hd:=p.len
 refine Ct.of Hk3 rfl fun h r=>Tr.eq (He3 ..) ?_;refine Je ?_
 refine Yn fun b1 h=>?_
 (refine Ja ?_;unhygienic intros)
 refine Yc (Gt2 p) ?_;rintro _ h ⟨rfl,o⟩<;>(refine Jg o ?_;unhygienic intros)
 cases hk:okP p with
 | false =>
  (refine Ja ?_;unhygienic intros)
  refine Ys fun o=>?_
  rw [if_neg (by simp)]
  exact ⟨rfl,o.sub⟩
 | true =>
  (refine Ja ?_;unhygienic intros)
  simp only [Bf9,List.drop_zero,List.take]
  refine Q2 2 rfl fun hl hc _=>?_
  refine Tr.xPCells (cs':=A0 (Af8 p++List.replicate 34 0)) (by omega) ⟨by simp,by simp [A0],by simp [Value.oneCell],rfl⟩ fun h=>?_
  (refine Ja ?_;unhygienic intros)
  refine Tr.pcall (E35 (slC false A4 1 a 40 c (A0 (Af8 p++List.replicate 34 0))) a false 40 c c (Af8 p++List.replicate 34 0) 6 (by simp [Af8]) (by simp [Af8,B0])) ?_
  refine Je ?_
  (refine Ja ?_;unhygienic intros;repeat(refine Gw ?_;rintro px rfl;refine Ja ?_;unhygienic intros))
  rw [show List.take 6 (Af8 p++List.replicate 34 0:List UInt8)=Af8 p from rfl,Dm5]
  refine Tr.xVS (cs':=A0 (Af8 p++Br5 (Af8 p)::List.replicate 33 0)) ⟨by simp [A0,Af8],rfl,rfl⟩ fun h=>?_
  (refine Ja ?_;unhygienic intros)
  refine Tr.xCellsB (xs:=A0 p.data) (Hm4 p.len) ?_
  rw [Gb6 (by omega),Ei5]
  refine Tr.xPAggS (cs':=A0 (I0 p)) ⟨?_,?_,Ae4 _,?_⟩ fun h=>?_
  ·intro e;have:=congrArg List.length e;simp [A0,hd] at this
  ·simp [A0,hd,Af8]
  ·rw [Q9,hd]
   simp [A0,I0,Af8]
  refine Ys fun o=>?_
  simp only [if_true]
  exact ⟨trivial,o.sub⟩
abbrev Ey1 (k:Nat):HP:=pt k (.cells Bm7 false [int 40,.func (.func Bh4) ⟨[]⟩ ⟨[]⟩,.func (.func Bi1) ⟨[]⟩ ⟨[]⟩])
theorem G70 (k:Nat) (f:PipeS):Ct A9 S8 [P0 k,.agg ⟨E3 f⟩] [Ey1 k] fun v own=>(okP f=true∧∃ a,v=.tuple ⟨[.slice a 40 40,.bool true]⟩∧own [Ey1 k,slC false A4 1 a 40 40 (A0 (I0 f))])∨(okP f=false∧v=.tuple ⟨[.slice none 0 0,.bool false]⟩∧own [Ey1 k]):=by
 refine Ct.of Bz7 rfl fun h r=>Tr.eq (Bz0 ..) ?_;refine Je ?_
 (refine Ja ?_;unhygienic intros)
 refine Tr.ck ⟨by omega,by omega,by simp [B0]⟩ ?_
 refine Yn fun b1 h=>?_
 rw [show I1 (Int.toNat 40) [.int .u8 0]=A0 (List.replicate 40 0) from rfl]
 refine Ah6 0 rfl 1 40 rfl (by omega) ?_
 simp only [List.set_cons_zero]
 refine Je ?_
 (refine Jb ?_;unhygienic intros)
 refine Yb (Yf rfl ?_)
 (refine Jb ?_;unhygienic intros)
 refine Yc (H97 (some ⟨b1,0,none⟩) 40 f) ?_;rintro _ h ⟨rfl,o⟩<;>(refine Jg o ?_;unhygienic intros)
 refine Ys fun o=>(?_:Tr _ _ _ _) o;refine Je ?_
 cases hk:okP f with
 | false =>
  (refine Ja ?_;unhygienic intros)
  refine Ys fun o=>?_
  exact .inr ⟨rfl,rfl,o.sub⟩
 | true =>
  (refine Ja ?_;unhygienic intros)
  refine Ys fun o=>?_
  simp only [if_true] at o
  exact .inl ⟨rfl,_,rfl,o.sub⟩
theorem H71:Ct A9 Al4 [int 40,.func (.func Bh4) ⟨[]⟩ ⟨[]⟩,.func (.func Bi1) ⟨[]⟩ ⟨[]⟩] [] fun v own=>∃ k,v=P0 k∧own [Ey1 k]:=by
 refine Ct.of D18 rfl fun h r=>Tr.eq (D17 ..) ?_;refine Je ?_
 rw [show mm2 false (mm2 true 40 0) 64=40 from rfl]
 (refine Ja ?_;unhygienic intros)
 refine Ys fun o=>?_
 exact ⟨_,rfl,o.sub⟩
theorem Gk7:Ct A9 Be5 [] [] fun v own=>∃ k,v=P0 k∧own [Ey1 k]:=by
 refine Ct.of Gz5 rfl fun h r=>Tr.eq (Gv4 ..) ?_;refine Je ?_
 refine Yc (H71) ?_;rintro _ h ⟨k,rfl,o⟩<;>(refine Jf o ?_;unhygienic intros)
 refine Ys fun o=>?_
 exact ⟨_,rfl,o.sub⟩
theorem D89 (f:PipeS):Ct A9 At5 [.agg ⟨E3 f⟩] [] fun v own=>(okP f=true∧∃ a,v=.tuple ⟨[.slice a 40 40,.bool true]⟩∧own [slC false A4 1 a 40 40 (A0 (I0 f))])∨(okP f=false∧v=.tuple ⟨[.slice none 0 0,.bool false]⟩∧own []):=by
 refine Ct.of Go4 rfl fun h r=>Tr.eq (Go2 ..) ?_;refine Je ?_
 refine Yn fun b1 h=>?_
 (refine Ja ?_;unhygienic intros)
 refine Yc (Gk7) ?_;rintro _ h ⟨k,rfl,o⟩<;>(refine Jg o ?_;unhygienic intros)
 (refine Ja ?_;unhygienic intros)
 refine Yc (G70 k f) ?_
 rintro v h (⟨hk,a,rfl,o⟩|⟨hk,rfl,o⟩)
 ·refine (?_:Tr _ _ _ _) o
  refine Je ?_
  (refine Ja ?_;unhygienic intros)
  refine Ys fun o=>?_
  exact .inl ⟨hk,a,rfl,o.sub⟩
 ·refine (?_:Tr _ _ _ _) o
  refine Je ?_
  (refine Ja ?_;unhygienic intros)
  refine Ys fun o=>?_
  exact .inr ⟨hk,rfl,o.sub⟩
def Dr8 (l:List UInt8):List UInt8:=(l++List.replicate 32 0).take 32
theorem Hn3 (l:List UInt8):(Dr8 l).length=32:=by simp [Dr8]
theorem D84 {l:List UInt8} (h:l.length=32):Dr8 l=l:=by simp [Dr8,← h]
def Ba4 (l:List UInt8):PipeS:=⟨byI l 1,byI l 2,byI l 3,byI l 4,Dr8 (l.drop 8),Hn3 _⟩
def isP (l:List UInt8):Bool:=okP (Ba4 l) && decide (I0 (Ba4 l)=l)
theorem Ib8 (a:Option Addr) (c:Nat) (l:List UInt8) (hl:l.length=40):Ct A9 Bi1 [.slice a 40 c] [slC false A4 1 a 40 c (A0 l)] fun v own=>v=.tuple ⟨[.agg ⟨E3 (Ba4 l)⟩,.bool (isP l)]⟩∧own [slC false A4 1 a 40 c (A0 l)]:=by
 have hd:=(Ba4 l).len
 have hp:Dr8 (l.drop 8)=l.drop 8:=D84 (by simp [hl])
 have key:∀ a1:Option Addr,CtP A9 B9 [.slice a1 40 40,.slice a 40 c] [slC false A4 1 a1 40 40 (A0 (I0 (Ba4 l))),slC false A4 1 a 40 c (A0 l)] (.bool (decide (I0 (Ba4 l)=l))):=fun a1=>by
  have e:=Ax3 hd
  have J:=Em3 (slC false A4 1 a1 (I0 (Ba4 l)).length 40 (A0 (I0 (Ba4 l)))) (slC false A4 1 a l.length c (A0 l)) a1 false 40 a false c (I0 (Ba4 l)) l (by rw [e];simp [B0])
  rwa [hl,e] at J
 refine Ct.of Hk2 rfl fun h r=>Tr.eq (Hk4 ..) ?_;refine Je ?_
 refine Yn fun b1 h=>?_
 refine Q2 1 rfl fun hl2 hc2 _=>?_
 (refine Ja ?_;unhygienic intros;repeat(refine Gw ?_;rintro px rfl;refine Ja ?_;unhygienic intros))
 refine Tr.xIntS (v:=byI l 1) (Ab8 (by omega)) ?_
 (refine Ja ?_;unhygienic intros)
 refine Tr.xIntS (v:=byI l 2) (Ab8 (by omega)) ?_
 (refine Ja ?_;unhygienic intros)
 refine Tr.xIntS (v:=byI l 3) (Ab8 (by omega)) ?_
 (refine Ja ?_;unhygienic intros)
 refine Tr.xIntS (v:=byI l 4) (Ab8 (by omega)) ?_
 simp only [byI,Al1]
 refine Yn fun b2 h=>?_
 (refine Jb ?_;unhygienic intros)
 rw [Gb6 (show 8<c by omega),Gx8]
 refine Tr.xAggS (xs:=A0 (l.drop 8)) ⟨by omega,by simp [Q9,hl],?_⟩ ?_
 ·rw [B30,List.take_of_length_le (by simp [Q9,hl])]
 rw [show pCells (some (⟨b2,4,none⟩:Addr))=pAgg ⟨b2,4,none⟩ from rfl]
 refine Tr.xPAgg (cs':=E3 (Ba4 l)) ⟨by simp [Q9,hl],Ae4 _,by simp [E3,Ba4,byI,Q9,hl,hp]⟩ fun h=>?_
 (refine Ja ?_;unhygienic intros)
 refine Yc (D89 (Ba4 l)) ?_
 rintro v h (⟨hk,a1,rfl,o⟩|⟨hk,rfl,o⟩)
 ·refine (?_:Tr _ _ _ _) o
  refine Je ?_
  (refine Jb ?_;unhygienic intros)
  refine Yb (Yt rfl ?_)
  refine Tr.pcall (key a1) ?_;refine Je ?_;(refine Jb ?_;unhygienic intros)
  refine Ys fun o=>(?_:Tr _ _ _ _) o;refine Je ?_
  (refine Ja ?_;unhygienic intros)
  refine Ys fun o=>?_
  exact ⟨by unfold isP;rw [hk,Bool.true_and],o.sub⟩
 ·refine (?_:Tr _ _ _ _) o
  refine Je ?_
  (refine Ja ?_;unhygienic intros)
  refine Ys fun o=>?_
  exact ⟨by unfold isP;rw [hk];rfl,o.sub⟩
theorem G82 (k:Nat) (a:Option Addr) (c:Nat) (l:List UInt8) (hl:l.length=40):Ct A9 S9 [P0 k,.slice a 40 c] [Ey1 k,slC false A4 1 a 40 c (A0 l)] fun v own=>v=.tuple ⟨[.agg ⟨E3 (if isP l then Ba4 l else .zero)⟩,.bool (isP l)]⟩∧own [Ey1 k,slC false A4 1 a 40 c (A0 l)]:=by
 have hd:=(Ba4 l).len
 have hp:Dr8 (l.drop 8)=l.drop 8:=D84 (by simp [hl])
 refine Ct.of Bz6 rfl fun h r=>Tr.eq (Bz8 ..) ?_;refine Je ?_
 (refine Ja ?_;unhygienic intros)
 refine Yf rfl ?_
 (refine Jb ?_;unhygienic intros)
 refine Yc (El7 40 a c l hl (by simp [B0])) ?_;rintro _ h ⟨a1,c1,rfl,o⟩<;>(refine Jg o ?_;unhygienic intros)
 refine Yc (Ib8 a1 c1 l hl) ?_;rintro _ h ⟨rfl,o⟩<;>(refine Jg o ?_;unhygienic intros)
 cases hk:isP l with
 | false =>
  (refine Ja ?_;unhygienic intros)
  refine Ys fun o=>?_
  exact ⟨rfl,o.sub⟩
 | true =>
  (refine Ja ?_;unhygienic intros)
  refine Ys fun o=>?_
  exact ⟨rfl,o.sub⟩
def P3 (l:List UInt8):PipeS × Int:=if l.all (·==0) then (.zero,0) else if isP l then (Ba4 l,1) else (.zero,2)
theorem Hh8 (a:Option Addr) (c:Nat) (l:List UInt8) (hl:l.length=40):Ct A9 At1 [.slice a 40 c] [slC false A4 1 a 40 c (A0 l)] fun v own=>v=.tuple ⟨[.agg ⟨E3 (P3 l).1⟩,int (P3 l).2]⟩∧own [slC false A4 1 a 40 c (A0 l)]:=by
 have hd:=(Ba4 l).len
 have hp:Dr8 (l.drop 8)=l.drop 8:=D84 (by simp [hl])
 refine Ct.of Gm7 rfl fun h r=>Tr.eq (Go3 ..) ?_;refine Je ?_
 refine Yn fun b1 h=>?_
 refine Yb (Yt rfl ?_)
 refine Tr.pcall (Ef6 40 a c l hl (by simp [B0])) ?_;refine Je ?_;(refine Jb ?_;unhygienic intros)
 refine Ys fun o=>(?_:Tr _ _ _ _) o;refine Je ?_
 cases hb:l.all (·==0) with
 | true =>
  (refine Ja ?_;unhygienic intros)
  refine Ys fun o=>?_
  exact ⟨by unfold P3;rw [hb];rfl,o.sub⟩
 | false =>
  (refine Jb ?_;unhygienic intros)
  refine Yc (Gk7) ?_;rintro _ h ⟨k,rfl,o⟩<;>(refine Jg o ?_;unhygienic intros)
  refine Yc (G82 k a c l hl) ?_;rintro _ h ⟨rfl,o⟩<;>(refine Jg o ?_;unhygienic intros)
  cases hk:isP l with
  | false =>
   (refine Ja ?_;unhygienic intros)
   refine Ys fun o=>?_
   exact ⟨by unfold P3;rw [hb,hk];rfl,o.sub⟩
  | true =>
   (refine Ja ?_;unhygienic intros)
   refine Ys fun o=>?_
   exact ⟨by unfold P3;rw [hb,hk];rfl,o.sub⟩
structure ProcS where
 state:Int
 parent:Int
 group:Int
 code:Int
 pending:Int
 mask:Int
 ignored:Int
 caught:Int
 fds:List Int
 len:fds.length=8
abbrev Gp8:List Int:=[0,0,0,0,0,0,0,0]
abbrev ProcS.zero:ProcS:=⟨0,0,0,0,0,0,0,0,Gp8,rfl⟩
abbrev D8 (p:ProcS):List Value:=int p.state::int p.parent::int p.group::int p.code::int p.pending::int p.mask::int p.ignored::int p.caught::p.fds.map int
theorem Br8 (p:ProcS):(D8 p).length=16:=by simp [D8,p.len]
theorem Hv3 (p:ProcS):(D8 p).all Value.oneCell=true:=by simp [D8,Value.oneCell]
instance {p:ProcS}:LenC (D8 p) 16:=⟨Br8 p⟩
instance {p:ProcS}:PartC (D8 p) 0 16 (D8 p):=⟨B60 (Br8 p)⟩
instance {p:ProcS}:PartC (D8 p) 8 8 (p.fds.map int):=⟨by
 have h:Nat.ble (8+8) (D8 p).length=true:=by rw [Br8];rfl
 have e:((D8 p).drop 8).take 8=p.fds.map int:=by rw [show (D8 p).drop 8=p.fds.map int from rfl,List.take_of_length_le (by simp [p.len])]
 rw [Dc4,h,e];rfl⟩
instance {p:ProcS} {cs:List Value} [k:LenC cs 16]:SetsC cs 0 (D8 p) (D8 p):=⟨Bf5 k.ok (Br8 p) (Hv3 p)⟩
instance {p:ProcS}:SameC (.agg ⟨D8 p⟩):=⟨Dq9 (by simp [D8])⟩
def Eo9 (n w:Int):Bool:=Em8 .i64 n 65534==0 && D0 .i64 n w==0
def okS (p:ProcS):Bool :=
 !(decide (p.state<1) || decide (p.state>3) || decide (p.parent<0) || decide (p.parent>8) || decide (p.group<0) || decide (p.group≥8) || decide (p.code<0) || decide (p.code>255)) &&
 (!(!Eo9 p.pending 0 || !Eo9 p.mask 16896 || !Eo9 p.ignored 16896 || !Eo9 p.caught 16896 || D0 .i64 p.ignored p.caught != 0) &&
 (!(p.fds.any fun f=>decide (f<0) || decide (f>12)) &&
 (if p.state=2 then p.pending==0 && decide (p.fds=Gp8) else p.code==0)))
def hi2 (n:Int):UInt8:=if 0≤n∧n≤65535 then b8 (n / 256) else 0
def lo2 (n:Int):UInt8:=if 0≤n∧n≤65535 then b8 n else 0
abbrev put2 (n:Int):List UInt8:=[hi2 n,lo2 n]
def D52 (p:ProcS):List UInt8:=[b8 p.state,b8 p.parent,b8 p.group,b8 p.code]++(put2 p.pending++(put2 p.mask++(put2 p.ignored++(put2 p.caught++(p.fds.map b8++[167])))))
theorem H19 (n:Int):(put2 n).length=2:=rfl
theorem Hn2 (p:ProcS):(D52 p).length=21:=by simp [D52,H19,p.len]
def As6 (p:ProcS):List UInt8:=D52 p++[Br5 (D52 p),0,0]
theorem D43 (p:ProcS):(As6 p).length=24:=by simp [As6,Hn2]
theorem Ia9 (n w:Int):CtP A9 Aj1 [int n,int w] [] (.bool (Eo9 n w)):=by
 refine CtP.of G10 rfl fun h r=>Tr.eq (Gt9 ..) ?_;refine Je ?_
 exact Jz
instance {n w:Int} {l:List HP}:PCi A9 Aj1 [.int .i64 n,.int .i64 w] l (.bool (Eo9 n w)):=PCi.of (Ia9 n w)
theorem Ia2 (f:Int):CtP A9 Bd9 [int f] [] (.bool (decide (f<0) || decide (f>12))):=by
 refine CtP.of G23 rfl fun h r=>Tr.eq (G27 ..) ?_;refine Je ?_
 exact Jz
theorem Ey4 (p:HP) (a:Option Addr) (ro:Bool) (c:Nat) (l:List Int) (g:FuncId) (f:Int→Bool) {e:TypeId} [ks:IsSl p a ro e 1 l.length c (l.map int)] (hl:l.length≤B0) (hf:∀ x,CtP A9 g [int x] [] (.bool (f x))):∀ (m i:Nat),l.length-i=m→i≤l.length →
  S5 I4 D3 L5 [(0,.slice a l.length c),(1,.func (.func g) ⟨[]⟩ ⟨[]⟩),(7,int l.length),(8,int i)] [p] (int (Bo0 f i (l.drop i))):=by
 intro m
 induction m with
 | zero =>
  intro i hm hi
  refine S5.of J6 fun h r=>Tr.eq (P5 ..) ?_;refine Je ?_
  refine Yf (by simp;omega) ?_
  refine Ys fun o=>?_
  rw [List.drop_eq_nil_of_le (by omega)];exact ⟨rfl,rfl⟩
 | succ m ih =>
  intro i hm hi
  have hlt:i<l.length:=by omega
  have hp:l[i]?=some l[i]:=List.getElem?_eq_getElem hlt
  have hd:l.drop i=l[i]::l.drop (i+1):=List.drop_eq_getElem_cons hlt
  generalize l[i]=x at hp hd
  have e1:IntKind.wrap .i64 ((i:Int)+1)=((i+1:Nat):Int):=by rw [A8];simp only [B0] at hl;omega
  refine S5.of J6 fun h r=>Tr.eq (P5 ..) ?_;refine Je ?_
  refine Yt (by simp;omega) ?_
  (refine Ja ?_;unhygienic intros;repeat(refine Gw ?_;rintro px rfl;refine Ja ?_;unhygienic intros))
  refine Tr.xIntS (v:=x) (by simp [hp]) ?_
  (refine Ja ?_;unhygienic intros)
  refine Tr.pcall (hf x) ?_
  cases hx:f x with
  | true =>
   (refine Ja ?_;unhygienic intros)
   refine Ys fun o=>?_
   rw [hd,Bo0,if_pos hx];exact ⟨by first|rfl|trivial,by first|rfl|trivial⟩
  | false =>
   (refine Ja ?_;unhygienic intros)
   rw [e1]
   refine W8 (ih (i+1) (by omega) (by omega)) (r:=r) (by simp) fun o=>?_
   rw [hd,Bo0,if_neg (by simp [hx])];exact ⟨by first|rfl|trivial,by first|rfl|trivial⟩
theorem Ey5 (p:HP) (a:Option Addr) (ro:Bool) (c:Nat) (l:List Int) (g:FuncId) (f:Int→Bool) {e:TypeId} [ks:IsSl p a ro e 1 l.length c (l.map int)] (hl:l.length≤B0) (hf:∀ x,CtP A9 g [int x] [] (.bool (f x))) :
  CtP A9 E4 [.slice a l.length c,.func (.func g) ⟨[]⟩ ⟨[]⟩] [p] (.bool (l.any f)):=by
 have j:CtP A9 D3 [.slice a l.length c,.func (.func g) ⟨[]⟩ ⟨[]⟩] [p] (int (Bo0 f 0 l)):=by
  refine CtP.of J6 rfl fun h r=>Tr.eq (A10 ..) ?_;refine Je ?_
  exact W8 (Ey4 p a ro c l g f hl hf _ 0 rfl (by omega)) (r:=r) (by simp) fun o=>⟨rfl,rfl⟩
 refine CtP.of As3 rfl fun h r=>Tr.eq (As4 ..) ?_;refine Je ?_
 refine Bs4 j (r:=r) (by simp) ?_
 (refine Ja ?_;unhygienic intros)
 refine Ys fun o=>?_
 rw [El8];exact ⟨by first|rfl|trivial,by first|rfl|trivial⟩
theorem G09:∀ (l m:List Int),l.length=m.length→eqs (l.map int) (m.map int)=some (decide (l=m))
 | [],[],_=>rfl
 | [],_::_,h=>by simp at h
 | _::_,[],h=>by simp at h
 | a::l,b::m,h=>by
  have ih:=G09 l m (by simpa using h)
  simp only [List.map_cons,eqs,eq1,decide_true,ih]
  by_cases h1:a=b<;>by_cases h2:l=m<;>simp [h1,h2]
theorem Ew6:∀ (l:List Int),G4 (List.replicate l.length (TypeDesc.int .i64)) (l.map int)=true
 | []=>rfl
 | a::l=>by
  have:=Ew6 l
  simp only [List.length_cons,List.replicate_succ,List.map_cons,G4,decide_true,this,Bool.and_self]
theorem eq8 {α:Type} (l m:List Int) (hl:l.length=8) (hm:m.length=8) (k:Bool→Option α):B44 PR Gc0 (l.map int) (m.map int) k=k (decide (l=m)):=by
 have e:Ah7 PR 8 Gc0=some (List.replicate 8 (TypeDesc.int .i64)):=by kernel_rfl
 have f1:=Ew6 l;have f2:=Ew6 m
 rw [hl] at f1;rw [hm] at f2
 rw [B44,e]
 simp only [f1,f2,G09 l m (by omega),Bool.and_self,ckB,cond_true,eqK]
theorem Ic9 (p:ProcS):Ct A9 Df2 [.agg ⟨D8 p⟩] [] fun v own=>v=.bool (okS p)∧own []:=by
 have h8:=p.len
 refine Ct.of Hj4 rfl fun h r=>Tr.eq (Hm2 ..) ?_;refine Je ?_
 (refine Ja ?_;unhygienic intros)
 refine Tr.cond (fun h1=>?_) fun h1=>?_
 ·refine Ys fun o=>?_
  refine ⟨?_,o.sub⟩
  unfold okS;rw [h1];rfl
 (refine Ja ?_;unhygienic intros)
 refine Tr.cond (fun h2=>?_) fun h2=>?_
 ·refine Ys fun o=>?_
  refine ⟨?_,o.sub⟩
  unfold okS;rw [h1,h2];rfl
 (refine Ja ?_;unhygienic intros)
 refine Gc5 0 rfl [int p.state,int p.parent,int p.group,int p.code,int p.pending,int p.mask,int p.ignored,int p.caught] (p.fds.map int) [] (by simp [D8]) 1 8 8 8 ⟨by simp [h8],by omega,by simp,by simp [D8],by omega,by omega⟩ ?_
 refine Je ?_
 have J:=Ey5 (e:=D6) (slX false D6 1 (some ⟨b,8,none⟩) p.fds.length 8 ([int p.state,int p.parent,int p.group,int p.code,int p.pending,int p.mask,int p.ignored,int p.caught],[]) (p.fds.map int)) (some ⟨b,8,none⟩) false 8 p.fds Bd9 (fun f=>decide (f<0) || decide (f>12)) (by rw [h8];simp [B0]) Ia2
 rw [h8] at J
 refine Tr.pcall (J) ?_;refine Je ?_;(refine Ja ?_;unhygienic intros)
 refine Eg1 0 rfl (D8 p) (by simp [D8]) ?_
 refine Je ?_
 cases h3:p.fds.any fun f=>decide (f<0) || decide (f>12) with
 | true =>
  (refine Ja ?_;unhygienic intros)
  refine Ys fun o=>?_
  refine ⟨?_,o.sub⟩
  unfold okS;rw [h1,h2,h3];rfl
 | false =>
  (refine Ja ?_;unhygienic intros)
  have e:okS p=if p.state=2 then p.pending==0 && decide (p.fds=Gp8) else p.code==0:=by unfold okS;rw [h1,h2,h3];rfl
  rw [e]
  by_cases h4:p.state=2
  ·refine Yt (by simpa using h4) ?_
   rw [if_pos h4]
   (repeat' first|refine Gu ?_|(with_reducible first|refine Gn fun b h=>?_|apply Gx|apply Gy|rintro px rfl|apply Gw|refine fun(h:H)=>?_|intro hb)|refine Gs ?_|refine Gt ?_|exact Gz rfl|fail)
   rw [show ([int 0,int 0,int 0,int 0,int 0,int 0,int 0,int 0]:List Value)=Gp8.map int from rfl,eq8 _ _ h8 rfl]
   (repeat' first|refine Gu ?_|(with_reducible first|refine Gn fun b h=>?_|apply Gx|apply Gy|rintro px rfl|apply Gw|refine fun(h:H)=>?_|intro hb)|refine Gs ?_|refine Gt ?_|exact Gz rfl|fail)
   refine Ys fun o=>?_
   exact ⟨rfl,o.sub⟩
  ·refine Yf (by simpa using h4) ?_
   rw [if_neg h4]
   (refine Ja ?_;unhygienic intros)
   refine Ys fun o=>?_
   exact ⟨rfl,o.sub⟩
theorem H89 (a:Option Addr) (c:Nat) (cs:List Value) (j:Nat) (n:Int) (hj:j+2≤cs.length) (hm:cs.length≤B0):Ct A9 Be7 [.slice a cs.length c,int j,int n] [slC false A4 1 a cs.length c cs] fun v own =>
  (∃ ok,v=.bool ok)∧own [slC false A4 1 a cs.length c (if 0≤n∧n≤65535 then (cs.set j (.int .u8 ((b8 (n / 256)).toNat:Int))).set (j+1) (.int .u8 ((b8 n).toNat:Int)) else cs)]:=by
 simp only [B0] at hm
 have e1:IntKind.wrap .i64 ((cs.length:Int)-2)=(cs.length:Int)-2:=by rw [A8];omega
 have e2:IntKind.wrap .i64 ((j:Int)+1)=((j+1:Nat):Int):=by rw [A8];omega
 refine Ct.of Gw8 rfl fun h r=>Tr.eq (Gt7 ..) ?_;refine Je ?_
 rw [e1,e2]
 (refine Ja ?_;unhygienic intros)
 by_cases h:0≤n∧n≤65535
 ·refine Yf (by simp;omega) ?_
  rw [if_pos h]
  (refine Ja ?_;unhygienic intros;repeat(refine Gw ?_;rintro px rfl;refine Ja ?_;unhygienic intros))
  rw [Int.toNat_natCast,show Int.fdiv n (2 ^ 8)=n / 256 by rw [Int.fdiv_eq_ediv_of_nonneg _ (by omega)];rfl,Bf9,Bf9]
  refine Je ?_
  refine Tr.xVS (cs':=cs.set j (.int .u8 ((b8 (n / 256)).toNat:Int))) ⟨by omega,rfl,rfl⟩ fun h=>?_
  (refine Ja ?_;unhygienic intros)
  rw [Int.toNat_natCast]
  refine Je ?_
  refine Tr.xVS (cs':=(cs.set j (.int .u8 ((b8 (n / 256)).toNat:Int))).set (j+1) (.int .u8 ((b8 n).toNat:Int))) ⟨by simp;omega,rfl,rfl⟩ fun h=>?_
  refine Ys fun o=>?_
  exact ⟨⟨_,rfl⟩,o.sub⟩
 ·refine Yt (by simp;omega) ?_
  rw [if_neg h]
  refine Ys fun o=>?_
  exact ⟨⟨_,rfl⟩,o.sub⟩
theorem Dz6 (l:List UInt8) (j:Nat) (x:UInt8):(A0 l).set j (.int .u8 (x.toNat:Int))=A0 (l.set j x):=by simp [A0,List.map_set]
theorem D88 (a:Option Addr) (c m:Nat) (l:List UInt8) (j:Nat) (n:Int) (hm:l.length=m) (hj:j+2≤m) (h1:l[j]?=some 0) (h2:l[j+1]?=some 0) (hl:m≤B0):Ct A9 Be7 [.slice a m c,int j,int n] [slC false A4 1 a m c (A0 l)] fun v own =>
  (∃ ok,v=.bool ok)∧own [slC false A4 1 a m c (A0 ((l.set j (hi2 n)).set (j+1) (lo2 n)))]:=by
 subst hm
 have J:=H89 a c (A0 l) j n (by rw [Q9];omega) (by rw [Q9];omega)
 rw [Q9] at J
 have e:(if 0≤n∧n≤65535 then ((A0 l).set j (.int .u8 ((b8 (n / 256)).toNat:Int))).set (j+1) (.int .u8 ((b8 n).toNat:Int)) else A0 l)=A0 ((l.set j (hi2 n)).set (j+1) (lo2 n)):=by
  unfold hi2 lo2
  split
  ·rw [Dz6,Dz6]
  ·rw [Eh5 h1,Eh5 h2]
 rw [e] at J
 exact J
def two (l:List UInt8) (j:Nat):Int:=byI l j*256+byI l (j+1)
theorem Ig5 (x y:UInt8):Hh6 .i64 (IntKind.wrap .i64 (IntKind.wrap .i64 (x.toNat:Int)*2 ^ 8)) (IntKind.wrap .i64 (y.toNat:Int))=(x.toNat:Int)*256+y.toNat:=by
 have hx:=x.toNat_lt;have hy:=y.toNat_lt
 have e1:IntKind.wrap .i64 (IntKind.wrap .i64 (x.toNat:Int)*2 ^ 8)=((x.toNat*256:Nat):Int):=by rw [Al1,A8];omega
 rw [e1,Al1]
 unfold Hh6
 have e0:IntKind.bits .i64=64:=rfl
 rw [e0,BitVec.ofInt_natCast,BitVec.ofInt_natCast,BitVec.toNat_or,BitVec.toNat_ofNat,BitVec.toNat_ofNat,Nat.mod_eq_of_lt (by omega),Nat.mod_eq_of_lt (by omega)]
 have e2:x.toNat*256 ||| y.toNat=x.toNat*256+y.toNat:=by
  have:=Nat.two_pow_add_eq_or_of_lt (i:=8) (b:=y.toNat) (by omega) x.toNat
  rw [show 2 ^ 8*x.toNat=x.toNat*256 by omega] at this
  exact this.symm
 rw [e2,A8];omega
theorem Eo6 (a:Option Addr) (c n:Nat) (l:List UInt8) (j:Nat) (hn:l.length=n) (hj:j+2≤n) (hm:n≤B0):CtP A9 Bu6 [.slice a n c,int j] [slC false A4 1 a n c (A0 l)] (.tuple ⟨[int (two l j),.bool true]⟩):=by
 simp only [B0] at hm
 have e1:IntKind.wrap .i64 ((n:Int)-2)=(n:Int)-2:=by rw [A8];omega
 have e2:IntKind.wrap .i64 ((j:Int)+1)=((j+1:Nat):Int):=by rw [A8];omega
 refine CtP.of G31 rfl fun h r=>Tr.eq (Gy8 ..) ?_;refine Je ?_
 rw [e1,e2]
 (refine Ja ?_;unhygienic intros)
 refine Yf (by simp;omega) ?_
 (refine Ja ?_;unhygienic intros;repeat(refine Gw ?_;rintro px rfl;refine Ja ?_;unhygienic intros))
 rw [Int.toNat_natCast]
 refine Je ?_
 refine Tr.xIntS (v:=byI l j) (Ab8 (by omega)) ?_
 (refine Ja ?_;unhygienic intros)
 rw [Int.toNat_natCast]
 refine Je ?_
 refine Tr.xIntS (v:=byI l (j+1)) (Ab8 (by omega)) ?_
 refine Ys fun o=>?_
 rw [Ig5];exact ⟨rfl,rfl⟩
theorem H80 (a:Option Addr) (c:Nat) (p:ProcS):Ct A9 M9 [.agg ⟨D8 p⟩,.slice a 24 c] [slC false A4 1 a 24 c (A0 (List.replicate 24 0))] fun v own=>v=.bool (okS p)∧own [slC false A4 1 a 24 c (A0 (if okS p then As6 p else List.replicate 24 0))]:=by
 refine Ct.of H2 rfl fun h r=>Tr.eq (G86 ..) ?_;refine Je ?_
 refine Yn fun b1 h=>?_
 (refine Ja ?_;unhygienic intros)
 refine Yc (Ic9 p) ?_;rintro _ h ⟨rfl,o⟩<;>(refine Jf o ?_;unhygienic intros)
 cases hk:okS p with
 | false =>
  (refine Ja ?_;unhygienic intros)
  refine Ys fun o=>?_
  rw [if_neg (by simp)]
  exact ⟨rfl,o.sub⟩
 | true =>
  simp only [if_true]
  obtain ⟨st,pa,gr,co,pe,ma,ig,ca,fds,len⟩:=p
  match fds,len with
  | [f0,f1,f2,f3,f4,f5,f6,f7],len =>
  (refine Ja ?_;unhygienic intros)
  rename_i b2 h2
  refine Q2 2 rfl fun hl hc _=>?_
  simp only [List.map]
  refine Tr.jmp H2 (Tr.eq (A07 ..) ?_);(try simp only[Nr,Nl,wl,Nat.reduceAdd,Nat.reduceMul,Int.reduceToNat])
  (refine Jd ?_;unhygienic intros;repeat(refine Gw ?_;rintro px rfl;refine Jd ?_;unhygienic intros))
  refine Tr.jmp H2 (Tr.eq (A07 ..) ?_);(try simp only[Nr,Nl,wl,Nat.reduceAdd,Nat.reduceMul,Int.reduceToNat])
  (refine Jd ?_;unhygienic intros)
  refine Tr.jmp H2 (Tr.eq (A07 ..) ?_);(try simp only[Nr,Nl,wl,Nat.reduceAdd,Nat.reduceMul,Int.reduceToNat])
  (refine Jd ?_;unhygienic intros)
  refine Tr.jmp H2 (Tr.eq (A07 ..) ?_);(try simp only[Nr,Nl,wl,Nat.reduceAdd,Nat.reduceMul,Int.reduceToNat])
  (refine Jd ?_;unhygienic intros)
  refine Tr.jmp H2 (Tr.eq (A07 ..) ?_);(try simp only[Nr,Nl,wl,Nat.reduceAdd,Nat.reduceMul,Int.reduceToNat])
  (refine Jd ?_;unhygienic intros)
  simp only [Bf9,Dz6,List.replicate,List.set_cons_zero,List.set_cons_succ,Nat.mul_one]
  refine Tr.jmp H2 (Tr.eq (A29 ..) ?_);(try simp only[Nr,Nl,wl,Nat.reduceAdd,Nat.reduceMul,Int.reduceToNat])
  (refine Jd ?_;unhygienic intros)
  refine Yc (D88 (some px) c 24 [b8 st,b8 pa,b8 gr,b8 co,0,0,0,0,0,0,0,0,0,0,0,0,0,0,0,0,0,0,0,0] 4 pe rfl (by omega) rfl rfl (by simp [B0])) ?_;rintro _ h ⟨⟨_,rfl⟩,o⟩<;>(refine Jf o ?_;unhygienic intros)
  refine Tr.jmp H2 (Tr.eq (A29 ..) ?_);(try simp only[Nr,Nl,wl,Nat.reduceAdd,Nat.reduceMul,Int.reduceToNat])
  (refine Jd ?_;unhygienic intros)
  refine Yc (D88 (some px) c 24 [b8 st,b8 pa,b8 gr,b8 co,hi2 pe,lo2 pe,0,0,0,0,0,0,0,0,0,0,0,0,0,0,0,0,0,0] 6 ma rfl (by omega) rfl rfl (by simp [B0])) ?_;rintro _ h ⟨⟨_,rfl⟩,o⟩<;>(refine Jf o ?_;unhygienic intros)
  refine Tr.jmp H2 (Tr.eq (A29 ..) ?_);(try simp only[Nr,Nl,wl,Nat.reduceAdd,Nat.reduceMul,Int.reduceToNat])
  (refine Jd ?_;unhygienic intros)
  refine Yc (D88 (some px) c 24 [b8 st,b8 pa,b8 gr,b8 co,hi2 pe,lo2 pe,hi2 ma,lo2 ma,0,0,0,0,0,0,0,0,0,0,0,0,0,0,0,0] 8 ig rfl (by omega) rfl rfl (by simp [B0])) ?_;rintro _ h ⟨⟨_,rfl⟩,o⟩<;>(refine Jf o ?_;unhygienic intros)
  refine Tr.jmp H2 (Tr.eq (A29 ..) ?_);(try simp only[Nr,Nl,wl,Nat.reduceAdd,Nat.reduceMul,Int.reduceToNat])
  (refine Jd ?_;unhygienic intros)
  refine Yc (D88 (some px) c 24 [b8 st,b8 pa,b8 gr,b8 co,hi2 pe,lo2 pe,hi2 ma,lo2 ma,hi2 ig,lo2 ig,0,0,0,0,0,0,0,0,0,0,0,0,0,0] 10 ca rfl (by omega) rfl rfl (by simp [B0])) ?_;rintro _ h ⟨⟨_,rfl⟩,o⟩<;>(refine Jf o ?_;unhygienic intros)
  refine Tr.jmp H2 (Tr.eq (A29 ..) ?_);(try simp only[Nr,Nl,wl,Nat.reduceAdd,Nat.reduceMul,Int.reduceToNat])
  (refine Jd ?_;unhygienic intros)
  refine Tr.jmp H2 (Tr.eq (W1 ..) ?_);(try simp only[Nr,Nl,wl,Nat.reduceAdd,Nat.reduceMul,Int.reduceToNat])
  (refine Jd ?_;unhygienic intros)
  refine Tr.jmp H2 (Tr.eq (W1 ..) ?_);(try simp only[Nr,Nl,wl,Nat.reduceAdd,Nat.reduceMul,Int.reduceToNat])
  (refine Jd ?_;unhygienic intros)
  refine Tr.jmp H2 (Tr.eq (W1 ..) ?_);(try simp only[Nr,Nl,wl,Nat.reduceAdd,Nat.reduceMul,Int.reduceToNat])
  (refine Jd ?_;unhygienic intros)
  refine Tr.jmp H2 (Tr.eq (W1 ..) ?_);(try simp only[Nr,Nl,wl,Nat.reduceAdd,Nat.reduceMul,Int.reduceToNat])
  (refine Jd ?_;unhygienic intros)
  refine Tr.jmp H2 (Tr.eq (W1 ..) ?_);(try simp only[Nr,Nl,wl,Nat.reduceAdd,Nat.reduceMul,Int.reduceToNat])
  (refine Jd ?_;unhygienic intros)
  refine Tr.jmp H2 (Tr.eq (W1 ..) ?_);(try simp only[Nr,Nl,wl,Nat.reduceAdd,Nat.reduceMul,Int.reduceToNat])
  (refine Jd ?_;unhygienic intros)
  refine Tr.jmp H2 (Tr.eq (W1 ..) ?_);(try simp only[Nr,Nl,wl,Nat.reduceAdd,Nat.reduceMul,Int.reduceToNat])
  (refine Jd ?_;unhygienic intros)
  refine Tr.jmp H2 (Tr.eq (W1 ..) ?_);(try simp only[Nr,Nl,wl,Nat.reduceAdd,Nat.reduceMul,Int.reduceToNat])
  (refine Jd ?_;unhygienic intros)
  refine Tr.jmp H2 (Tr.eq (W1 ..) ?_);(try simp only[Nr,Nl,wl,Nat.reduceAdd,Nat.reduceMul,Int.reduceToNat])
  (refine Jd ?_;unhygienic intros)
  simp only [Bf9,Dz6,List.set_cons_zero,List.set_cons_succ,Nat.mul_one]
  rw [show (.int .u8 167:Value)=.int .u8 ((167:UInt8).toNat:Int) from rfl,Dz6]
  simp only [List.set_cons_zero,List.set_cons_succ]
  refine Tr.pcall (E35 (slC false A4 1 (some px) 24 c (A0 [b8 st,b8 pa,b8 gr,b8 co,hi2 pe,lo2 pe,hi2 ma,lo2 ma,hi2 ig,lo2 ig,hi2 ca,lo2 ca,b8 f0,b8 f1,b8 f2,b8 f3,b8 f4,b8 f5,b8 f6,b8 f7,167,0,0,0])) (some px) false 24 c c [b8 st,b8 pa,b8 gr,b8 co,hi2 pe,lo2 pe,hi2 ma,lo2 ma,hi2 ig,lo2 ig,hi2 ca,lo2 ca,b8 f0,b8 f1,b8 f2,b8 f3,b8 f4,b8 f5,b8 f6,b8 f7,167,0,0,0] 21 (by simp) (by simp [B0])) ?_
  refine Je ?_
  (refine Ja ?_;unhygienic intros)
  rw [Dm5]
  (refine Jd ?_;unhygienic intros)
  refine Ys fun o=>?_
  rw [Dz6] at o
  simp only [List.set_cons_zero,List.set_cons_succ] at o
  simp only [As6,D52,put2,List.map,List.cons_append,List.nil_append]
  exact ⟨trivial,o.sub⟩
abbrev Ew9 (k:Nat):HP:=pt k (.cells Bl3 false [int 24,.func (.func M9) ⟨[]⟩ ⟨[]⟩,.func (.func V6) ⟨[]⟩ ⟨[]⟩])
theorem G37 (k:Nat) (f:ProcS):Ct A9 S6 [P0 k,.agg ⟨D8 f⟩] [Ew9 k] fun v own=>(okS f=true∧∃ a,v=.tuple ⟨[.slice a 24 24,.bool true]⟩∧own [Ew9 k,slC false A4 1 a 24 24 (A0 (As6 f))])∨(okS f=false∧v=.tuple ⟨[.slice none 0 0,.bool false]⟩∧own [Ew9 k]):=by
 refine Ct.of Bz9 rfl fun h r=>Tr.eq (Bz5 ..) ?_;refine Je ?_
 (refine Ja ?_;unhygienic intros)
 refine Tr.ck ⟨by omega,by omega,by simp [B0]⟩ ?_
 refine Yn fun b1 h=>?_
 rw [show I1 (Int.toNat 24) [.int .u8 0]=A0 (List.replicate 24 0) from rfl]
 refine Ah6 0 rfl 1 24 rfl (by omega) ?_
 simp only [List.set_cons_zero]
 refine Je ?_
 (refine Jb ?_;unhygienic intros)
 refine Yb (Yf rfl ?_)
 (refine Jb ?_;unhygienic intros)
 refine Yc (H80 (some ⟨b1,0,none⟩) 24 f) ?_;rintro _ h ⟨rfl,o⟩<;>(refine Jg o ?_;unhygienic intros)
 refine Ys fun o=>(?_:Tr _ _ _ _) o;refine Je ?_
 cases hk:okS f with
 | false =>
  (refine Ja ?_;unhygienic intros)
  refine Ys fun o=>?_
  exact .inr ⟨rfl,rfl,o.sub⟩
 | true =>
  (refine Ja ?_;unhygienic intros)
  refine Ys fun o=>?_
  simp only [if_true] at o
  exact .inl ⟨rfl,_,rfl,o.sub⟩
theorem H83:Ct A9 An3 [int 24,.func (.func M9) ⟨[]⟩ ⟨[]⟩,.func (.func V6) ⟨[]⟩ ⟨[]⟩] [] fun v own=>∃ k,v=P0 k∧own [Ew9 k]:=by
 refine Ct.of D77 rfl fun h r=>Tr.eq (D15 ..) ?_;refine Je ?_
 rw [show mm2 false (mm2 true 24 0) 64=24 from rfl]
 (refine Ja ?_;unhygienic intros)
 refine Ys fun o=>?_
 exact ⟨_,rfl,o.sub⟩
theorem Gj9:Ct A9 A83 [] [] fun v own=>∃ k,v=P0 k∧own [Ew9 k]:=by
 refine Ct.of Go0 rfl fun h r=>Tr.eq (Gn1 ..) ?_;refine Je ?_
 refine Yc (H83) ?_;rintro _ h ⟨k,rfl,o⟩<;>(refine Jf o ?_;unhygienic intros)
 refine Ys fun o=>?_
 exact ⟨_,rfl,o.sub⟩
theorem E47 (f:ProcS):Ct A9 A18 [.agg ⟨D8 f⟩] [] fun v own=>(okS f=true∧∃ a,v=.tuple ⟨[.slice a 24 24,.bool true]⟩∧own [slC false A4 1 a 24 24 (A0 (As6 f))])∨(okS f=false∧v=.tuple ⟨[.slice none 0 0,.bool false]⟩∧own []):=by
 refine Ct.of Gd5 rfl fun h r=>Tr.eq (Gd6 ..) ?_;refine Je ?_
 (refine Ja ?_;unhygienic intros)
 refine Yc (Gj9) ?_;rintro _ h ⟨k,rfl,o⟩<;>(refine Jg o ?_;unhygienic intros)
 refine Yc (G37 k f) ?_
 rintro v h (⟨hk,a,rfl,o⟩|⟨hk,rfl,o⟩)
 ·refine (?_:Tr _ _ _ _) o
  refine Je ?_
  (refine Ja ?_;unhygienic intros)
  refine Ys fun o=>?_
  exact .inl ⟨hk,a,rfl,o.sub⟩
 ·refine (?_:Tr _ _ _ _) o
  refine Je ?_
  (refine Ja ?_;unhygienic intros)
  refine Ys fun o=>?_
  exact .inr ⟨hk,rfl,o.sub⟩
def Ba7 (l:List UInt8):ProcS:=⟨byI l 0,byI l 1,byI l 2,byI l 3,two l 4,two l 6,two l 8,two l 10,[byI l 12,byI l 13,byI l 14,byI l 15,byI l 16,byI l 17,byI l 18,byI l 19],rfl⟩
def isS (l:List UInt8):Bool:=okS (Ba7 l) && decide (As6 (Ba7 l)=l)
theorem H95 (a:Option Addr) (c:Nat) (l:List UInt8) (hl:l.length=24):Ct A9 V6 [.slice a 24 c] [slC false A4 1 a 24 c (A0 l)] fun v own=>v=.tuple ⟨[.agg ⟨D8 (Ba7 l)⟩,.bool (isS l)]⟩∧own [slC false A4 1 a 24 c (A0 l)]:=by
 have key:∀ a1:Option Addr,CtP A9 B9 [.slice a1 24 24,.slice a 24 c] [slC false A4 1 a1 24 24 (A0 (As6 (Ba7 l))),slC false A4 1 a 24 c (A0 l)] (.bool (decide (As6 (Ba7 l)=l))):=fun a1=>by
  have e:=D43 (Ba7 l)
  have J:=Em3 (slC false A4 1 a1 (As6 (Ba7 l)).length 24 (A0 (As6 (Ba7 l)))) (slC false A4 1 a l.length c (A0 l)) a1 false 24 a false c (As6 (Ba7 l)) l (by rw [e];simp [B0])
  rwa [hl,e] at J
 refine Ct.of N1 rfl fun h r=>Tr.eq (Ha2 ..) ?_;refine Je ?_
 refine Yn fun b1 h=>?_
 refine Q2 1 rfl fun hl2 hc2 _=>?_
 (refine Ja ?_;unhygienic intros;repeat(refine Gw ?_;rintro px rfl;refine Ja ?_;unhygienic intros))
 refine Tr.xIntS (v:=byI l 0) (Ab8 (by omega)) ?_
 (refine Ja ?_;unhygienic intros)
 refine Tr.xIntS (v:=byI l 1) (Ab8 (by omega)) ?_
 (refine Ja ?_;unhygienic intros)
 refine Tr.xIntS (v:=byI l 2) (Ab8 (by omega)) ?_
 (refine Ja ?_;unhygienic intros)
 refine Tr.xIntS (v:=byI l 3) (Ab8 (by omega)) ?_
 (refine Ja ?_;unhygienic intros)
 simp only [byI,Al1]
 refine Tr.jmp N1 (Tr.eq (A20 ..) ?_);(try simp only[Nr,Nl,wl,Nat.reduceAdd,Nat.reduceMul,Int.reduceToNat])
 (refine Jd ?_;unhygienic intros)
 refine Tr.pcall (Eo6 (some px) c 24 l 4 hl (by omega) (by simp [B0])) ?_;refine Je ?_;(refine Ja ?_;unhygienic intros)
 refine Tr.jmp N1 (Tr.eq (A20 ..) ?_);(try simp only[Nr,Nl,wl,Nat.reduceAdd,Nat.reduceMul,Int.reduceToNat])
 (refine Jd ?_;unhygienic intros)
 refine Tr.pcall (Eo6 (some px) c 24 l 6 hl (by omega) (by simp [B0])) ?_;refine Je ?_;(refine Ja ?_;unhygienic intros)
 refine Tr.jmp N1 (Tr.eq (A20 ..) ?_);(try simp only[Nr,Nl,wl,Nat.reduceAdd,Nat.reduceMul,Int.reduceToNat])
 (refine Jd ?_;unhygienic intros)
 refine Tr.pcall (Eo6 (some px) c 24 l 8 hl (by omega) (by simp [B0])) ?_;refine Je ?_;(refine Ja ?_;unhygienic intros)
 refine Tr.jmp N1 (Tr.eq (A20 ..) ?_);(try simp only[Nr,Nl,wl,Nat.reduceAdd,Nat.reduceMul,Int.reduceToNat])
 (refine Jd ?_;unhygienic intros)
 refine Tr.pcall (Eo6 (some px) c 24 l 10 hl (by omega) (by simp [B0])) ?_;refine Je ?_;(refine Ja ?_;unhygienic intros)
 refine Tr.jmp N1 (Tr.eq (A20 ..) ?_);(try simp only[Nr,Nl,wl,Nat.reduceAdd,Nat.reduceMul,Int.reduceToNat])
 (refine Jd ?_;unhygienic intros)
 refine Tr.jmp N1 (Tr.eq (V8 ..) ?_);(try simp only[Nr,Nl,wl,Nat.reduceAdd,Nat.reduceMul,Int.reduceToNat])
 (refine Jd ?_;unhygienic intros)
 refine Tr.xIntS (v:=byI l 12) (Ab8 (by omega)) ?_
 (refine Jd ?_;unhygienic intros)
 simp only [byI,Al1]
 refine Tr.jmp N1 (Tr.eq (V8 ..) ?_);(try simp only[Nr,Nl,wl,Nat.reduceAdd,Nat.reduceMul,Int.reduceToNat])
 (refine Jd ?_;unhygienic intros)
 refine Tr.xIntS (v:=byI l 13) (Ab8 (by omega)) ?_
 (refine Jd ?_;unhygienic intros)
 simp only [byI,Al1]
 refine Tr.jmp N1 (Tr.eq (V8 ..) ?_);(try simp only[Nr,Nl,wl,Nat.reduceAdd,Nat.reduceMul,Int.reduceToNat])
 (refine Jd ?_;unhygienic intros)
 refine Tr.xIntS (v:=byI l 14) (Ab8 (by omega)) ?_
 (refine Jd ?_;unhygienic intros)
 simp only [byI,Al1]
 refine Tr.jmp N1 (Tr.eq (V8 ..) ?_);(try simp only[Nr,Nl,wl,Nat.reduceAdd,Nat.reduceMul,Int.reduceToNat])
 (refine Jd ?_;unhygienic intros)
 refine Tr.xIntS (v:=byI l 15) (Ab8 (by omega)) ?_
 (refine Jd ?_;unhygienic intros)
 simp only [byI,Al1]
 refine Tr.jmp N1 (Tr.eq (V8 ..) ?_);(try simp only[Nr,Nl,wl,Nat.reduceAdd,Nat.reduceMul,Int.reduceToNat])
 (refine Jd ?_;unhygienic intros)
 refine Tr.xIntS (v:=byI l 16) (Ab8 (by omega)) ?_
 (refine Jd ?_;unhygienic intros)
 simp only [byI,Al1]
 refine Tr.jmp N1 (Tr.eq (V8 ..) ?_);(try simp only[Nr,Nl,wl,Nat.reduceAdd,Nat.reduceMul,Int.reduceToNat])
 (refine Jd ?_;unhygienic intros)
 refine Tr.xIntS (v:=byI l 17) (Ab8 (by omega)) ?_
 (refine Jd ?_;unhygienic intros)
 simp only [byI,Al1]
 refine Tr.jmp N1 (Tr.eq (V8 ..) ?_);(try simp only[Nr,Nl,wl,Nat.reduceAdd,Nat.reduceMul,Int.reduceToNat])
 (refine Jd ?_;unhygienic intros)
 refine Tr.xIntS (v:=byI l 18) (Ab8 (by omega)) ?_
 (refine Jd ?_;unhygienic intros)
 simp only [byI,Al1]
 refine Tr.jmp N1 (Tr.eq (V8 ..) ?_);(try simp only[Nr,Nl,wl,Nat.reduceAdd,Nat.reduceMul,Int.reduceToNat])
 (refine Jd ?_;unhygienic intros)
 refine Tr.xIntS (v:=byI l 19) (Ab8 (by omega)) ?_
 (refine Jd ?_;unhygienic intros)
 simp only [byI,Al1]
 refine Tr.jmp N1 (Tr.eq (V8 ..) ?_);(try simp only[Nr,Nl,wl,Nat.reduceAdd,Nat.reduceMul,Int.reduceToNat])
 refine Yf rfl ?_
 refine Tr.xAgg (xs:=D8 (Ba7 l)) ⟨Nat.le_of_ble_eq_true rfl,rfl⟩ ?_
 refine Yc (E47 (Ba7 l)) ?_
 rintro v h (⟨hk,a1,rfl,o⟩|⟨hk,rfl,o⟩)
 ·refine (?_:Tr _ _ _ _) o
  refine Je ?_
  refine Tr.dx ?_
  refine Tr.dx ?_
  refine Tr.dx ?_
  refine Tr.xAgg (xs:=D8 (Ba7 l)) ⟨Nat.le_of_ble_eq_true rfl,rfl⟩ ?_
  refine Yb (Yt rfl ?_)
  refine Tr.pcall (key a1) ?_
  refine Tr.dx ?_
  refine Tr.xAgg (xs:=D8 (Ba7 l)) ⟨Nat.le_of_ble_eq_true rfl,rfl⟩ ?_
  (refine Ja ?_;unhygienic intros)
  refine Ys fun o=>(?_:Tr _ _ _ _) o;refine Je ?_
  (refine Ja ?_;unhygienic intros)
  refine Ys fun o=>?_
  exact ⟨by unfold isS;rw [hk,Bool.true_and],o.sub⟩
 ·refine (?_:Tr _ _ _ _) o
  refine Je ?_
  refine Tr.dx ?_
  refine Tr.dx ?_
  refine Tr.dx ?_
  refine Tr.xAgg (xs:=D8 (Ba7 l)) ⟨Nat.le_of_ble_eq_true rfl,rfl⟩ ?_
  (refine Ja ?_;unhygienic intros)
  refine Ys fun o=>?_
  exact ⟨by unfold isS;rw [hk];rfl,o.sub⟩
theorem G71 (k:Nat) (a:Option Addr) (c:Nat) (l:List UInt8) (hl:l.length=24):Ct A9 S7 [P0 k,.slice a 24 c] [Ew9 k,slC false A4 1 a 24 c (A0 l)] fun v own=>v=.tuple ⟨[.agg ⟨D8 (if isS l then Ba7 l else .zero)⟩,.bool (isS l)]⟩∧own [Ew9 k,slC false A4 1 a 24 c (A0 l)]:=by
 refine Ct.of B00 rfl fun h r=>Tr.eq (Bz2 ..) ?_;refine Je ?_
 (refine Ja ?_;unhygienic intros)
 refine Yf rfl ?_
 (refine Jb ?_;unhygienic intros)
 refine Yc (El7 24 a c l hl (by simp [B0])) ?_;rintro _ h ⟨a1,c1,rfl,o⟩<;>(refine Jg o ?_;unhygienic intros)
 refine Yc (H95 a1 c1 l hl) ?_;rintro _ h ⟨rfl,o⟩<;>(refine Jg o ?_;unhygienic intros)
 cases hk:isS l with
 | false =>
  (refine Ja ?_;unhygienic intros)
  refine Ys fun o=>?_
  exact ⟨rfl,o.sub⟩
 | true =>
  (refine Ja ?_;unhygienic intros)
  refine Ys fun o=>?_
  exact ⟨rfl,o.sub⟩
def Z3 (l:List UInt8):ProcS × Int:=if l.all (·==0) then (.zero,0) else if isS l then (Ba7 l,1) else (.zero,2)
theorem Hm0 (a:Option Addr) (c:Nat) (l:List UInt8) (hl:l.length=24):Ct A9 A23 [.slice a 24 c] [slC false A4 1 a 24 c (A0 l)] fun v own=>v=.tuple ⟨[.agg ⟨D8 (Z3 l).1⟩,int (Z3 l).2]⟩∧own [slC false A4 1 a 24 c (A0 l)]:=by
 refine Ct.of Ge6 rfl fun h r=>Tr.eq (Ge2 ..) ?_;refine Je ?_
 refine Yn fun b1 h=>?_
 refine Yb (Yt rfl ?_)
 refine Tr.pcall (Ef6 24 a c l hl (by simp [B0])) ?_;refine Je ?_;(refine Jb ?_;unhygienic intros)
 refine Ys fun o=>(?_:Tr _ _ _ _) o;refine Je ?_
 cases hb:l.all (·==0) with
 | true =>
  (refine Ja ?_;unhygienic intros)
  refine Ys fun o=>?_
  exact ⟨by unfold Z3;rw [hb];rfl,o.sub⟩
 | false =>
  (refine Jb ?_;unhygienic intros)
  refine Yc (Gj9) ?_;rintro _ h ⟨k,rfl,o⟩<;>(refine Jg o ?_;unhygienic intros)
  refine Yc (G71 k a c l hl) ?_;rintro _ h ⟨rfl,o⟩<;>(refine Jg o ?_;unhygienic intros)
  cases hk:isS l with
  | false =>
   (refine Ja ?_;unhygienic intros)
   refine Ys fun o=>?_
   exact ⟨by unfold Z3;rw [hb,hk];rfl,o.sub⟩
  | true =>
   (refine Ja ?_;unhygienic intros)
   refine Ys fun o=>?_
   exact ⟨by unfold Z3;rw [hb,hk];rfl,o.sub⟩
def J5 (l:List UInt8) (a:Nat) (b:List UInt8):List UInt8:=l.take a++b++l.drop (a+b.length)
theorem Ad1 {l b:List UInt8} {a:Nat} (h:a+b.length≤l.length):(J5 l a b).length=l.length:=by simp [J5];omega
theorem Bg5 {l b:List UInt8} {a:Nat} (h:a+b.length≤l.length) (i:Nat):(J5 l a b)[i]?=if a≤i∧i<a+b.length then b[i-a]? else l[i]?:=by
 unfold J5
 by_cases h1:i<a
 ·rw [if_neg (by omega),List.append_assoc,List.getElem?_append_left (by simp;omega),List.getElem?_take,if_pos h1]
 ·rw [List.append_assoc,List.getElem?_append_right (by simp;omega),List.length_take,Nat.min_eq_left (by omega)]
  by_cases h2:i<a+b.length
  ·rw [if_pos ⟨by omega,h2⟩,List.getElem?_append_left (by omega)]
  ·rw [if_neg (by omega),List.getElem?_append_right (by omega),List.getElem?_drop];congr 1;omega
def slice (l:List UInt8) (a n:Nat):List UInt8:=(l.drop a).take n
theorem Bs3 (l:List UInt8) (a n i:Nat):(slice l a n)[i]?=if i<n then l[a+i]? else none:=by
 unfold slice;rw [List.getElem?_take];split
 ·rw [List.getElem?_drop]
 ·rfl
theorem Gf9 {l:List UInt8} {a n:Nat} (h:a+n≤l.length):(slice l a n).length=n:=by simp [slice];omega
abbrev Rg:=List (Nat × Nat)
def Aw9:List UInt8→Rg→List (List UInt8)→List UInt8
 | l,(lo,_)::rg,x::m=>Aw9 (J5 l lo x) rg m
 | l,_,_=>l
structure Fit (size:Nat) (rg:Rg) (m:List (List UInt8)):Prop where
 len:m.length=rg.length
 each:∀ (j lo n:Nat),rg[j]?=some (lo,n)→lo+n≤size∧∃ x,m[j]?=some x∧x.length=n
def RgOk (rg:Rg):Prop:=∀ (i j lo n lo' n':Nat),i≠j→rg[i]?=some (lo,n)→rg[j]?=some (lo',n')→lo+n≤lo'∨lo'+n'≤lo
theorem Fit.tail {size:Nat} {p:Nat × Nat} {rg:Rg} {x:List UInt8} {m:List (List UInt8)} (f:Fit size (p::rg) (x::m)):Fit size rg m:=⟨by simpa using f.len,fun j lo n h=>by simpa using f.each (j+1) lo n (by simpa using h)⟩
theorem Fit.head {size lo n:Nat} {rg:Rg} {x:List UInt8} {m:List (List UInt8)} (f:Fit size ((lo,n)::rg) (x::m)):lo+n≤size∧x.length=n:=by
 obtain ⟨h,y,hy,hl⟩:=f.each 0 lo n rfl
 simp at hy;subst hy;exact ⟨h,hl⟩
theorem RgOk.tail {p:Nat × Nat} {rg:Rg} (k:RgOk (p::rg)):RgOk rg:=fun i j lo n lo' n' hij hi hj=>k (i+1) (j+1) lo n lo' n' (by omega) (by simpa using hi) (by simpa using hj)
theorem Dl4:∀ {rg:Rg} {m:List (List UInt8)} {l:List UInt8},Fit l.length rg m→(Aw9 l rg m).length=l.length
 | [],m,l,f=>by simp [Aw9]
 | (lo,n)::rg,[],l,f=>by simp [Aw9]
 | (lo,n)::rg,x::m,l,f=>by
  have h:=f.head
  have e:=Ad1 (l:=l) (b:=x) (a:=lo) (by omega)
  unfold Aw9
  rw [Dl4 (by rw [e];exact f.tail),e]
theorem Do0:∀ {rg:Rg} {m:List (List UInt8)} {l:List UInt8},Fit l.length rg m→∀ i,(∀ (j lo n:Nat),rg[j]?=some (lo,n)→i<lo∨lo+n≤i)→(Aw9 l rg m)[i]?=l[i]?
 | [],m,l,f,i,h=>by simp [Aw9]
 | (lo,n)::rg,[],l,f,i,h=>by simp [Aw9]
 | (lo,n)::rg,x::m,l,f,i,h=>by
  have h0:=f.head
  have e:=Ad1 (l:=l) (b:=x) (a:=lo) (by omega)
  unfold Aw9
  rw [Do0 (by rw [e];exact f.tail) i (fun j lo' n' hj=>h (j+1) lo' n' (by simpa using hj)),Bg5 (by omega),if_neg]
  have:=h 0 lo n rfl;omega
theorem B36:∀ {rg:Rg} {m:List (List UInt8)} {l:List UInt8},Fit l.length rg m→RgOk rg→∀ (j lo n:Nat) (x:List UInt8),rg[j]?=some (lo,n)→m[j]?=some x→∀ i,i<n→(Aw9 l rg m)[lo+i]?=x[i]?
 | [],m,l,f,k,j,lo,n,x,h,hx,i,hi=>by simp at h
 | (lo0,n0)::rg,[],l,f,k,j,lo,n,x,h,hx,i,hi=>by simp at hx
 | (lo0,n0)::rg,x0::m,l,f,k,j,lo,n,x,h,hx,i,hi=>by
  have h0:=f.head
  have e:=Ad1 (l:=l) (b:=x0) (a:=lo0) (by omega)
  unfold Aw9
  cases j with
  | zero =>
   simp at h hx
   obtain ⟨rfl,rfl⟩:=h;subst hx
   rw [Do0 (by rw [e];exact f.tail) (lo0+i) (fun j lo' n' hj=>by
    have:=k 0 (j+1) lo0 n0 lo' n' (by omega) rfl (by simpa using hj)
    omega),Bg5 (by omega),if_pos (by omega)]
   congr 1;omega
  | succ j=>exact B36 (by rw [e];exact f.tail) k.tail j lo n x (by simpa using h) (by simpa using hx) i hi
theorem Hi8 {rg:Rg} {m:List (List UInt8)} {l:List UInt8} (f:Fit l.length rg m) (k:RgOk rg) {j lo n:Nat} {x:List UInt8} (h:rg[j]?=some (lo,n)) (hx:m[j]?=some x) {a c:Nat} (hc:a+c≤n):slice (Aw9 l rg m) (lo+a) c=slice x a c:=by
 refine List.ext_getElem? fun i=>?_
 rw [Bs3,Bs3]
 split
 ·rw [Nat.add_assoc,B36 f k j lo n x h hx (a+i) (by omega)]
 ·rfl
theorem Fit.set {size:Nat} {rg:Rg} {m:List (List UInt8)} (f:Fit size rg m) {j lo n:Nat} (h:rg[j]?=some (lo,n)) {y:List UInt8} (hy:y.length=n):Fit size rg (m.set j y):=⟨by simpa using f.len,fun i lo' n' hi=>by
 obtain ⟨h1,z,hz,hl⟩:=f.each i lo' n' hi
 refine ⟨h1,?_⟩
 by_cases hij:j=i
 ·subst hij
  rw [h] at hi;cases hi
  exact ⟨y,by simp [(List.getElem?_eq_some_iff.1 hz).1],hy⟩
 ·exact ⟨z,by rw [List.getElem?_set_ne hij];exact hz,hl⟩⟩
theorem G76 {rg:Rg} {m:List (List UInt8)} {l:List UInt8} (f:Fit l.length rg m) (k:RgOk rg) {j lo n:Nat} {x:List UInt8} (h:rg[j]?=some (lo,n)) (hx:m[j]?=some x) {a:Nat} {b:List UInt8} (hc:a+b.length≤n):J5 (Aw9 l rg m) (lo+a) b=Aw9 l rg (m.set j (J5 x a b)):=by
 obtain ⟨h1,y,hy,hl⟩:=f.each j lo n h
 rw [hx] at hy;cases hy
 have e:=Ad1 (l:=x) (b:=b) (a:=a) (by omega)
 have f2:=f.set h (y:=J5 x a b) (by omega)
 have lp:=Dl4 f
 refine List.ext_getElem? fun i=>?_
 rw [Bg5 (by omega)]
 by_cases hi:lo≤i∧i<lo+n
 ·obtain ⟨i',rfl⟩:∃ i',i=lo+i':=⟨i-lo,by omega⟩
  rw [B36 f2 k j lo n (J5 x a b) h (by simp [(List.getElem?_eq_some_iff.1 hx).1]) i' (by omega),Bg5 (by omega),B36 f k j lo n x h hx i' (by omega)]
  by_cases h2:a≤i'∧i'<a+b.length
  ·rw [if_pos (by omega),if_pos h2];congr 1;omega
  ·rw [if_neg (by omega),if_neg h2]
 ·rw [if_neg (by omega)]
  by_cases ho:∃ (j' lo' n':Nat),rg[j']?=some (lo',n')∧lo'≤i∧i<lo'+n'
  ·obtain ⟨j',lo',n',hj',h3,h4⟩:=ho
   have hne:j≠j':=fun e=>by subst e;rw [h] at hj';cases hj';omega
   obtain ⟨_,z,hz,_⟩:=f.each j' lo' n' hj'
   obtain ⟨i',rfl⟩:∃ i',i=lo'+i':=⟨i-lo',by omega⟩
   rw [B36 f k j' lo' n' z hj' hz i' (by omega),B36 f2 k j' lo' n' z hj' (by rw [List.getElem?_set_ne hne];exact hz) i' (by omega)]
  ·have hall:∀ (j' lo' n':Nat),rg[j']?=some (lo',n')→i<lo'∨lo'+n'≤i:=fun j' lo' n' hj'=>by
    by_cases hh:lo'≤i∧i<lo'+n'
    ·exact absurd ⟨j',lo',n',hj',hh.1,hh.2⟩ ho
    ·omega
   rw [Do0 f i hall,Do0 f2 i hall]
structure RecS where
 kind:Int
 index:Int
deriving DecidableEq
abbrev Y9 (r:RecS):List Value:=[int r.kind,int r.index]
structure Fr where
 S:KS
 N:Nat
 env:Int
 caps:List Int
 rg:Rg
structure FrOk (F:Fr):Prop where
 ok:KOk F.N F.S
 hN:F.N+1<1000000000
 ne:0<F.caps.length
 small:F.caps.length≤40
 len:F.rg.length=F.caps.length
 env:¬ (F.env<0∨F.env≥(F.S.envs.length:Int))
 pl:∀ (j:Nat) (cap:Int) (lo n:Nat),F.caps[j]?=some cap→F.rg[j]?=some (lo,n)→∀ (a m:Nat) (right:Int),right=1∨right=2→a+m≤n→O3 F.S.tabs F.S.regs F.env cap right a m=(((lo+a:Nat):Int),0)
 dj:RgOk F.rg
 own:∃ lo,F.rg[0]?=some (lo,492)
 brs:∀ (j lo n:Nat),0<j→F.rg[j]?=some (lo,n)→n=40
def Fr.at (F:Fr) (m:List (List UInt8)):KS:=Bk7 F.S (Aw9 F.S.mem F.rg m)
structure CX where
 m:List (List UInt8)
 bad:List RecS
def Ae9:Nat→List RecS→List MapEntry
 | _,[]=>[]
 | i,r::l=>{ key:=.agg ⟨Y9 r⟩,val:=int 1,born:=i }::Ae9 (i+1) l
abbrev Ie1 (c k:Nat) (env:Int) (caps:List Int) (bad:List RecS) (x:Option Addr × Nat × Nat):List HP :=
 [pt c (.cells Db2 false [P0 k,int env,.slice x.1 caps.length x.2.1,.map (some x.2.2)]),slC false B3 1 x.1 caps.length x.2.1 (caps.map int),pt x.2.2 (.map (Ae9 0 bad) bad.length)]
def V2 (c k:Nat) (env:Int) (caps:List Int) (bad:List RecS):HP:=hex fun x=>sl (Ie1 c k env caps bad x)
instance {c k:Nat} {env:Int} {caps:List Int} {bad:List RecS}:Chk (V2 c k env caps bad) (Ie1 c k env caps bad):=⟨rfl⟩
abbrev cmF (c k:Nat) (F:Fr) (x:CX):List HP:=[D9 k (F.at x.m),V2 c k F.env F.caps x.bad,pu (Fit F.S.mem.length F.rg x.m)]
def cmC (c k:Nat) (F:Fr) (x:CX):HP:=hex fun _:Unit=>sl (cmF c k F x)
instance {c k:Nat} {F:Fr} {x:CX}:Chk (cmC c k F x) (fun _:Unit=>cmF c k F x):=⟨rfl⟩
def U4 (nc:Nat) (kind:Int):Int:=if kind=1 then 8 else if kind=2 then 12 else if kind=3 then 3+nc else 1
def H5 (nc:Nat) (r:RecS):Option (Nat × Nat × Nat) :=
 if r.index<0∨r.index≥U4 nc r.kind then none
 else if r.kind=1 then some (0,24*r.index.toNat,24)
 else if r.kind=2 then some (0,192+8*r.index.toNat,8)
 else if r.kind=3 then if r.index<4 then some (0,288+40*r.index.toNat,40) else some (r.index.toNat-3,0,40)
 else if r.kind=4 then some (0,448,40)
 else some (0,488,4)
def Gy7 (caps:List Int):Option (Nat × Nat × Nat)→List Value
 | some (j,a,n)=>[int (caps.getD j 0),int a,int n]
 | none=>[int 0,int 0,int 0]
theorem Gq6 (c k:Nat) (env:Int) (caps:List Int) (bad:List RecS) (kind:Int) (hs:caps.length≤40):CtP A9 Z0 [P0 c,int kind] [V2 c k env caps bad] (int (U4 caps.length kind)):=by
 have e:IntKind.wrap .i64 (IntKind.wrap .i64 (4+(caps.length:Int))-1)=3+(caps.length:Int):=by rw [A8,A8];omega
 refine CtP.of Dw6 rfl fun h r=>Tr.eq (Dv0 ..) ?_;refine Je ?_
 refine B4 (V2 c k env caps bad) fun ⟨a,n,mb⟩=>?_;refine Je ?_
 unfold U4
 by_cases h1:kind=1
 ·refine Yt (by simpa using h1) ?_
  rw [if_pos h1];exact Jz
 refine Yf (by simpa using h1) ?_
 rw [if_neg h1]
 by_cases h2:kind=2
 ·refine Yt (by simpa using h2) ?_
  rw [if_pos h2];exact Jz
 refine Yf (by simpa using h2) ?_
 rw [if_neg h2]
 by_cases h3:kind=3
 ·refine Yt (by simpa using h3) ?_
  rw [if_pos h3];(refine Ja ?_;unhygienic intros)
  refine Ys fun o=>?_
  rw [e];exact ⟨by first|rfl|trivial,by first|rfl|trivial⟩
 refine Yf (by simpa using h3) ?_
 rw [if_neg h3];exact Jz
theorem Gi7 (c k:Nat) (env:Int) (caps:List Int) (bad:List RecS) (rc:RecS) (hs:caps.length≤40) (hn:0<caps.length):Ct A9 W2 [P0 c,.agg ⟨Y9 rc⟩] [V2 c k env caps bad] fun v own =>
  v=.tuple ⟨[.agg ⟨Gy7 caps (H5 caps.length rc)⟩,.bool (H5 caps.length rc).isSome]⟩∧own [V2 c k env caps bad]:=by
 have hg:∀ j,j<caps.length→(caps.map int)[j]?=some (int (caps.getD j 0)):=fun j hj=>by rw [List.getElem?_map,M6 0 hj];rfl
 refine Ct.of Do9 rfl fun h r=>Tr.eq (Do5 ..) ?_;refine Je ?_
 (refine Jb ?_;unhygienic intros)
 refine Tr.orG (c:=decide (rc.index≥U4 caps.length rc.kind)) (fun hb=>?_) ?_
 ·(refine Ja ?_;unhygienic intros)
  refine Tr.pcall (Gq6 c k env caps bad rc.kind hs) ?_;refine Je ?_;exact Jz
 by_cases hi:rc.index<0∨rc.index≥U4 caps.length rc.kind
 ·refine Yt (by simp only [Bool.or_eq_true,decide_eq_true_eq];exact hi) ?_
  have e:H5 caps.length rc=none:=by unfold H5;rw [if_pos hi]
  rw [e]
  (refine Ja ?_;unhygienic intros)
  refine Ys fun o=>?_
  exact ⟨rfl,o.sub⟩
 refine Yf (by simp only [Bool.or_eq_false_iff,decide_eq_false_iff_not];omega) ?_
 refine B4 (V2 c k env caps bad) fun ⟨a,n,mb⟩=>?_;refine Je ?_
 (refine Ja ?_;unhygienic intros;repeat(refine Gw ?_;rintro px rfl;refine Ja ?_;unhygienic intros))
 refine Tr.xIntS (v:=caps.getD 0 0) (hg 0 hn) ?_
 (refine Ja ?_;unhygienic intros)
 by_cases h1:rc.kind=1
 ·refine Yt (by simpa using h1) ?_
  have e:H5 caps.length rc=some (0,24*rc.index.toNat,24):=by unfold H5;rw [if_neg hi,if_pos h1]
  have hm:U4 caps.length rc.kind=8:=by unfold U4;rw [if_pos h1]
  have e1:IntKind.wrap .i64 (24*rc.index)=((24*rc.index.toNat:Nat):Int):=by rw [A8];omega
  rw [e,e1]
  (refine Ja ?_;unhygienic intros)
  refine B2 (V2 c k env caps bad) ⟨some px,n,mb⟩ ?_;refine Je ?_
  refine Ys fun o=>?_
  exact ⟨rfl,o.sub⟩
 refine Yf (by simpa using h1) ?_
 by_cases h2:rc.kind=2
 ·(refine Ja ?_;unhygienic intros)
  refine Yt (by simpa using h2) ?_
  have e:H5 caps.length rc=some (0,192+8*rc.index.toNat,8):=by unfold H5;rw [if_neg hi,if_neg h1,if_pos h2]
  have hm:U4 caps.length rc.kind=12:=by unfold U4;rw [if_neg h1,if_pos h2]
  have e1:IntKind.wrap .i64 (192+IntKind.wrap .i64 (8*rc.index))=((192+8*rc.index.toNat:Nat):Int):=by rw [A8,A8];omega
  rw [e,e1]
  (refine Ja ?_;unhygienic intros)
  refine B2 (V2 c k env caps bad) ⟨some px,n,mb⟩ ?_;refine Je ?_
  refine Ys fun o=>?_
  exact ⟨rfl,o.sub⟩
 (refine Ja ?_;unhygienic intros)
 refine Yf (by simpa using h2) ?_
 (refine Jb ?_;unhygienic intros)
 refine Tr.andG (c:=decide (rc.index<4)) (fun hb=>?_) ?_
 ·exact Jz
 by_cases h3:rc.kind=3
 ·have hm:U4 caps.length rc.kind=3+caps.length:=by unfold U4;rw [if_neg h1,if_neg h2,if_pos h3]
  by_cases h4:rc.index<4
  ·refine Yt (by simp [h3,h4]) ?_
   have e:H5 caps.length rc=some (0,288+40*rc.index.toNat,40):=by unfold H5;rw [if_neg hi,if_neg h1,if_neg h2,if_pos h3,if_pos h4]
   have e1:IntKind.wrap .i64 (288+IntKind.wrap .i64 (40*rc.index))=((288+40*rc.index.toNat:Nat):Int):=by rw [A8,A8];omega
   rw [e,e1]
   (refine Ja ?_;unhygienic intros)
   refine B2 (V2 c k env caps bad) ⟨some px,n,mb⟩ ?_;refine Je ?_
   refine Ys fun o=>?_
   exact ⟨rfl,o.sub⟩
  ·refine Yf (by simp [h4]) ?_
   have e:H5 caps.length rc=some (rc.index.toNat-3,0,40):=by unfold H5;rw [if_neg hi,if_neg h1,if_neg h2,if_pos h3,if_neg h4]
   have e1:IntKind.wrap .i64 (IntKind.wrap .i64 (rc.index-4)+1)=((rc.index.toNat-3:Nat):Int):=by rw [A8,A8];omega
   rw [e,e1]
   (refine Ja ?_;unhygienic intros)
   refine Yt (by simpa using h3) ?_
   (refine Ja ?_;unhygienic intros)
   rw [Int.toNat_natCast]
   refine Je ?_
   refine Tr.xIntS (v:=caps.getD (rc.index.toNat-3) 0) (hg _ (by omega)) ?_
   (refine Ja ?_;unhygienic intros)
   refine B2 (V2 c k env caps bad) ⟨some px,n,mb⟩ ?_;refine Je ?_
   refine Ys fun o=>?_
   exact ⟨rfl,o.sub⟩
 refine Yf (by simp [h3]) ?_
 (refine Ja ?_;unhygienic intros)
 refine Yf (by simpa using h3) ?_
 (refine Ja ?_;unhygienic intros)
 by_cases h4:rc.kind=4
 ·refine Yt (by simpa using h4) ?_
  have e:H5 caps.length rc=some (0,448,40):=by unfold H5;rw [if_neg hi,if_neg h1,if_neg h2,if_neg h3,if_pos h4]
  rw [e]
  (refine Ja ?_;unhygienic intros)
  refine B2 (V2 c k env caps bad) ⟨some px,n,mb⟩ ?_;refine Je ?_
  refine Ys fun o=>?_
  exact ⟨rfl,o.sub⟩
 refine Yf (by simpa using h4) ?_
 have e:H5 caps.length rc=some (0,488,4):=by unfold H5;rw [if_neg hi,if_neg h1,if_neg h2,if_neg h3,if_neg h4]
 rw [e]
 (refine Ja ?_;unhygienic intros)
 refine B2 (V2 c k env caps bad) ⟨some px,n,mb⟩ ?_;refine Je ?_
 refine Ys fun o=>?_
 exact ⟨rfl,o.sub⟩
theorem Ho2:Ah7 PR 8 D7=some [TypeDesc.int .i64,TypeDesc.int .i64]:=by kernel_rfl
theorem Ia5:D75 PR D7=some true:=by kernel_rfl
instance {a b:Int}:KeyC PR D7 (.agg ⟨[.int .i64 a,.int .i64 b]⟩):=⟨fun x=>by
 unfold NN.keyN;rw [Ho2,Ia5];rfl⟩
theorem Em7 (r:RecS):∀ (l:List RecS) (i j:Nat),Af6 (.agg ⟨Y9 r⟩) (Ae9 j l) i=some (if r ∈ l then some (i+l.idxOf r) else none)
 | [],i,j=>by simp [Ae9,Af6]
 | q::l,i,j=>by
  have ih:=Em7 r l (i+1) (j+1)
  obtain ⟨qk,qi⟩:=q
  obtain ⟨rk,ri⟩:=r
  simp only [Ae9,Af6,Bb3,Y9,eqs,eq1,decide_true,List.mem_cons] at ih ⊢
  by_cases h:rk=qk∧ri=qi
  ·obtain ⟨rfl,rfl⟩:=h
   simp
  ·have e:(rk==qk && (ri==qi && true))=false:=by
    rw [Bool.and_eq_false_iff]
    by_cases h1:rk=qk
    ·right;simp;intro h2;exact h ⟨h1,h2⟩
    ·left;simpa using h1
   have hne:¬ (({ kind:=rk,index:=ri }:RecS)={ kind:=qk,index:=qi }):=fun e=>by
    rw [RecS.mk.injEq] at e;exact h e
   rw [e]
   simp only [hne,false_or]
   rw [ih,List.idxOf_cons]
   have:(({ kind:=qk,index:=qi }:RecS)=={ kind:=rk,index:=ri })=false:=by
    rw [beq_eq_false_iff_ne];exact fun e=>hne e.symm
   rw [this,cond_false]
   split<;>simp;omega
theorem Dj3:∀ (l:List RecS) (j:Nat),(Ae9 j l).length=l.length
 | [],_=>rfl
 | _::l,j=>by simp [Ae9,Dj3 l]
theorem Gz7:∀ (l:List RecS) (j i:Nat) (r:RecS),l[i]?=some r→(Ae9 j l)[i]?=some { key:=.agg ⟨Y9 r⟩,val:=int 1,born:=j+i }
 | [],_,i,r,h=>by simp at h
 | q::l,j,0,r,h=>by simp at h;subst h;rfl
 | q::l,j,i+1,r,h=>by
  have:=Gz7 l (j+1) i r (by simpa using h)
  rw [Ae9,List.getElem?_cons_succ,this];congr 2;omega
theorem Br9 (r:RecS) (l:List RecS):Aj8 (int 0) (.agg ⟨Y9 r⟩) (Ae9 0 l)=some (if r ∈ l then (int 1,true) else (int 0,false)):=by
 unfold Aj8
 rw [Em7]
 by_cases h:r ∈ l
 ·rw [if_pos h,if_pos h]
  have hi:=List.idxOf_lt_length_of_mem h
  have hg:l[l.idxOf r]?=some r:=by rw [List.getElem?_eq_getElem hi,List.getElem_idxOf]
  simp only [Nat.zero_add]
  rw [Gz7 l 0 _ r hg]
 ·rw [if_neg h,if_neg h]
theorem Gv1:∀ (l m:List RecS) (j:Nat),Ae9 j (l++m)=Ae9 j l++Ae9 (j+l.length) m
 | [],m,j=>by simp [Ae9]
 | q::l,m,j=>by simp only [List.cons_append,Ae9,Gv1 l m (j+1),List.length_cons];congr 2;congr 1;omega
theorem D50 {r:RecS} {l:List RecS} (h:¬ r ∈ l):Dt1 (int 0) (.agg ⟨Y9 r⟩) (Ae9 0 l) l.length=some (int 0,l.length,.map (Ae9 0 l++[{ key:=.agg ⟨Y9 r⟩,val:=int 0,born:=l.length }]) (l.length+1)):=by
 unfold Dt1;rw [Em7,if_neg h]
theorem Gi5 (r:RecS) (e:MapEntry):∀ (l:List RecS) (i j:Nat),¬ r ∈ l→Af6 (.agg ⟨Y9 r⟩) (Ae9 j l++[e]) i=Af6 (.agg ⟨Y9 r⟩) [e] (i+l.length)
 | [],i,j,h=>by simp [Ae9]
 | q::l,i,j,h=>by
  have ih:=Gi5 r e l (i+1) (j+1) (fun hm=>h (List.mem_cons_of_mem _ hm))
  have hq:Bb3 (.agg ⟨Y9 r⟩) (.agg ⟨Y9 q⟩)=some false:=by
   obtain ⟨qk,qi⟩:=q
   obtain ⟨rk,ri⟩:=r
   simp only [Bb3,Y9,eqs,eq1,decide_true]
   congr 1
   rw [Bool.and_eq_false_iff]
   by_cases h1:rk=qk
   ·right;simp;intro h2;exact h (by subst h1 h2;exact List.mem_cons_self ..)
   ·left;simpa using h1
  show (match Bb3 (.agg ⟨Y9 r⟩) (.agg ⟨Y9 q⟩) with
   | some true=>some (some i)
   | some false=>Af6 (.agg ⟨Y9 r⟩) (Ae9 (j+1) l++[e]) (i+1)
   | none=>none)=_
  rw [hq]
  simp only
  rw [ih];congr 1;simp;omega
theorem Dr7 {r:RecS} {l:List RecS} (h:¬ r ∈ l):Aj8 (int 0) (.agg ⟨Y9 r⟩) (Ae9 0 l++[{ key:=.agg ⟨Y9 r⟩,val:=int 0,born:=l.length }])=some (int 0,true):=by
 unfold Aj8
 rw [Gi5 r _ l 0 0 h]
 obtain ⟨rk,ri⟩:=r
 simp only [Af6,Bb3,Y9,eqs,eq1,decide_true,BEq.rfl,Bool.and_self,Nat.zero_add]
 rw [List.getElem?_append_right (by rw [Dj3];exact Nat.le_refl _),Dj3];simp
theorem B61:∀ (l:List RecS) (j:Nat) (n:Nat) (e:MapEntry) (i:Nat),e.born=n→j+l.length≤n→Bg9 (n:Int) (Ae9 j l++[e]) i=some (i+l.length)
 | [],j,n,e,i,h,hl=>by simp [Ae9,Bg9,h]
 | q::l,j,n,e,i,h,hl=>by
  have ih:=B61 l (j+1) n e (i+1) h (by simp at hl;omega)
  simp only [Ae9,List.cons_append,Bg9]
  have:(((j:Nat):Int)==(n:Int))=false:=by simp at hl ⊢;omega
  rw [this,cond_false,ih];congr 1;simp;omega
theorem Gj3 (f:MapEntry→MapEntry) (e:MapEntry):∀ (l:List MapEntry),modN f l.length (l++[e])=l++[f e]
 | []=>rfl
 | q::l=>by simp [modN,Gj3 f e l]
theorem D67 (r:RecS) (l:List RecS):modN (fun e=>{ e with val:=int (IntKind.wrap .i64 (0+1)) }) l.length (Ae9 0 l++[{ key:=.agg ⟨Y9 r⟩,val:=int 0,born:=l.length }])=Ae9 0 (l++[r]):=by
 rw [show l.length=(Ae9 0 l).length from (Dj3 l 0).symm,Gj3,Gv1]
 simp [Ae9,Dj3];decide
theorem Fr.mem_at (F:Fr) (m:List (List UInt8)):(F.at m).mem=Aw9 F.S.mem F.rg m:=rfl
theorem Fr.at_ok {F:Fr} (k:FrOk F) {m:List (List UInt8)} (f:Fit F.S.mem.length F.rg m):KOk F.N (F.at m):=by
 have:=k.ok
 exact ⟨this.envs,this.tabs,this.space,this.quota,by rw [Fr.mem_at,Dl4 f];exact this.mem,this.regs,this.may,this.mayl,this.nsect,this.sects,this.now⟩
theorem H16 {F:Fr} (k:FrOk F) {r:RecS} {j a n:Nat} (h:H5 F.caps.length r=some (j,a,n)):∃ lo z,F.rg[j]?=some (lo,z)∧a+n≤z∧j<F.caps.length:=by
 obtain ⟨lo0,h0⟩:=k.own
 have hl:=k.len;have hn:=k.ne
 unfold H5 at h
 split at h;· cases h
 rename_i hi
 split at h
 ·rename_i h1
  have hm:U4 F.caps.length r.kind=8:=by unfold U4;rw [if_pos h1]
  cases h;exact ⟨lo0,492,h0,by omega,hn⟩
 rename_i h1
 split at h
 ·rename_i h2
  have hm:U4 F.caps.length r.kind=12:=by unfold U4;rw [if_neg h1,if_pos h2]
  cases h;exact ⟨lo0,492,h0,by omega,hn⟩
 rename_i h2
 split at h
 ·rename_i h3
  have hm:U4 F.caps.length r.kind=3+F.caps.length:=by unfold U4;rw [if_neg h1,if_neg h2,if_pos h3]
  split at h
  ·cases h;exact ⟨lo0,492,h0,by omega,hn⟩
  ·cases h
   have hlt:r.index.toNat-3<F.rg.length:=by omega
   have hg:=List.getElem?_eq_getElem hlt
   generalize hx:F.rg[r.index.toNat-3]=x at hg
   obtain ⟨lo,z⟩:=x
   have:=k.brs _ lo z (by omega) hg
   exact ⟨lo,z,hg,by omega,by omega⟩
 split at h<;>(cases h;exact ⟨lo0,492,h0,by omega,hn⟩)
def Ac0 (kind:Int):Nat:=if kind=1 then 24 else if kind=2 then 8 else if kind=3 then 40 else if kind=4 then 40 else 4
theorem D27 {nc:Nat} {r:RecS} {j a n:Nat} (h:H5 nc r=some (j,a,n)):n=Ac0 r.kind:=by
 unfold H5 at h;unfold Ac0
 split at h;· cases h
 split at h
 ·rename_i h1;cases h;rw [if_pos h1]
 rename_i h1
 rw [if_neg h1]
 split at h
 ·rename_i h2;cases h;rw [if_pos h2]
 rename_i h2
 rw [if_neg h2]
 split at h
 ·rename_i h3;rw [if_pos h3];split at h<;>(cases h;rfl)
 rename_i h3
 rw [if_neg h3]
 split at h
 ·rename_i h4;cases h;rw [if_pos h4]
 ·rename_i h4;cases h;rw [if_neg h4]
def rdX (X:CX) (r:RecS):Option (List UInt8) :=
 match H5 X.m.length r with
 | some (j,a,n)=>if r ∈ X.bad then none else some (slice (X.m.getD j []) a n)
 | none=>none
def wrX (X:CX) (r:RecS) (b:List UInt8) (ok:Bool):Bool × CX :=
 match H5 X.m.length r with
 | some (j,a,n)=>if ok=true∧¬ r ∈ X.bad then (true,{ X with m:=X.m.set j (J5 (X.m.getD j []) a b) }) else (false,X)
 | none=>(false,X)
theorem Fit.mlen {F:Fr} (k:FrOk F) {m:List (List UInt8)} (f:Fit F.S.mem.length F.rg m):m.length=F.caps.length:=by rw [f.len,k.len]
theorem D87 {F:Fr} (k:FrOk F) {m:List (List UInt8)} (f:Fit F.S.mem.length F.rg m) {r:RecS} {j a n:Nat} (h:H5 F.caps.length r=some (j,a,n)) :
  ∃ lo z cap,F.caps[j]?=some cap∧F.rg[j]?=some (lo,z)∧a+n≤z∧m[j]?=some (m.getD j [])∧(m.getD j []).length=z∧lo+z≤F.S.mem.length∧cap=F.caps.getD j 0:=by
 obtain ⟨lo,z,hr,ha,hj⟩:=H16 k h
 obtain ⟨h1,x,hx,hl⟩:=f.each j lo z hr
 have e:m.getD j []=x:=by rw [List.getD_eq_getElem?_getD,hx];rfl
 exact ⟨lo,z,F.caps.getD j 0,M6 0 hj,hr,ha,by rw [e];exact hx,by rw [e];exact hl,h1,rfl⟩
theorem H93 {F:Fr} (k:FrOk F) {X:CX} (f:Fit F.S.mem.length F.rg X.m) {r:RecS} {l:List UInt8} (h:rdX X r=some l):l.length=Ac0 r.kind:=by
 unfold rdX at h
 rw [f.mlen k] at h
 cases hp:H5 F.caps.length r with
 | none=>rw [hp] at h;cases h
 | some p =>
  obtain ⟨j,a,n⟩:=p
  rw [hp] at h
  obtain ⟨lo,z,cap,_,_,ha,hx,hl,_⟩:=D87 k f hp
  simp only at h
  split at h
  ·cases h
  ·cases h;rw [Gf9 (by omega),D27 hp]
theorem Ii9 {F:Fr} (k:FrOk F) {m:List (List UInt8)} (f:Fit F.S.mem.length F.rg m) {r:RecS} {j a n:Nat} (h:H5 F.caps.length r=some (j,a,n)) :
  W7 (F.at m) F.env ⟨1,F.caps.getD j 0,(a:Int),(n:Int),0,0,[]⟩=((0,0,slice (m.getD j []) a n),F.at m):=by
 obtain ⟨lo,z,cap,hc,hr,ha,hx,hl,hz,rfl⟩:=D87 k f h
 have hp:=k.pl j _ lo z hc hr a n 1 (.inl rfl) ha
 have lp:=Dl4 f
 have hb:Dr5 (Aw9 F.S.mem F.rg m) ((lo+a:Nat):Int) (n:Int)=some (slice (m.getD j []) a n):=by
  unfold Dr5
  rw [if_pos (by rw [lp];omega),Int.toNat_natCast,Int.toNat_natCast]
  rw [← Hi8 f k.dj hr hx ha];rfl
 have e:Ao2 (F.at m).tabs (F.at m).regs (F.at m).mem F.env (F.caps.getD j 0) (a:Int) (n:Int)=(slice (m.getD j []) a n,0):=by
  unfold Ao2
  rw [show O3 (F.at m).tabs (F.at m).regs F.env (F.caps.getD j 0) 1 (a:Int) (n:Int)=(((lo+a:Nat):Int),0) from hp]
  rw [if_neg (by simp),show Dr5 (F.at m).mem _ _=_ from hb]
 unfold W7
 rw [if_neg (show ¬ (F.env<0∨F.env≥((F.at m).envs.length:Int)) from k.env)]
 unfold kDo
 rw [if_pos rfl,e]
theorem Ic4 {F:Fr} (k:FrOk F) {m:List (List UInt8)} (f:Fit F.S.mem.length F.rg m) {r:RecS} {j a n:Nat} (h:H5 F.caps.length r=some (j,a,n)) {b:List UInt8} (hb:b.length=n) :
  W7 (F.at m) F.env ⟨2,F.caps.getD j 0,(a:Int),0,0,0,b⟩=((0,0,[]),F.at (m.set j (J5 (m.getD j []) a b))):=by
 obtain ⟨lo,z,cap,hc,hr,ha,hx,hl,hz,rfl⟩:=D87 k f h
 have hp:=k.pl j _ lo z hc hr a n 2 (.inr rfl) ha
 have lp:=Dl4 f
 have hs:A84 (Aw9 F.S.mem F.rg m) ((lo+a:Nat):Int) b=some (Aw9 F.S.mem F.rg (m.set j (J5 (m.getD j []) a b))):=by
  unfold A84
  rw [if_pos (by rw [lp];omega),Int.toNat_natCast]
  rw [← G76 f k.dj hr hx (by omega)];rfl
 have e:Ai6 (F.at m).tabs (F.at m).regs (F.at m).mem F.env (F.caps.getD j 0) (a:Int) b=(0,Aw9 F.S.mem F.rg (m.set j (J5 (m.getD j []) a b))):=by
  unfold Ai6
  rw [hb,show O3 (F.at m).tabs (F.at m).regs F.env (F.caps.getD j 0) 2 (a:Int) (n:Int)=(((lo+a:Nat):Int),0) from hp]
  rw [if_neg (by simp),show A84 (F.at m).mem _ _=_ from hs]
 unfold W7
 rw [if_neg (show ¬ (F.env<0∨F.env≥((F.at m).envs.length:Int)) from k.env)]
 unfold kDo
 rw [if_neg (show ¬ ((2:Int)=1) by decide),if_pos rfl,e];rfl
theorem Ib2 {F:Fr} (k:FrOk F) {X:CX} (f:Fit F.S.mem.length F.rg X.m) {r:RecS} {b:List UInt8} {ok:Bool} (hb:ok=true→b.length=Ac0 r.kind):Fit F.S.mem.length F.rg (wrX X r b ok).2.m:=by
 unfold wrX
 rw [f.mlen k]
 cases hp:H5 F.caps.length r with
 | none=>exact f
 | some p =>
  obtain ⟨j,a,n⟩:=p
  obtain ⟨lo,z,cap,hc,hr,ha,hx,hl,hz,_⟩:=D87 k f hp
  simp only
  split
  ·rename_i hk
   exact f.set hr (by rw [Ad1 (by rw [hb hk.1,← D27 hp];omega)];exact hl)
  ·exact f
instance {caps:List Int} {o:Option (Nat × Nat × Nat)}:LenC (Gy7 caps o) 3:=⟨by cases o<;>rfl⟩
theorem Hz2 (caps:List Int) (o:Option (Nat × Nat × Nat)):(Gy7 caps o).all Value.oneCell=true:=by cases o<;>rfl
instance {caps:List Int} {o:Option (Nat × Nat × Nat)} {cs:List Value} [k:LenC cs 3]:SetsC cs 0 (Gy7 caps o) (Gy7 caps o):=⟨Bf5 k.ok LenC.ok (Hz2 caps o)⟩
instance {rc:RecS}:PartC (Y9 rc) 0 2 (Y9 rc):=⟨rfl⟩
theorem Hd1 (r:RecS) (l:List RecS):(if r ∈ l then (int 1,true) else (int 0,false))=(int (if r ∈ l then 1 else 0),decide (r ∈ l)):=by split<;>simp [*]
theorem Hc2 (r:RecS) (l:List RecS):decide ((if r ∈ l then (1:Int) else 0)>0)=decide (r ∈ l):=by split<;>simp [*]
theorem Dy8 (k:Nat) (S:KS) (N:Nat) (ok:KOk N S) (hN:N+1<1000000000) (env:Int) (c:CallS) (ba:Option Addr) (bc:Nat) (ro:Bool) (h5:c.op≠5) :
  Ct A9 Q1 [P0 k,int env,.agg ⟨Bh1 c ba bc⟩] [D9 k S,slC ro A4 1 ba c.b.length bc (A0 c.b)] fun v own=>∃ x d,v=.agg ⟨[int (W7 S env c).1.1,int (W7 S env c).1.2.1,.slice x (W7 S env c).1.2.2.length d]⟩ ∧
    own [slC false A4 1 x (W7 S env c).1.2.2.length d (A0 (W7 S env c).1.2.2),D9 k (W7 S env c).2,slC ro A4 1 ba c.b.length bc (A0 c.b)]:=by
 intro h r o
 obtain ⟨pq,o1⟩:=Own.ex (f:=fun pq=>slX ro A4 1 ba c.b.length bc pq (A0 c.b)) (o.perm (.swap _ _ _))
 obtain ⟨v,h',e,x,d,rfl,o2⟩:=Hw5 k S N ok hN env c ba bc ro pq h5 h r (o1.perm (.swap _ _ _))
 refine ⟨_,h',e,x,d,rfl,?_⟩
 have o3:=o2.picks [2] rfl
 exact (Own.inex (f:=fun pq=>slX ro A4 1 ba c.b.length bc pq (A0 c.b)) pq o3).picks [1,1,0] rfl
theorem D65 (c k:Nat) (F:Fr) (X:CX) (rc:RecS) (ok:FrOk F):Ct A9 N0 [P0 c,.agg ⟨Y9 rc⟩] [cmC c k F X] fun v own =>
  (∃ l a cp,rdX X rc=some l∧l.length=Ac0 rc.kind∧v=.tuple ⟨[.slice a l.length cp,.bool true]⟩∧own [slC false A4 1 a l.length cp (A0 l),cmC c k F X]) ∨
  (rdX X rc=none∧v=.tuple ⟨[.slice none 0 0,.bool false]⟩∧own [cmC c k F X]):=by
 refine Ct.of Dv5 rfl fun h r=>Tr.eq (Dt4 ..) ?_;refine Je ?_
 refine B4 (cmC c k F X) fun u=>?_;refine Je ?_
 refine O7 2 rfl fun f=>?_
 (refine Ja ?_;unhygienic intros)
 refine Yc (Gi7 c k F.env F.caps X.bad rc ok.small ok.ne) ?_;rintro _ h ⟨rfl,o⟩<;>(refine Jg o ?_;unhygienic intros)
 have em:=f.mlen ok
 cases hp:H5 F.caps.length rc with
 | none =>
  (refine Jb ?_;unhygienic intros)
  refine Yb (Yt rfl ?_)
  refine Ys fun o=>(?_:Tr _ _ _ _) o;refine Je ?_
  (refine Ja ?_;unhygienic intros)
  refine B2 (cmC c k F X) () ?_;refine Je ?_
  refine Ys fun o=>?_
  exact .inr ⟨by unfold rdX;rw [em,hp],rfl,o.sub⟩
 | some p =>
  obtain ⟨j,a,n⟩:=p
  refine B4 (V2 c k F.env F.caps X.bad) fun ⟨ca,cn,mb⟩=>?_;refine Je ?_
  (refine Jb ?_;unhygienic intros)
  refine Tr.orG (c:=decide (rc ∈ X.bad)) (fun _=>?_) ?_
  ·(refine Ja ?_;unhygienic intros)
   rw [Br9,Hd1]
   (refine Ja ?_;unhygienic intros)
   refine Ys fun o=>?_
   rw [Hc2];exact ⟨by first|rfl|trivial,by first|rfl|trivial⟩
  by_cases hb:rc ∈ X.bad
  ·rw [decide_eq_true hb]
   (refine Ja ?_;unhygienic intros)
   refine B2 (V2 c k F.env F.caps X.bad) ⟨ca,cn,mb⟩ ?_;refine Je ?_
   refine B2 (cmC c k F X) () ?_;refine Je ?_
   refine Ys fun o=>?_
   exact .inr ⟨by unfold rdX;rw [em,hp];exact if_pos hb,rfl,o.sub⟩
  ·rw [decide_eq_false hb]
   refine Yf rfl ?_
   (refine Ja ?_;unhygienic intros)
   refine B2 (V2 c k F.env F.caps X.bad) ⟨ca,cn,mb⟩ ?_;refine Je ?_
   have J:=Ia7 k (F.at X.m) F.N (F.at_ok ok f) ok.hN F.env 1 (F.caps.getD j 0) (a:Int) (n:Int) 0 0 (by decide)
   rw [Ii9 ok f hp] at J
   refine Yc (J) ?_;rintro _ h ⟨y,d,rfl,o⟩<;>(refine Jf o ?_;unhygienic intros)
   refine Yf rfl ?_
   (refine Ja ?_;unhygienic intros)
   refine B2 (cmC c k F X) () ?_;refine Je ?_
   refine Ys fun o=>?_
   have e:rdX X rc=some (slice (X.m.getD j []) a n):=by unfold rdX;rw [em,hp];exact if_neg hb
   exact .inl ⟨_,y,d,e,H93 ok f e,rfl,o.sub⟩
theorem B63 (c k:Nat) (F:Fr) (X:CX) (rc:RecS) (ok:FrOk F) (bs:List UInt8) (g:Bool) (ba:Option Addr) (bc:Nat) (hb:g=true→bs.length=Ac0 rc.kind) :
  Ct A9 I7 [P0 c,.agg ⟨Y9 rc⟩,.slice ba bs.length bc,.bool g] [cmC c k F X,slC false A4 1 ba bs.length bc (A0 bs)] fun v own =>
   v=.bool (wrX X rc bs g).1∧own [cmC c k F (wrX X rc bs g).2,slC false A4 1 ba bs.length bc (A0 bs)]:=by
 refine Ct.of Do6 rfl fun h r=>Tr.eq (Do7 ..) ?_;refine Je ?_
 refine B4 (cmC c k F X) fun u=>?_;refine Je ?_
 refine O7 2 rfl fun f=>?_
 (refine Ja ?_;unhygienic intros)
 refine Yc (Gi7 c k F.env F.caps X.bad rc ok.small ok.ne) ?_;rintro _ h ⟨rfl,o⟩<;>(refine Jg o ?_;unhygienic intros)
 have em:=f.mlen ok
 cases hp:H5 F.caps.length rc with
 | none =>
  (refine Jb ?_;unhygienic intros)
  refine Yb (Yt rfl ?_)
  refine Ys fun o=>(?_:Tr _ _ _ _) o;refine Je ?_
  refine Yb (Yt rfl ?_)
  refine Ys fun o=>(?_:Tr _ _ _ _) o;refine Je ?_
  (refine Ja ?_;unhygienic intros)
  refine B2 (cmC c k F X) () ?_;refine Je ?_
  refine Ys fun o=>?_
  have e:wrX X rc bs g=(false,X):=by unfold wrX;rw [em,hp]
  rw [e]
  exact ⟨by first|rfl|trivial,o.sub⟩
 | some p =>
  obtain ⟨j,a,n⟩:=p
  refine B4 (V2 c k F.env F.caps X.bad) fun ⟨ca,cn,mb⟩=>?_;refine Je ?_
  (refine Jb ?_;unhygienic intros)
  refine Yb (Yf rfl ?_)
  refine Ys fun o=>(?_:Tr _ _ _ _) o;refine Je ?_
  (refine Jb ?_;unhygienic intros)
  refine Tr.orG (c:=decide (rc ∈ X.bad)) (fun _=>?_) ?_
  ·(refine Ja ?_;unhygienic intros)
   rw [Br9,Hd1]
   (refine Ja ?_;unhygienic intros)
   refine Ys fun o=>?_
   rw [Hc2];exact ⟨by first|rfl|trivial,by first|rfl|trivial⟩
  by_cases hg:g=true∧¬ rc ∈ X.bad
  ·have e:wrX X rc bs g=(true,{ X with m:=X.m.set j (J5 (X.m.getD j []) a bs) }):=by unfold wrX;rw [em,hp];exact if_pos hg
   have f2:=Ib2 (r:=rc) (b:=bs) (ok:=g) ok f hb
   rw [e] at f2
   obtain ⟨rfl,hg2⟩:=hg
   rw [e,decide_eq_false hg2]
   refine Yf rfl ?_
   (refine Ja ?_;unhygienic intros)
   refine B2 (V2 c k F.env F.caps X.bad) ⟨ca,cn,mb⟩ ?_;refine Je ?_
   have hl:bs.length=n:=by rw [hb rfl,D27 hp]
   have J:=Dy8 k (F.at X.m) F.N (F.at_ok ok f) ok.hN F.env ⟨2,F.caps.getD j 0,(a:Int),0,0,0,bs⟩ ba bc false (show ((2:Int)≠5) by decide)
   rw [Ic4 ok f hp hl] at J
   refine Yc (J) ?_;rintro _ h ⟨y,d,rfl,o⟩<;>(refine Jf o ?_;unhygienic intros)
   refine Am9 (show Fit F.S.mem.length F.rg (X.m.set j (J5 (X.m.getD j []) a bs)) from f2) ?_
   refine B2 (cmC c k F { X with m:=X.m.set j (J5 (X.m.getD j []) a bs) }) () ?_;refine Je ?_
   refine Ys fun o=>?_
   exact ⟨rfl,o.sub⟩
  ·have e:wrX X rc bs g=(false,X):=by unfold wrX;rw [em,hp];exact if_neg hg
   rw [e]
   refine Yt ?_ ?_
   ·cases g with
    | false=>rfl
    | true=>simpa using hg
   refine B2 (V2 c k F.env F.caps X.bad) ⟨ca,cn,mb⟩ ?_;refine Je ?_
   refine B2 (cmC c k F X) () ?_;refine Je ?_
   refine Ys fun o=>?_
   exact ⟨by first|rfl|trivial,o.sub⟩
def V3 {α:Type} (dec:List UInt8→α × Int) (z:α) (X:CX) (rc:RecS):(α × Int) × CX :=
 match rdX X rc with
 | some l=>(dec l,if (dec l).2=2 then { X with bad:=X.bad++[rc] } else X)
 | none=>((z,2),X)
theorem D34 {X:CX} {rc:RecS} {l:List UInt8} (h:rdX X rc=some l):¬ rc ∈ X.bad:=by
 unfold rdX at h
 split at h
 ·split at h
  ·cases h
  ·assumption
 ·cases h
theorem Hv7 (l:List UInt8) (h:(Z3 l).2≠1):(Z3 l).1=.zero:=by
 unfold Z3 at *;split<;>first|rfl|(split<;>first|rfl|(simp_all;done))
theorem Hn7 (l:List UInt8) (h:(Z4 l).2≠1):(Z4 l).1=.zero:=by
 unfold Z4 at *;split<;>first|rfl|(split<;>first|rfl|(simp_all;done))
theorem Ht8 (l:List UInt8) (h:(P3 l).2≠1):(P3 l).1=.zero:=by
 unfold P3 at *;split<;>first|rfl|(split<;>first|rfl|(simp_all;done))
theorem H77 (c k:Nat) (F:Fr) (X:CX) (rc:RecS) (ok:FrOk F) (hk:Ac0 rc.kind=24):Ct A9 I9 [P0 c,.agg ⟨Y9 rc⟩,.func (.func A23) ⟨[]⟩ ⟨[]⟩] [cmC c k F X] fun v own =>
  v=.tuple ⟨[.agg ⟨D8 (V3 Z3 .zero X rc).1.1⟩,int (V3 Z3 .zero X rc).1.2]⟩∧own [cmC c k F (V3 Z3 .zero X rc).2]:=by
 refine Ct.of An2 rfl fun h r=>Tr.eq (Dc9 ..) ?_;refine Je ?_
 (refine Ja ?_;unhygienic intros)
 refine Yc (D65 c k F X rc ok) ?_
 rintro v h (⟨l,a,cp,hr,hl,rfl,o⟩|⟨hr,rfl,o⟩)
 ·refine (?_:Tr _ _ _ _) o
  refine Je ?_
  have e:V3 Z3 .zero X rc=(Z3 l,if (Z3 l).2=2 then { X with bad:=X.bad++[rc] } else X):=by unfold V3;rw [hr]
  have hb:=D34 hr
  rw [e]
  rw [hk] at hl
  rw [hl]
  (refine Ja ?_;unhygienic intros)
  refine Yc (Hm0 a cp l hl) ?_;rintro _ h ⟨rfl,o⟩<;>(refine Jf o ?_;unhygienic intros)
  by_cases h2:(Z3 l).2=2
  ·refine Yt (by simpa using h2) ?_
   have hz:=Hv7 l (by omega)
   simp only [if_pos h2]
   refine B4 (cmC c k F X) fun u=>?_;refine Je ?_
   refine B4 (V2 c k F.env F.caps X.bad) fun ⟨ca,cn,mb⟩=>?_;refine Je ?_
   (refine Ja ?_;unhygienic intros)
   rw [Br9,if_neg hb]
   (refine Ja ?_;unhygienic intros)
   rw [D50 hb]
   (refine Ja ?_;unhygienic intros)
   rw [Dr7 hb]
   (refine Ja ?_;unhygienic intros)
   rw [B61 X.bad 0 X.bad.length _ 0 rfl (by omega),Nat.zero_add]
   (refine Ja ?_;unhygienic intros)
   rw [D67]
   refine Tr.jmp An2 (Tr.eq (A21 ..) ?_);(try simp only[Nr,Nl,wl,Nat.reduceAdd,Nat.reduceMul,Int.reduceToNat])
   refine Yt (by rw [bne_iff_ne];omega) ?_
   (refine Ja ?_;unhygienic intros)
   rw [show X.bad.length+1=(X.bad++[rc]).length by simp]
   refine B2 (V2 c k F.env F.caps (X.bad++[rc])) ⟨ca,cn,mb⟩ ?_;refine Je ?_
   refine B2 (cmC c k F { X with bad:=X.bad++[rc] }) () ?_;refine Je ?_
   refine Ys fun o=>?_
   exact ⟨by rw [hz]<;>rfl,o.sub⟩
  ·refine Yf (by simpa using h2) ?_
   simp only [if_neg h2]
   refine Tr.jmp An2 (Tr.eq (A21 ..) ?_);(try simp only[Nr,Nl,wl,Nat.reduceAdd,Nat.reduceMul,Int.reduceToNat])
   by_cases h1:(Z3 l).2=1
   ·refine Yf (by simpa using h1) ?_
    (refine Ja ?_;unhygienic intros)
    refine Ys fun o=>?_
    exact ⟨rfl,o.sub⟩
   ·refine Yt (by simpa using h1) ?_
    (refine Ja ?_;unhygienic intros)
    refine Ys fun o=>?_
    exact ⟨by rw [Hv7 l h1]<;>rfl,o.sub⟩
 ·refine (?_:Tr _ _ _ _) o
  refine Je ?_
  have e:V3 Z3 .zero X rc=((.zero,2),X):=by unfold V3;rw [hr]
  rw [e]
  (refine Ja ?_;unhygienic intros)
  refine Ys fun o=>?_
  exact ⟨rfl,o.sub⟩
theorem H85 (c k:Nat) (F:Fr) (X:CX) (rc:RecS) (ok:FrOk F) (hk:Ac0 rc.kind=8):Ct A9 J0 [P0 c,.agg ⟨Y9 rc⟩,.func (.func A14) ⟨[]⟩ ⟨[]⟩] [cmC c k F X] fun v own =>
  v=.tuple ⟨[.agg ⟨Ai1 (V3 Z4 .zero X rc).1.1⟩,int (V3 Z4 .zero X rc).1.2]⟩∧own [cmC c k F (V3 Z4 .zero X rc).2]:=by
 refine Ct.of An9 rfl fun h r=>Tr.eq (De8 ..) ?_;refine Je ?_
 (refine Ja ?_;unhygienic intros)
 refine Yc (D65 c k F X rc ok) ?_
 rintro v h (⟨l,a,cp,hr,hl,rfl,o⟩|⟨hr,rfl,o⟩)
 ·refine (?_:Tr _ _ _ _) o
  refine Je ?_
  have e:V3 Z4 .zero X rc=(Z4 l,if (Z4 l).2=2 then { X with bad:=X.bad++[rc] } else X):=by unfold V3;rw [hr]
  have hb:=D34 hr
  rw [e]
  rw [hk] at hl
  rw [hl]
  (refine Ja ?_;unhygienic intros)
  refine Yc (Hh1 a cp l hl) ?_;rintro _ h ⟨rfl,o⟩<;>(refine Jf o ?_;unhygienic intros)
  by_cases h2:(Z4 l).2=2
  ·refine Yt (by simpa using h2) ?_
   have hz:=Hn7 l (by omega)
   simp only [if_pos h2]
   refine B4 (cmC c k F X) fun u=>?_;refine Je ?_
   refine B4 (V2 c k F.env F.caps X.bad) fun ⟨ca,cn,mb⟩=>?_;refine Je ?_
   (refine Ja ?_;unhygienic intros)
   rw [Br9,if_neg hb]
   (refine Ja ?_;unhygienic intros)
   rw [D50 hb]
   (refine Ja ?_;unhygienic intros)
   rw [Dr7 hb]
   (refine Ja ?_;unhygienic intros)
   rw [B61 X.bad 0 X.bad.length _ 0 rfl (by omega),Nat.zero_add]
   (refine Ja ?_;unhygienic intros)
   rw [D67]
   refine Tr.jmp An9 (Tr.eq (A27 ..) ?_);(try simp only[Nr,Nl,wl,Nat.reduceAdd,Nat.reduceMul,Int.reduceToNat])
   refine Yt (by rw [bne_iff_ne];omega) ?_
   (refine Ja ?_;unhygienic intros)
   rw [show X.bad.length+1=(X.bad++[rc]).length by simp]
   refine B2 (V2 c k F.env F.caps (X.bad++[rc])) ⟨ca,cn,mb⟩ ?_;refine Je ?_
   refine B2 (cmC c k F { X with bad:=X.bad++[rc] }) () ?_;refine Je ?_
   refine Ys fun o=>?_
   exact ⟨by rw [hz]<;>rfl,o.sub⟩
  ·refine Yf (by simpa using h2) ?_
   simp only [if_neg h2]
   refine Tr.jmp An9 (Tr.eq (A27 ..) ?_);(try simp only[Nr,Nl,wl,Nat.reduceAdd,Nat.reduceMul,Int.reduceToNat])
   by_cases h1:(Z4 l).2=1
   ·refine Yf (by simpa using h1) ?_
    (refine Ja ?_;unhygienic intros)
    refine Ys fun o=>?_
    exact ⟨rfl,o.sub⟩
   ·refine Yt (by simpa using h1) ?_
    (refine Ja ?_;unhygienic intros)
    refine Ys fun o=>?_
    exact ⟨by rw [Hn7 l h1]<;>rfl,o.sub⟩
 ·refine (?_:Tr _ _ _ _) o
  refine Je ?_
  have e:V3 Z4 .zero X rc=((.zero,2),X):=by unfold V3;rw [hr]
  rw [e]
  (refine Ja ?_;unhygienic intros)
  refine Ys fun o=>?_
  exact ⟨rfl,o.sub⟩
theorem Hb1 (c k:Nat) (F:Fr) (X:CX) (rc:RecS) (ok:FrOk F) (hk:Ac0 rc.kind=40):Ct A9 H6 [P0 c,.agg ⟨Y9 rc⟩,.func (.func At1) ⟨[]⟩ ⟨[]⟩] [cmC c k F X] fun v own =>
  v=.tuple ⟨[.agg ⟨E3 (V3 P3 .zero X rc).1.1⟩,int (V3 P3 .zero X rc).1.2]⟩∧own [cmC c k F (V3 P3 .zero X rc).2]:=by
 refine Ct.of Am7 rfl fun h r=>Tr.eq (Dc2 ..) ?_;refine Je ?_
 (refine Ja ?_;unhygienic intros)
 refine Yc (D65 c k F X rc ok) ?_
 rintro v h (⟨l,a,cp,hr,hl,rfl,o⟩|⟨hr,rfl,o⟩)
 ·refine (?_:Tr _ _ _ _) o
  refine Je ?_
  have e:V3 P3 .zero X rc=(P3 l,if (P3 l).2=2 then { X with bad:=X.bad++[rc] } else X):=by unfold V3;rw [hr]
  have hb:=D34 hr
  rw [e]
  rw [hk] at hl
  rw [hl]
  (refine Ja ?_;unhygienic intros)
  refine Yc (Hh8 a cp l hl) ?_;rintro _ h ⟨rfl,o⟩<;>(refine Jf o ?_;unhygienic intros)
  by_cases h2:(P3 l).2=2
  ·refine Yt (by simpa using h2) ?_
   have hz:=Ht8 l (by omega)
   simp only [if_pos h2]
   refine B4 (cmC c k F X) fun u=>?_;refine Je ?_
   refine B4 (V2 c k F.env F.caps X.bad) fun ⟨ca,cn,mb⟩=>?_;refine Je ?_
   (refine Ja ?_;unhygienic intros)
   rw [Br9,if_neg hb]
   (refine Ja ?_;unhygienic intros)
   rw [D50 hb]
   (refine Ja ?_;unhygienic intros)
   rw [Dr7 hb]
   (refine Ja ?_;unhygienic intros)
   rw [B61 X.bad 0 X.bad.length _ 0 rfl (by omega),Nat.zero_add]
   (refine Ja ?_;unhygienic intros)
   rw [D67]
   refine Tr.jmp Am7 (Tr.eq (A24 ..) ?_);(try simp only[Nr,Nl,wl,Nat.reduceAdd,Nat.reduceMul,Int.reduceToNat])
   refine Yt (by rw [bne_iff_ne];omega) ?_
   (refine Ja ?_;unhygienic intros)
   rw [show X.bad.length+1=(X.bad++[rc]).length by simp]
   refine B2 (V2 c k F.env F.caps (X.bad++[rc])) ⟨ca,cn,mb⟩ ?_;refine Je ?_
   refine B2 (cmC c k F { X with bad:=X.bad++[rc] }) () ?_;refine Je ?_
   refine Ys fun o=>?_
   exact ⟨by rw [hz]<;>rfl,o.sub⟩
  ·refine Yf (by simpa using h2) ?_
   simp only [if_neg h2]
   refine Tr.jmp Am7 (Tr.eq (A24 ..) ?_);(try simp only[Nr,Nl,wl,Nat.reduceAdd,Nat.reduceMul,Int.reduceToNat])
   by_cases h1:(P3 l).2=1
   ·refine Yf (by simpa using h1) ?_
    (refine Ja ?_;unhygienic intros)
    refine Ys fun o=>?_
    exact ⟨rfl,o.sub⟩
   ·refine Yt (by simpa using h1) ?_
    (refine Ja ?_;unhygienic intros)
    refine Ys fun o=>?_
    exact ⟨by rw [Ht8 l h1]<;>rfl,o.sub⟩
 ·refine (?_:Tr _ _ _ _) o
  refine Je ?_
  have e:V3 P3 .zero X rc=((.zero,2),X):=by unfold V3;rw [hr]
  rw [e]
  (refine Ja ?_;unhygienic intros)
  refine Ys fun o=>?_
  exact ⟨rfl,o.sub⟩
def E62 (g:Int):List UInt8:=[b8 g,211,Br5 [b8 g,211],0]
def Aq7 (l:List UInt8):Int × Int:=if byI l 0<8∧E62 (byI l 0)=l then (byI l 0,1) else (0,2)
theorem Gl5 (g:Int):Ct A9 Ao1 [int g] [] fun v own =>
  (0≤g∧g<8∧∃ a c,v=.tuple ⟨[.slice a 4 c,.bool true]⟩∧own [slC false A4 1 a 4 c (A0 (E62 g))])∨(¬ (0≤g∧g<8)∧v=.tuple ⟨[.slice none 0 0,.bool false]⟩∧own []):=by
 refine Ct.of D42 rfl fun h r=>Tr.eq (D26 ..) ?_;refine Je ?_
 (refine Ja ?_;unhygienic intros)
 by_cases hg:0≤g∧g<8
 ·refine Yf (by simp;omega) ?_
  rw [Bf9]
  refine Yn fun b h=>?_
  rw [show ([.int .u8 ((b8 g).toNat:Int),.int .u8 211]:List Value)=A0 [b8 g,211] from rfl]
  refine Ah6 0 rfl 1 2 rfl (by omega) ?_
  refine Je ?_
  refine Tr.pcall (E35 (slC false A4 1 (some ⟨b,0,none⟩) 2 2 (A0 [b8 g,211])) (some ⟨b,0,none⟩) false 2 2 2 [b8 g,211] 2 (by simp) (by simp [B0])) ?_
  (refine Ja ?_;unhygienic intros)
  rw [show List.take 2 [b8 g,211]=[b8 g,211] from rfl,Dm5]
  refine Tr.xApd ⟨rfl,rfl,by simp [B0]⟩ fun a' c' h'=>?_
  refine Je ?_
  refine Ys fun o=>?_
  exact .inl ⟨hg.1,hg.2,a',c',rfl,(show Own h' (_::slC false A4 1 a' 4 c' (A0 (E62 g))::_) from o).sub⟩
 ·refine Yt (by simp;omega) ?_
  refine Ys fun o=>?_
  exact .inr ⟨hg,rfl,o.sub⟩
theorem H88 (l:List UInt8):∀ (m i:Nat) (r:List UInt8),l.length-i=m→ByteArray.toList.loop ⟨⟨l⟩⟩ i r=r.reverse++l.drop i:=by
 intro m
 induction m with
 | zero =>
  intro i r hm
  unfold ByteArray.toList.loop
  rw [if_neg (show ¬ i<(ByteArray.mk ⟨l⟩).size by show ¬ i<l.length;omega),List.drop_eq_nil_of_le (by omega)];simp
 | succ m ih =>
  intro i r hm
  have hlt:i<l.length:=by omega
  unfold ByteArray.toList.loop
  rw [if_pos (show i<(ByteArray.mk ⟨l⟩).size from hlt),ih (i+1) _ (by omega),List.drop_eq_getElem_cons hlt]
  have:(ByteArray.mk ⟨l⟩).get! i=l[i]:=by
   show (Array.mk l)[i]! = l[i]
   simp [hlt]
  rw [this];simp
theorem Dr1 (l:List UInt8):(ByteArray.mk ⟨l⟩).toList=l:=by
 unfold ByteArray.toList
 rw [H88 l _ 0 [] rfl];simp
theorem Hf0 (a:Option Addr) (c:Nat) (l:List UInt8) (hl:l.length=4):Ct A9 Al2 [.slice a 4 c] [slC false A4 1 a 4 c (A0 l)] fun v own=>v=.tuple ⟨[int (Aq7 l).1,int (Aq7 l).2]⟩∧own [slC false A4 1 a 4 c (A0 l)]:=by
 refine Ct.of Er3 rfl fun h r=>Tr.eq (Eq8 ..) ?_;refine Je ?_
 refine Yf rfl ?_
 (refine Ja ?_;unhygienic intros;repeat(refine Gw ?_;rintro px rfl;refine Ja ?_;unhygienic intros))
 refine Tr.xIntS (v:=byI l 0) (Ab8 (by omega)) ?_
 simp only [byI,Al1]
 refine Yc (Gl5 (byI l 0)) ?_
 rintro v h (⟨h1,h2,a1,c1,rfl,o⟩|⟨hn,rfl,o⟩)
 ·refine (?_:Tr _ _ _ _) o
  refine Je ?_
  (refine Ja ?_;unhygienic intros)
  rw [Dr1,Dr1]
  by_cases he:E62 (byI l 0)=l
  ·have e:Aq7 l=(byI l 0,1):=by unfold Aq7;rw [if_pos ⟨h2,he⟩]
   refine Yf (by simp [he]) ?_
   (refine Ja ?_;unhygienic intros)
   refine Tr.xIntS (v:=byI l 0) (Ab8 (by omega)) ?_
   refine Ys fun o=>?_
   rw [e];exact ⟨by simp only [byI,Al1],o.sub⟩
  ·have e:Aq7 l=(0,2):=by unfold Aq7;rw [if_neg (fun hh=>he hh.2)]
   refine Yt (by simp [he]) ?_
   refine Ys fun o=>?_
   rw [e];exact ⟨rfl,o.sub⟩
 ·refine (?_:Tr _ _ _ _) o
  refine Je ?_
  (refine Jb ?_;unhygienic intros)
  refine Yb (Yt rfl ?_)
  refine Ys fun o=>(?_:Tr _ _ _ _) o;refine Je ?_
  (refine Ja ?_;unhygienic intros)
  refine Ys fun o=>?_
  exact ⟨by unfold Aq7;rw [if_neg (by simp only [byI] at *;omega)],o.sub⟩
theorem Hp1 (l:List UInt8) (h:(Aq7 l).2≠1):(Aq7 l).1=0:=by
 unfold Aq7 at *;split<;>simp_all
theorem H99 (c k:Nat) (F:Fr) (X:CX) (rc:RecS) (ok:FrOk F) (hk:Ac0 rc.kind=4):Ct A9 P1 [P0 c,.agg ⟨Y9 rc⟩,.func (.func Al2) ⟨[]⟩ ⟨[]⟩] [cmC c k F X] fun v own =>
  v=.tuple ⟨[int (V3 Aq7 0 X rc).1.1,int (V3 Aq7 0 X rc).1.2]⟩∧own [cmC c k F (V3 Aq7 0 X rc).2]:=by
 refine Ct.of A65 rfl fun h r=>Tr.eq (D71 ..) ?_;refine Je ?_
 (refine Ja ?_;unhygienic intros)
 refine Yc (D65 c k F X rc ok) ?_
 rintro v h (⟨l,a,cp,hr,hl,rfl,o⟩|⟨hr,rfl,o⟩)
 ·refine (?_:Tr _ _ _ _) o
  refine Je ?_
  have e:V3 Aq7 0 X rc=(Aq7 l,if (Aq7 l).2=2 then { X with bad:=X.bad++[rc] } else X):=by unfold V3;rw [hr]
  have hb:=D34 hr
  rw [e]
  rw [hk] at hl
  rw [hl]
  (refine Ja ?_;unhygienic intros)
  refine Yc (Hf0 a cp l hl) ?_;rintro _ h ⟨rfl,o⟩<;>(refine Jf o ?_;unhygienic intros)
  by_cases h2:(Aq7 l).2=2
  ·refine Yt (by simpa using h2) ?_
   have hz:=Hp1 l (by omega)
   simp only [if_pos h2]
   refine B4 (cmC c k F X) fun u=>?_;refine Je ?_
   refine B4 (V2 c k F.env F.caps X.bad) fun ⟨ca,cn,mb⟩=>?_;refine Je ?_
   (refine Ja ?_;unhygienic intros)
   rw [Br9,if_neg hb]
   (refine Ja ?_;unhygienic intros)
   rw [D50 hb]
   (refine Ja ?_;unhygienic intros)
   rw [Dr7 hb]
   (refine Ja ?_;unhygienic intros)
   rw [B61 X.bad 0 X.bad.length _ 0 rfl (by omega),Nat.zero_add]
   (refine Ja ?_;unhygienic intros)
   rw [D67]
   refine Tr.jmp A65 (Tr.eq (Bi6 ..) ?_);(try simp only[Nr,Nl,wl,Nat.reduceAdd,Nat.reduceMul,Int.reduceToNat])
   refine Yt (by rw [bne_iff_ne];omega) ?_
   rw [show X.bad.length+1=(X.bad++[rc]).length by simp]
   refine B2 (V2 c k F.env F.caps (X.bad++[rc])) ⟨ca,cn,mb⟩ ?_;refine Je ?_
   refine B2 (cmC c k F { X with bad:=X.bad++[rc] }) () ?_;refine Je ?_
   refine Ys fun o=>?_
   exact ⟨by rw [hz],o.sub⟩
  ·refine Yf (by simpa using h2) ?_
   simp only [if_neg h2]
   refine Tr.jmp A65 (Tr.eq (Bi6 ..) ?_);(try simp only[Nr,Nl,wl,Nat.reduceAdd,Nat.reduceMul,Int.reduceToNat])
   by_cases h1:(Aq7 l).2=1
   ·refine Yf (by simpa using h1) ?_
    refine Ys fun o=>?_
    exact ⟨rfl,o.sub⟩
   ·refine Yt (by simpa using h1) ?_
    refine Ys fun o=>?_
    exact ⟨by rw [Hp1 l h1],o.sub⟩
 ·refine (?_:Tr _ _ _ _) o
  refine Je ?_
  have e:V3 Aq7 0 X rc=((0,2),X):=by unfold V3;rw [hr]
  rw [e]
  (refine Ja ?_;unhygienic intros)
  refine Ys fun o=>?_
  exact ⟨rfl,o.sub⟩
abbrev D09 (X:CX) (i:Int):(ProcS × Int) × CX:=V3 Z3 .zero X ⟨1,i⟩
abbrev D55 (X:CX) (i:Int):(FileS × Int) × CX:=V3 Z4 .zero X ⟨2,i⟩
abbrev D29 (X:CX) (i:Int):(PipeS × Int) × CX:=V3 P3 .zero X ⟨3,i⟩
abbrev D31 (X:CX):(PipeS × Int) × CX:=V3 P3 .zero X ⟨4,0⟩
abbrev Ed0 (X:CX):(Int × Int) × CX:=V3 Aq7 0 X ⟨5,0⟩
abbrev Bq9 (X:CX) (i:Int) (p:ProcS):Bool × CX:=wrX X ⟨1,i⟩ (As6 p) (okS p)
abbrev Be8 (X:CX) (i:Int) (p:FileS):Bool × CX:=wrX X ⟨2,i⟩ (Ag7 p) (okF p)
abbrev A74 (X:CX) (i:Int) (p:PipeS):Bool × CX:=wrX X ⟨3,i⟩ (I0 p) (okP p)
abbrev B05 (X:CX) (p:PipeS):Bool × CX:=wrX X ⟨4,0⟩ (I0 p) (okP p)
abbrev H51 (X:CX) (rc:RecS):Bool × CX:=wrX X rc (List.replicate (Ac0 rc.kind) 0) true
theorem Ee4 (X:CX) (rc:RecS) (b:List UInt8):wrX X rc b false=(false,X):=by
 unfold wrX;split<;>simp
theorem Df4 (c k:Nat) (F:Fr) (X:CX) (rc:RecS) (ok:FrOk F):Ct A9 I7 [P0 c,.agg ⟨Y9 rc⟩,.slice none 0 0,.bool false] [cmC c k F X] fun v own=>v=.bool false∧own [cmC c k F X]:=by
 intro h r o
 have o1:Own h (slC false A4 1 none 0 0 (A0 [])::cmC c k F X::r):=o.slNil false A4 (by omega)
 obtain ⟨v,h',e,rfl,o2⟩:=B63 c k F X rc ok [] false none 0 (by simp) h r (o1.perm (.swap _ _ _))
 rw [Ee4] at e o2
 exact ⟨_,h',e,rfl,o2.sub⟩
theorem E19 (i:Int):Ct A9 A30 [int i] [] fun v own=>v=.agg ⟨Y9 ⟨1,i⟩⟩∧own []:=by
 refine Ct.of Gf1 rfl fun h r=>Tr.eq (Gc4 ..) ?_;refine Je ?_
 (refine Ja ?_;unhygienic intros)
 refine Ys fun o=>?_
 exact ⟨rfl,o.sub⟩
theorem Ey6 (i:Int):Ct A9 A33 [int i] [] fun v own=>v=.agg ⟨Y9 ⟨2,i⟩⟩∧own []:=by
 refine Ct.of Gf2 rfl fun h r=>Tr.eq (Ge3 ..) ?_;refine Je ?_
 (refine Ja ?_;unhygienic intros)
 refine Ys fun o=>?_
 exact ⟨rfl,o.sub⟩
theorem E17 (i:Int):Ct A9 A31 [int i] [] fun v own=>v=.agg ⟨Y9 ⟨3,i⟩⟩∧own []:=by
 refine Ct.of Ga1 rfl fun h r=>Tr.eq (Gb8 ..) ?_;refine Je ?_
 (refine Ja ?_;unhygienic intros)
 refine Ys fun o=>?_
 exact ⟨rfl,o.sub⟩
theorem Gx6 (c k:Nat) (F:Fr) (X:CX) (ok:FrOk F) (i:Int):Ct A9 Z7 [P0 c,int i] [cmC c k F X] fun v own=>v=.tuple ⟨[.agg ⟨D8 (D09 X i).1.1⟩,int (D09 X i).1.2]⟩∧own [cmC c k F (D09 X i).2]:=by
 refine Ct.of Dt0 rfl fun h r=>Tr.eq (Ds6 ..) ?_;refine Je ?_
 (refine Ja ?_;unhygienic intros)
 refine Yc (E19 i) ?_;rintro _ h ⟨rfl,o⟩<;>(refine Jf o ?_;unhygienic intros)
 refine Yc (H77 c k F X ⟨1,i⟩ ok rfl) ?_;rintro _ h ⟨rfl,o⟩<;>(refine Jf o ?_;unhygienic intros)
 refine Ys fun o=>?_
 exact ⟨rfl,o.sub⟩
theorem Ez2 (c k:Nat) (F:Fr) (X:CX) (ok:FrOk F) (i:Int):Ct A9 P7 [P0 c,int i] [cmC c k F X] fun v own=>v=.tuple ⟨[.agg ⟨Ai1 (D55 X i).1.1⟩,int (D55 X i).1.2]⟩∧own [cmC c k F (D55 X i).2]:=by
 refine Ct.of Ds5 rfl fun h r=>Tr.eq (Dv8 ..) ?_;refine Je ?_
 (refine Ja ?_;unhygienic intros)
 refine Yc (Ey6 i) ?_;rintro _ h ⟨rfl,o⟩<;>(refine Jf o ?_;unhygienic intros)
 refine Yc (H85 c k F X ⟨2,i⟩ ok rfl) ?_;rintro _ h ⟨rfl,o⟩<;>(refine Jf o ?_;unhygienic intros)
 refine Ys fun o=>?_
 exact ⟨rfl,o.sub⟩
theorem Ez3 (c k:Nat) (F:Fr) (X:CX) (ok:FrOk F) (i:Int):Ct A9 P6 [P0 c,int i] [cmC c k F X] fun v own=>v=.tuple ⟨[.agg ⟨E3 (D29 X i).1.1⟩,int (D29 X i).1.2]⟩∧own [cmC c k F (D29 X i).2]:=by
 refine Ct.of Ds9 rfl fun h r=>Tr.eq (Dt7 ..) ?_;refine Je ?_
 (refine Ja ?_;unhygienic intros)
 refine Yc (E17 i) ?_;rintro _ h ⟨rfl,o⟩<;>(refine Jf o ?_;unhygienic intros)
 refine Yc (Hb1 c k F X ⟨3,i⟩ ok rfl) ?_;rintro _ h ⟨rfl,o⟩<;>(refine Jf o ?_;unhygienic intros)
 refine Ys fun o=>?_
 exact ⟨rfl,o.sub⟩
theorem Gr1 (c k:Nat) (F:Fr) (X:CX) (ok:FrOk F):Ct A9 P9 [P0 c] [cmC c k F X] fun v own=>v=.tuple ⟨[.agg ⟨E3 (D31 X).1.1⟩,int (D31 X).1.2]⟩∧own [cmC c k F (D31 X).2]:=by
 refine Ct.of Dw2 rfl fun h r=>Tr.eq (Dw0 ..) ?_;refine Je ?_
 (refine Ja ?_;unhygienic intros)
 refine Yc (Hb1 c k F X ⟨4,0⟩ ok rfl) ?_;rintro _ h ⟨rfl,o⟩<;>(refine Jf o ?_;unhygienic intros)
 refine Ys fun o=>?_
 exact ⟨rfl,o.sub⟩
theorem Ho5 (c k:Nat) (F:Fr) (X:CX) (ok:FrOk F):Ct A9 Af7 [P0 c] [cmC c k F X] fun v own=>v=.tuple ⟨[int (Ed0 X).1.1,.bool ((Ed0 X).1.2==1)]⟩∧own [cmC c k F (Ed0 X).2]:=by
 refine Ct.of Do4 rfl fun h r=>Tr.eq (Do8 ..) ?_;refine Je ?_
 (refine Ja ?_;unhygienic intros)
 refine Yc (H99 c k F X ⟨5,0⟩ ok rfl) ?_;rintro _ h ⟨rfl,o⟩<;>(refine Jf o ?_;unhygienic intros)
 refine Ys fun o=>?_
 exact ⟨rfl,o.sub⟩
theorem Dj0 (f:FileS):(Ag7 f).length=8:=rfl
theorem G34 (c k:Nat) (F:Fr) (X:CX) (ok:FrOk F) (i:Int) (p:ProcS):Ct A9 Ab6 [P0 c,int i,.agg ⟨D8 p⟩] [cmC c k F X] fun v own=>v=.bool (Bq9 X i p).1∧own [cmC c k F (Bq9 X i p).2]:=by
 refine Ct.of Dg1 rfl fun h r=>Tr.eq (Dc1 ..) ?_;refine Je ?_
 (refine Ja ?_;unhygienic intros)
 refine Yc (E47 p) ?_
 rintro v h (⟨hk,a,rfl,o⟩|⟨hk,rfl,o⟩)
 ·refine (?_:Tr _ _ _ _) o
  refine Je ?_
  (refine Ja ?_;unhygienic intros)
  refine Yc (E19 i) ?_;rintro _ h ⟨rfl,o⟩<;>(refine Jf o ?_;unhygienic intros)
  have J:=B63 c k F X ⟨1,i⟩ ok (As6 p) true a 24 (fun _=>D43 p)
  rw [D43] at J
  refine Yc (J) ?_;rintro _ h ⟨rfl,o⟩<;>(refine Jf o ?_;unhygienic intros)
  refine Ys fun o=>?_
  unfold Bq9;rw [hk]
  exact ⟨rfl,o.sub⟩
 ·refine (?_:Tr _ _ _ _) o
  refine Je ?_
  (refine Ja ?_;unhygienic intros)
  refine Yc (E19 i) ?_;rintro _ h ⟨rfl,o⟩<;>(refine Jf o ?_;unhygienic intros)
  refine Yc (Df4 c k F X ⟨1,i⟩ ok) ?_;rintro _ h ⟨rfl,o⟩<;>(refine Jf o ?_;unhygienic intros)
  refine Ys fun o=>?_
  unfold Bq9;rw [hk,Ee4]
  exact ⟨rfl,o.sub⟩
theorem Et7 (c k:Nat) (F:Fr) (X:CX) (ok:FrOk F) (i:Int) (p:FileS):Ct A9 R0 [P0 c,int i,.agg ⟨Ai1 p⟩] [cmC c k F X] fun v own=>v=.bool (Be8 X i p).1∧own [cmC c k F (Be8 X i p).2]:=by
 refine Ct.of Dg2 rfl fun h r=>Tr.eq (Df7 ..) ?_;refine Je ?_
 (refine Ja ?_;unhygienic intros)
 refine Yc (E83 p) ?_
 rintro v h (⟨hk,a,rfl,o⟩|⟨hk,rfl,o⟩)
 ·refine (?_:Tr _ _ _ _) o
  refine Je ?_
  (refine Ja ?_;unhygienic intros)
  refine Yc (Ey6 i) ?_;rintro _ h ⟨rfl,o⟩<;>(refine Jf o ?_;unhygienic intros)
  have J:=B63 c k F X ⟨2,i⟩ ok (Ag7 p) true a 8 (fun _=>Dj0 p)
  rw [Dj0] at J
  refine Yc (J) ?_;rintro _ h ⟨rfl,o⟩<;>(refine Jf o ?_;unhygienic intros)
  refine Ys fun o=>?_
  unfold Be8;rw [hk]
  exact ⟨rfl,o.sub⟩
 ·refine (?_:Tr _ _ _ _) o
  refine Je ?_
  (refine Ja ?_;unhygienic intros)
  refine Yc (Ey6 i) ?_;rintro _ h ⟨rfl,o⟩<;>(refine Jf o ?_;unhygienic intros)
  refine Yc (Df4 c k F X ⟨2,i⟩ ok) ?_;rintro _ h ⟨rfl,o⟩<;>(refine Jf o ?_;unhygienic intros)
  refine Ys fun o=>?_
  unfold Be8;rw [hk,Ee4]
  exact ⟨rfl,o.sub⟩
theorem Eu0 (c k:Nat) (F:Fr) (X:CX) (ok:FrOk F) (i:Int) (p:PipeS):Ct A9 Q8 [P0 c,int i,.agg ⟨E3 p⟩] [cmC c k F X] fun v own=>v=.bool (A74 X i p).1∧own [cmC c k F (A74 X i p).2]:=by
 refine Ct.of De3 rfl fun h r=>Tr.eq (Dc6 ..) ?_;refine Je ?_
 (refine Ja ?_;unhygienic intros)
 refine Yc (D89 p) ?_
 rintro v h (⟨hk,a,rfl,o⟩|⟨hk,rfl,o⟩)
 ·refine (?_:Tr _ _ _ _) o
  refine Je ?_
  (refine Ja ?_;unhygienic intros)
  refine Yc (E17 i) ?_;rintro _ h ⟨rfl,o⟩<;>(refine Jf o ?_;unhygienic intros)
  have J:=B63 c k F X ⟨3,i⟩ ok (I0 p) true a 40 (fun _=>Ax3 p.len)
  rw [Ax3 p.len] at J
  refine Yc (J) ?_;rintro _ h ⟨rfl,o⟩<;>(refine Jf o ?_;unhygienic intros)
  refine Ys fun o=>?_
  unfold A74;rw [hk]
  exact ⟨rfl,o.sub⟩
 ·refine (?_:Tr _ _ _ _) o
  refine Je ?_
  (refine Ja ?_;unhygienic intros)
  refine Yc (E17 i) ?_;rintro _ h ⟨rfl,o⟩<;>(refine Jf o ?_;unhygienic intros)
  refine Yc (Df4 c k F X ⟨3,i⟩ ok) ?_;rintro _ h ⟨rfl,o⟩<;>(refine Jf o ?_;unhygienic intros)
  refine Ys fun o=>?_
  unfold A74;rw [hk,Ee4]
  exact ⟨rfl,o.sub⟩
def Df5 (f:CX→Int→CX):Nat→Int→CX→CX
 | 0,_,X=>X
 | m+1,i,X=>Df5 f m (i+1) (f X i)
def E66 (X:CX):CX:=(Ed0 (D31 X).2).2
def Gs0 (nc:Nat) (X:CX):CX:=E66 (Df5 (fun X i=>(D29 X i).2) (3+nc) 0 X)
def Gu4 (nc:Nat) (X:CX):CX:=Gs0 nc (Df5 (fun X i=>(D55 X i).2) 12 0 X)
def lookN (nc:Nat) (X:CX):CX:=Gu4 nc (Df5 (fun X i=>(D09 X i).2) 8 0 X)
def E48 (X:CX):CX:=lookN X.m.length X
theorem Hh7 (c k:Nat) (F:Fr) (ok:FrOk F):∀ (m:Nat) (i:Int) (X:CX),0≤i→i+m=3+F.caps.length →
  CtJ I4 B8 Ac2 [(0,P0 c),(20,int (3+F.caps.length)),(21,int i)] [cmC c k F X] fun v own=>v=.tuple ⟨[]⟩∧own [cmC c k F (E66 (Df5 (fun X i=>(D29 X i).2) m i X))]:=by
 have hs:=ok.small
 intro m
 induction m with
 | zero =>
  intro i X h0 hi
  refine CtJ.of M7 fun h r=>Tr.eq (Bc7 ..) ?_;refine Je ?_
  refine Yf (by simp;omega) ?_
  refine Yc (Gr1 c k F X ok) ?_;rintro _ h ⟨rfl,o⟩<;>(refine Jf o ?_;unhygienic intros)
  refine Yc (Ho5 c k F (D31 X).2 ok) ?_;rintro _ h ⟨rfl,o⟩<;>(refine Jf o ?_;unhygienic intros)
  refine Ys fun o=>?_
  exact ⟨rfl,o⟩
 | succ m ih =>
  intro i X h0 hi
  have e1:IntKind.wrap .i64 (i+1)=i+1:=by rw [A8];omega
  refine CtJ.of M7 fun h r=>Tr.eq (Bc7 ..) ?_;refine Je ?_
  refine Yt (by simp;omega) ?_
  refine Yc (Ez3 c k F X ok i) ?_;rintro _ h ⟨rfl,o⟩<;>(refine Jf o ?_;unhygienic intros)
  rw [e1]
  refine Yr (ih (i+1) (D29 X i).2 (by omega) (by omega)) ?_
  rintro _ h ⟨rfl,o⟩
  exact ⟨rfl,o⟩
theorem Hj0 (c k:Nat) (F:Fr) (ok:FrOk F):∀ (m:Nat) (i:Int) (X:CX),0≤i→i+m=12 →
  CtJ I4 B8 Ab5 [(0,P0 c),(12,int i)] [cmC c k F X] fun v own=>v=.tuple ⟨[]⟩∧own [cmC c k F (Gs0 F.caps.length (Df5 (fun X i=>(D55 X i).2) m i X))]:=by
 have hs:=ok.small
 intro m
 induction m with
 | zero =>
  intro i X h0 hi
  refine CtJ.of M7 fun h r=>Tr.eq (Bc3 ..) ?_;refine Je ?_
  refine Yf (by simp;omega) ?_
  refine B4 (cmC c k F X) fun u=>?_;refine Je ?_
  refine Tr.pcall (Gq6 c k F.env F.caps X.bad 3 ok.small) ?_;refine Je ?_;(refine Ja ?_;unhygienic intros)
  refine B2 (cmC c k F X) () ?_;refine Je ?_
  refine Yr (Hh7 c k F ok (3+F.caps.length) 0 X (by omega) (by omega)) ?_
  rintro _ h ⟨rfl,o⟩
  exact ⟨rfl,o⟩
 | succ m ih =>
  intro i X h0 hi
  have e1:IntKind.wrap .i64 (i+1)=i+1:=by rw [A8];omega
  refine CtJ.of M7 fun h r=>Tr.eq (Bc3 ..) ?_;refine Je ?_
  refine Yt (by simp;omega) ?_
  refine Yc (Ez2 c k F X ok i) ?_;rintro _ h ⟨rfl,o⟩<;>(refine Jf o ?_;unhygienic intros)
  rw [e1]
  refine Yr (ih (i+1) (D55 X i).2 (by omega) (by omega)) ?_
  rintro _ h ⟨rfl,o⟩
  exact ⟨rfl,o⟩
theorem Hl0 (c k:Nat) (F:Fr) (ok:FrOk F):∀ (m:Nat) (i:Int) (X:CX),0≤i→i+m=8 →
  CtJ I4 B8 Ac1 [(0,P0 c),(5,int i)] [cmC c k F X] fun v own=>v=.tuple ⟨[]⟩∧own [cmC c k F (Gu4 F.caps.length (Df5 (fun X i=>(D09 X i).2) m i X))]:=by
 intro m
 induction m with
 | zero =>
  intro i X h0 hi
  refine CtJ.of M7 fun h r=>Tr.eq (Bb0 ..) ?_;refine Je ?_
  refine Yf (by simp;omega) ?_
  refine Yr (Hj0 c k F ok 12 0 X (by omega) (by omega)) ?_
  rintro _ h ⟨rfl,o⟩
  exact ⟨rfl,o⟩
 | succ m ih =>
  intro i X h0 hi
  have e1:IntKind.wrap .i64 (i+1)=i+1:=by rw [A8];omega
  refine CtJ.of M7 fun h r=>Tr.eq (Bb0 ..) ?_;refine Je ?_
  refine Yt (by simp;omega) ?_
  refine Yc (Gx6 c k F X ok i) ?_;rintro _ h ⟨rfl,o⟩<;>(refine Jf o ?_;unhygienic intros)
  rw [e1]
  refine Yr (ih (i+1) (D09 X i).2 (by omega) (by omega)) ?_
  rintro _ h ⟨rfl,o⟩
  exact ⟨rfl,o⟩
theorem Hb3 (c k:Nat) (F:Fr) (X:CX) (ok:FrOk F):Ct A9 B8 [P0 c] [cmC c k F X] fun v own=>v=.tuple ⟨[]⟩∧own [cmC c k F (E48 X)]:=by
 refine Ct.of M7 rfl fun h r=>Tr.eq (Dv2 ..) ?_;refine Je ?_
 intro o
 obtain ⟨u,o1⟩:=Own.unfold (cmC c k F X) o
 have f:=(Own.front o1 (i:=2) rfl).pure
 have e:E48 X=lookN F.caps.length X:=by unfold E48;rw [f.mlen ok]
 rw [e]
 refine (?_:Tr _ _ _ _) o
 refine Yr (Hl0 c k F ok 8 0 X (by omega) (by omega)) ?_
 rintro _ h ⟨rfl,o⟩
 exact ⟨rfl,o⟩
end Go.EQ
