/- A file that never waits is told so where another one would block; it is so for all who have it; no conditions. -/
import Derived.Test.YtnmdbfbjdhgmlaaGreatMf
set_option linter.all false
set_option maxRecDepth 10000
namespace Go.EQ
open Go Go.NN
theorem S8 (l:List UInt8):(A0 l).length=l.length:=by simp [A0]
theorem D01 {l:List UInt8} {i:Nat} {x:UInt8} (h:l[i]?=some x):(A0 l)[i]?=some (.int .u8 x.toNat):=by
 unfold A0;rw [List.getElem?_map,h];rfl
theorem Ia6 (l:List UInt8) (x:Nat):(A0 l).take x=A0 (l.take x):=by unfold A0;rw [List.map_take]
theorem Ie9 (l m:List UInt8):A0 (l++m)=A0 l++A0 m:=by simp [A0]
def D53 (n:Int) (l:List UInt8):Int:=l.foldl (fun n c=>IntKind.wrap .u8 (n+c.toNat)) n
def Gh1 (l:List UInt8):Int:=D53 (IntKind.wrap .u8 l.length) l
theorem Hy9 (p:HP) (a:Option Addr) (ro:Bool) (n c d:Nat) (l:List UInt8) [ks:IsSl p a ro A2 1 n c (A0 l)] (x:Nat) (hx:x≤l.length) (hl:l.length≤A8):∀ (m i:Nat) (acc:Int),x-i=m→i≤x →
  U6 I8 Aa4 Bh1 [(3,.int .u8 acc),(9,.slice a x d),(10,int x),(11,int i)] [p] (.int .u8 (D53 acc ((l.take x).drop i))):=by
 intro m
 induction m with
 | zero =>
  intro i acc hm hi
  refine U6.of Dv0 fun h r=>Tr.eq (Dy5 ..) ?_;refine Je ?_
  refine Yf (by simp;omega) ?_
  refine Ys fun o=>?_
  rw [List.drop_eq_nil_of_le (by simp;omega)];exact ⟨rfl,rfl⟩
 | succ m ih =>
  intro i acc hm hi
  have hlt:i<(l.take x).length:=by rw [List.length_take];omega
  have hp:l[i]?=some (l.take x)[i]:=by
   rw [List.getElem_take];exact List.getElem?_eq_getElem (by omega)
  have hd:(l.take x).drop i=(l.take x)[i]::(l.take x).drop (i+1):=List.drop_eq_getElem_cons hlt
  generalize (l.take x)[i]=y at hp hd
  have e1:IntKind.wrap .i64 ((i:Int)+1)=((i+1:Nat):Int):=by rw [A7];simp only [A8] at hl;omega
  refine U6.of Dv0 fun h r=>Tr.eq (Dy5 ..) ?_;refine Je ?_
  refine Yt (by simp;omega) ?_
  refine Q9 0 rfl fun h1 h2 h3=>?_
  rw [S8] at h1
  (refine Ja ?_;unhygienic intros;repeat(refine Gw ?_;rintro px rfl;refine Ja ?_;unhygienic intros))
  refine Tr.xIntS (v:=y.toNat) (by simpa using D01 hp) ?_
  rw [e1,hd]
  exact Y3 (ih (i+1) _ (by omega) (by omega)) (r:=r) (by simp) fun o=>⟨rfl,rfl⟩
theorem E42 (p:HP) (a:Option Addr) (ro:Bool) (n c d:Nat) (l:List UInt8) [ks:IsSl p a ro A2 1 n c (A0 l)] (x:Nat) (hx:x≤l.length) (hl:l.length≤A8) :
  CtP A6 Aa4 [.slice a x d] [p] (.int .u8 (Gh1 (l.take x))):=by
 refine CtP.of Dv0 rfl fun h r=>Tr.eq (G97 ..) ?_;refine Je ?_
 have e:(l.take x).length=x:=by rw [List.length_take];omega
 have J:=Hy9 p a ro n c d l x hx hl _ 0 (IntKind.wrap .u8 x) rfl (by omega)
 rw [List.drop_zero] at J
 refine Y3 J (r:=r) (by simp) fun o=>⟨?_,rfl⟩
 unfold Gh1;rw [e]
def Dt4:Nat→List UInt8→Int
 | _,[]=>-1
 | i,x::l=>if x≠0 then i else Dt4 (i+1) l
theorem Gi9:∀ (l:List UInt8) (i:Nat),decide (Dt4 i l≥0)=!l.all (·==0)
 | [],i=>by simp [Dt4]
 | x::l,i=>by
  unfold Dt4
  by_cases h:x=0
  ·rw [if_neg (by simp [h]),Gi9 l (i+1)];simp [h]
  ·rw [if_pos h];simp [h]
theorem Ik5 (x:UInt8):CtP A6 Ad7 [.int .u8 x.toNat] [] (.bool (x != 0)):=by
 refine CtP.of E69 rfl fun h r=>Tr.eq (E62 ..) ?_;refine Je ?_
 refine Ys fun o=>?_
 refine ⟨?_,rfl⟩
 congr 1
 have:((x.toNat:Int)=0)↔x=0:=by
  constructor
  ·intro h;exact UInt8.toNat.inj (by simpa using (show x.toNat=0 by omega))
  ·rintro rfl;rfl
 by_cases h:x=0
 ·subst h;rfl
 ·rw [bne_iff_ne.2 h,bne_iff_ne];intro h2;exact h (this.1 h2)
theorem E07 (p:HP) (a:Option Addr) (ro:Bool) (c:Nat) (l:List UInt8) [ks:IsSl p a ro A2 1 l.length c (A0 l)] (hl:l.length≤A8):∀ (m i:Nat),l.length-i=m→i≤l.length →
  U6 I8 G1 P4 [(0,.slice a l.length c),(1,.func (.func Ad7) ⟨[]⟩ ⟨[]⟩),(7,int l.length),(8,int i)] [p] (int (Dt4 i (l.drop i))):=by
 intro m
 induction m with
 | zero =>
  intro i hm hi
  refine U6.of Ad9 fun h r=>Tr.eq (Aq0 ..) ?_;refine Je ?_
  refine Yf (by simp;omega) ?_
  refine Ys fun o=>?_
  rw [List.drop_eq_nil_of_le (by omega)];exact ⟨rfl,rfl⟩
 | succ m ih =>
  intro i hm hi
  have hlt:i<l.length:=by omega
  have hp:l[i]?=some l[i]:=List.getElem?_eq_getElem hlt
  have hd:l.drop i=l[i]::l.drop (i+1):=List.drop_eq_getElem_cons hlt
  generalize l[i]=x at hp hd
  have e1:IntKind.wrap .i64 ((i:Int)+1)=((i+1:Nat):Int):=by rw [A7];simp only [A8] at hl;omega
  refine U6.of Ad9 fun h r=>Tr.eq (Aq0 ..) ?_;refine Je ?_
  refine Yt (by simp;omega) ?_
  (refine Ja ?_;unhygienic intros;repeat(refine Gw ?_;rintro px rfl;refine Ja ?_;unhygienic intros))
  refine Tr.xIntS (v:=x.toNat) (by simpa using D01 hp) ?_
  (refine Ja ?_;unhygienic intros)
  refine Bt8 (Ik5 x) (r:=p::r) (by simp) ?_
  by_cases hx:x=0
  ·have:(x != 0)=false:=by simp [hx]
   rw [this]
   (refine Ja ?_;unhygienic intros)
   rw [e1]
   refine Y3 (ih (i+1) (by omega) (by omega)) (r:=r) (by simp) fun o=>?_
   rw [hd,Dt4,if_neg (by simp [hx])];exact ⟨by first|rfl|trivial,by first|rfl|trivial⟩
  ·have:(x != 0)=true:=by simp [hx]
   rw [this]
   (refine Ja ?_;unhygienic intros)
   refine Ys fun o=>?_
   rw [hd,Dt4,if_pos hx];exact ⟨by first|rfl|trivial,by first|rfl|trivial⟩
theorem H30 (p:HP) (a:Option Addr) (ro:Bool) (c:Nat) (l:List UInt8) [ks:IsSl p a ro A2 1 l.length c (A0 l)] (hl:l.length≤A8) :
  CtP A6 Ak8 [.slice a l.length c] [p] (.bool (l.all (·==0))):=by
 have j:CtP A6 G1 [.slice a l.length c,.func (.func Ad7) ⟨[]⟩ ⟨[]⟩] [p] (int (Dt4 0 l)):=by
  refine CtP.of Ad9 rfl fun h r=>Tr.eq (Bx7 ..) ?_;refine Je ?_
  exact Y3 (E07 p a ro c l hl _ 0 rfl (by omega)) (r:=r) (by simp) fun o=>⟨rfl,rfl⟩
 have j2:CtP A6 P2 [.slice a l.length c,.func (.func Ad7) ⟨[]⟩ ⟨[]⟩] [p] (.bool (!l.all (·==0))):=by
  refine CtP.of Bm5 rfl fun h r=>Tr.eq (Bm7 ..) ?_;refine Je ?_
  refine Bt8 j (r:=r) (by simp) ?_
  (refine Ja ?_;unhygienic intros)
  refine Ys fun o=>?_
  rw [Gi9];exact ⟨by first|rfl|trivial,by first|rfl|trivial⟩
 refine CtP.of Go6 rfl fun h r=>Tr.eq (Gq7 ..) ?_;refine Je ?_
 refine Bt8 j2 (r:=r) (by simp) ?_
 (refine Ja ?_;unhygienic intros)
 refine Ys fun o=>?_
 exact ⟨by simp,rfl⟩
theorem Gz1 (p q:HP) (a:Option Addr) (ro:Bool) (c:Nat) (a2:Option Addr) (ro2:Bool) (c2:Nat) (l m:List UInt8) [ks:IsSl p a ro A2 1 l.length c (A0 l)] [ks2:IsSl q a2 ro2 A2 1 m.length c2 (A0 m)] (hl:l.length≤A8) (hlm:m.length=l.length):∀ (k i:Nat),l.length-i=k→i≤l.length →
  U6 I8 D4 V4 [(0,.slice a l.length c),(1,.slice a2 m.length c2),(12,int l.length),(13,int i)] [p,q] (.bool (decide (l.drop i=m.drop i))):=by
 intro k
 induction k with
 | zero =>
  intro i hm hi
  refine U6.of Ak7 fun h r=>Tr.eq (Az8 ..) ?_;refine Je ?_
  refine Yf (by simp;omega) ?_
  refine Ys fun o=>?_
  rw [List.drop_eq_nil_of_le (by omega),List.drop_eq_nil_of_le (by omega)];exact ⟨rfl,rfl⟩
 | succ k ih =>
  intro i hm hi
  have hlt:i<l.length:=by omega
  have hp:l[i]?=some l[i]:=List.getElem?_eq_getElem hlt
  have hd:l.drop i=l[i]::l.drop (i+1):=List.drop_eq_getElem_cons hlt
  have hlt2:i<m.length:=by omega
  have hp2:m[i]?=some m[i]:=List.getElem?_eq_getElem hlt2
  have hd2:m.drop i=m[i]::m.drop (i+1):=List.drop_eq_getElem_cons hlt2
  generalize l[i]=x at hp hd
  generalize m[i]=y at hp2 hd2
  have e1:IntKind.wrap .i64 ((i:Int)+1)=((i+1:Nat):Int):=by rw [A7];simp only [A8] at hl;omega
  refine U6.of Ak7 fun h r=>Tr.eq (Az8 ..) ?_;refine Je ?_
  refine Yt (by simp;omega) ?_
  (refine Ja ?_;unhygienic intros;repeat(refine Gw ?_;rintro px rfl;refine Ja ?_;unhygienic intros))
  refine Tr.xIntS (v:=x.toNat) (by simpa using D01 hp) ?_
  (refine Ja ?_;unhygienic intros;repeat(refine Gw ?_;rintro px rfl;refine Ja ?_;unhygienic intros))
  refine Tr.xIntS (v:=y.toNat) (by simpa using D01 hp2) ?_
  by_cases hx:x=y
  ·subst hx
   refine Yf (by simp) ?_
   rw [e1]
   refine Y3 (ih (i+1) (by omega) (by omega)) (r:=r) (by simp) fun o=>?_
   rw [hd,hd2];exact ⟨by simp,rfl⟩
  ·refine Yt (by rw [bne_iff_ne];intro h2;exact hx (UInt8.toNat.inj (by omega))) ?_
   refine Ys fun o=>?_
   rw [hd,hd2];exact ⟨by simp [hx],rfl⟩
theorem Ee2 (p q:HP) (a:Option Addr) (ro:Bool) (c:Nat) (a2:Option Addr) (ro2:Bool) (c2:Nat) (l m:List UInt8) [ks:IsSl p a ro A2 1 l.length c (A0 l)] [ks2:IsSl q a2 ro2 A2 1 m.length c2 (A0 m)] (hl:l.length≤A8) :
  CtP A6 D4 [.slice a l.length c,.slice a2 m.length c2] [p,q] (.bool (decide (l=m))):=by
 refine CtP.of Ak7 rfl fun h r=>Tr.eq (Db7 ..) ?_;refine Je ?_
 by_cases h:m.length=l.length
 ·refine Yf (by simp [h]) ?_
  have J:=Gz1 p q a ro c a2 ro2 c2 l m hl h _ 0 rfl (by omega)
  simp only [List.drop_zero] at J
  exact Y3 J (r:=r) (by simp) fun o=>⟨rfl,rfl⟩
 ·refine Yt (by rw [bne_iff_ne];omega) ?_
  refine Ys fun o=>?_
  exact ⟨by rw [decide_eq_false (fun e=>h (by rw [e]))],rfl⟩
theorem Hw7 (p:HP) (ro:Bool) (a:Option Addr) (c:Nat) (l:List UInt8) [ks:IsSl p a ro A2 1 l.length c (A0 l)] (hn:l.length≤A8) :
  Ct A6 G4 [.slice a l.length c] [p] fun v own=>∃ a' c',v=.slice a' l.length c'∧own [slC false A2 1 a' l.length c' (A0 l),p]:=by
 refine Ct.of Ba4 rfl fun h r=>Tr.eq (A94 ..) ?_;refine Je ?_
 refine Q9 0 rfl fun hl hc _=>?_
 refine Tr.cond (fun hb=>?_) fun hb=>?_
 ·obtain rfl:a=none:=by simpa using hb
  refine G7 false A2 1 (by omega) ?_
  intro o
  have o1:=(o.tail.head ks.en).slNone
  obtain rfl:l=[]:=by
   have:=o1.2.2.1
   cases l with
   | nil=>rfl
   | cons x l=>simp [A0] at this
  obtain rfl:c=0:=o1.2.1
  exact ⟨_,_,rfl,none,0,rfl,o⟩
 ·(refine Ja ?_;unhygienic intros)
  refine W6 0 rfl 1 0 rfl (by omega) ?_;refine Je ?_
  (refine Ja ?_;unhygienic intros)
  refine Tr.xApd ⟨by simp [A0],by simp [A0,Value.oneCell],by omega⟩ fun a' c' h'=>?_
  refine Je ?_
  refine Ys fun o=>⟨a',c',by simp,by simpa using o⟩
end Go.EQ
namespace Go.NN
section
variable {l:List HP} {h:H} {α:Type} {Q:α→H→Prop} {ro:Bool} {e:TypeId} {cs:List Value}
instance {f:Fn} {a c:Array Value} {k:Option α}:Dx (one (.func f a c) k) k:=⟨rfl⟩
theorem Tr.xPCells {a:Option Addr} {n c sz:Nat} {vs cs':List Value} {l':List HP} {k:H→Option (α × H)} [k1:LkO l a false e sz n c cs] (hn:0<n) (hj:vs≠[]∧vs.length≤cs.length∧vs.all Value.oneCell=true∧vs++cs.drop vs.length=cs') [k2:UpO l a (slC false e sz a n c cs') e sz n c cs l'] (t:∀ h',Tr l' h' (k h') Q):Tr l h (NN.pCells a vs h k) Q:=fun ow=>by
 obtain ⟨i,p,hi,hp⟩:=k1.ix
 obtain ⟨y,rfl⟩:=((ow.front hi).head hp).slSome hn
 have:NN.pCells (Option.some y) vs h k=NN.pAgg ((A9 y).add 0) vs h k:=by
  show NN.pAgg (A9 y) vs h k=_
  congr 1
 rw [this]
 exact Tr.xPAggS (k1:=k1) ⟨hj.1,by omega,hj.2.2.1,by simpa using hj.2.2.2⟩ (k2:=k2) t ow
end
end Go.NN

set_option maxRecDepth 10000
namespace Go.EQ
open Go Go.NN
def b8 (x:Int):UInt8:=UInt8.ofNat (x%256).toNat
theorem Dg1 (x:Int):IntKind.wrap .u8 x=x%256:=H45 x
theorem Bf0 (x:Int):IntKind.wrap .u8 x=((b8 x).toNat:Int):=by
 rw [Dg1,b8,UInt8.toNat_ofNat']
 omega
def Bp2 (l:List UInt8):UInt8:=b8 (Gh1 l)
theorem Gu5:∀ (l:List UInt8) (n:Int),0≤n∧n<256→0≤D53 n l∧D53 n l<256
 | [],n,h=>h
 | x::l,n,h=>Gu5 l _ (by show 0≤IntKind.wrap .u8 (n+x.toNat)∧IntKind.wrap .u8 (n+x.toNat)<256;rw [Dg1];omega)
theorem Dj4 (l:List UInt8):Gh1 l=((Bp2 l).toNat:Int):=by
 have:=Gu5 l (IntKind.wrap .u8 l.length) (by rw [Dg1];omega)
 unfold Bp2
 rw [← Bf0,Dg1]
 unfold Gh1 at *;omega
structure FileS where
 kind:Int
 pipe:Int
 refs:Int
 flags:Int
abbrev FileS.zero:FileS:=⟨0,0,0,0⟩
abbrev Ae6 (f:FileS):List Value:=[int f.kind,int f.pipe,int f.refs,int f.flags]
def okF (f:FileS):Bool:=decide (f.kind≥1) && decide (f.kind≤3) && decide (f.pipe≥0) && decide (f.pipe≤7) && (f.kind != 3 || f.pipe==0) && decide (f.refs≥1) && decide (f.refs≤64) && (f.flags==0 || f.flags==1)
def A80 (f:FileS):List UInt8:=[b8 f.kind,b8 f.pipe,b8 f.refs,b8 f.flags,179]
def Ah4 (f:FileS):List UInt8:=A80 f++[Bp2 (A80 f),0,0]
theorem If8 (f:FileS):Ct A6 Dg7 [.agg ⟨Ae6 f⟩] [] fun v own=>v=.bool (okF f)∧own []:=by
 refine Ct.of Hk7 rfl fun h r=>Tr.eq (Hn7 ..) ?_;refine Je ?_
 (refine Ja ?_;unhygienic intros)
 refine Ys fun o=>?_
 refine ⟨?_,o.sub⟩
 rfl
theorem Ib0 (a:Option Addr) (c:Nat) (f:FileS):Ct A6 Ap9 [.agg ⟨Ae6 f⟩,.slice a 8 c] [slC false A2 1 a 8 c (A0 (List.replicate 8 0))] fun v own=>v=.bool (okF f)∧own [slC false A2 1 a 8 c (A0 (if okF f then Ah4 f else List.replicate 8 0))]:=by
 refine Ct.of Hc5 rfl fun h r=>Tr.eq (Ha1 ..) ?_;refine Je ?_
 (refine Ja ?_;unhygienic intros)
 refine Yc (If8 f) ?_;rintro _ h ⟨rfl,o⟩<;>(refine Jf o ?_;unhygienic intros)
 cases hk:okF f with
 | false =>
  (refine Ja ?_;unhygienic intros)
  refine Ys fun o=>?_
  rw [if_neg (by simp)]
  exact ⟨rfl,o.sub⟩
 | true =>
  (refine Ja ?_;unhygienic intros)
  simp only [Bf0,List.drop_zero,List.take]
  refine Q9 2 rfl fun hl hc _=>?_
  refine Tr.xPCells (cs':=A0 (A80 f++[0,0,0])) (by omega) ⟨by simp,by simp [A0],by simp [Value.oneCell],rfl⟩ fun h=>?_
  (refine Ja ?_;unhygienic intros)
  refine Tr.pcall (E42 (slC false A2 1 a 8 c (A0 (A80 f++[0,0,0]))) a false 8 c c (A80 f++[0,0,0]) 5 (by simp [A80]) (by simp [A80,A8])) ?_
  refine Je ?_
  (refine Ja ?_;unhygienic intros;repeat(refine Gw ?_;rintro px rfl;refine Ja ?_;unhygienic intros))
  rw [show List.take 5 (A80 f++[0,0,0]:List UInt8)=A80 f from rfl,Dj4]
  refine Tr.xVS (cs':=A0 (Ah4 f)) ⟨by simp [A0,A80],rfl,rfl⟩ fun h=>?_
  refine Ys fun o=>?_
  simp only [if_true]
  exact ⟨trivial,o.sub⟩
theorem Ds5 {l:List Value} (h:l.all (fun v=>match v with|.int _ _=>true|_=>false)=true):An8 (.agg ⟨l⟩) (.agg ⟨l⟩)=true:=by
 show Bo2 l l=true
 induction l with
 | nil=>rfl
 | cons v l ih =>
  simp only [List.all_cons,Bool.and_eq_true] at h
  show (A10 v v && Bo2 l l)=true
  rw [ih h.2,Bool.and_true]
  cases v<;>first|(simp [A10];done)|exact absurd h.1 (by simp)
abbrev Gz7 (k:Nat):HP:=pt k (.cells Ai6 false [int 8,.func (.func Ap9) ⟨[]⟩ ⟨[]⟩,.func (.func Ap6) ⟨[]⟩ ⟨[]⟩])
theorem Ha6 (k:Nat) (f:FileS):Ct A6 U8 [P0 k,.agg ⟨Ae6 f⟩] [Gz7 k] fun v own=>(okF f=true∧∃ a,v=.tuple ⟨[.slice a 8 8,.bool true]⟩∧own [Gz7 k,slC false A2 1 a 8 8 (A0 (Ah4 f))])∨(okF f=false∧v=.tuple ⟨[.slice none 0 0,.bool false]⟩∧own [Gz7 k]):=by
 refine Ct.of B04 rfl fun h r=>Tr.eq (B14 ..) ?_;refine Je ?_
 (refine Ja ?_;unhygienic intros)
 refine Tr.ck ⟨by omega,by omega,by simp [A8]⟩ ?_
 refine Yn fun b1 h=>?_
 rw [show I1 (Int.toNat 8) [.int .u8 0]=A0 (List.replicate 8 0) from rfl]
 refine W6 0 rfl 1 8 rfl (by omega) ?_
 simp only [List.set_cons_zero]
 refine Je ?_
 (refine Jb ?_;unhygienic intros)
 refine Yb (Yf rfl ?_)
 (refine Jb ?_;unhygienic intros)
 refine Yc (Ib0 (some ⟨b1,0,none⟩) 8 f) ?_;rintro _ h ⟨rfl,o⟩<;>(refine Jg o ?_;unhygienic intros)
 refine Ys fun o=>(?_:Tr _ _ _ _) o;refine Je ?_
 cases hk:okF f with
 | false =>
  (refine Ja ?_;unhygienic intros)
  refine Ys fun o=>?_
  exact .inr ⟨rfl,rfl,o.sub⟩
 | true =>
  (refine Ja ?_;unhygienic intros)
  refine Ys fun o=>?_
  simp only [if_true] at o
  exact .inl ⟨rfl,_,rfl,o.sub⟩
theorem Ib6:Ct A6 Ao4 [int 8,.func (.func Ap9) ⟨[]⟩ ⟨[]⟩,.func (.func Ap6) ⟨[]⟩ ⟨[]⟩] [] fun v own=>∃ k,v=P0 k∧own [pt k (.cells Ai6 false [int 8,.func (.func Ap9) ⟨[]⟩ ⟨[]⟩,.func (.func Ap6) ⟨[]⟩ ⟨[]⟩])]:=by
 refine Ct.of D96 rfl fun h r=>Tr.eq (D29 ..) ?_;refine Je ?_
 rw [show mm2 false (mm2 true 8 0) 64=8 from rfl]
 (refine Ja ?_;unhygienic intros)
 refine Ys fun o=>?_
 exact ⟨_,rfl,o.sub⟩
theorem Gi1:Ct A6 A96 [] [] fun v own=>∃ k,v=P0 k∧own [pt k (.cells Ai6 false [int 8,.func (.func Ap9) ⟨[]⟩ ⟨[]⟩,.func (.func Ap6) ⟨[]⟩ ⟨[]⟩])]:=by
 refine Ct.of Gp6 rfl fun h r=>Tr.eq (Gp5 ..) ?_;refine Je ?_
 refine Yc (Ib6) ?_;rintro _ h ⟨k,rfl,o⟩<;>(refine Jf o ?_;unhygienic intros)
 refine Ys fun o=>?_
 exact ⟨_,rfl,o.sub⟩
theorem E90 (f:FileS):Ct A6 A40 [.agg ⟨Ae6 f⟩] [] fun v own=>(okF f=true∧∃ a,v=.tuple ⟨[.slice a 8 8,.bool true]⟩∧own [slC false A2 1 a 8 8 (A0 (Ah4 f))])∨(okF f=false∧v=.tuple ⟨[.slice none 0 0,.bool false]⟩∧own []):=by
 refine Ct.of Gf4 rfl fun h r=>Tr.eq (Gg3 ..) ?_;refine Je ?_
 (refine Ja ?_;unhygienic intros)
 refine Yc (Gi1) ?_;rintro _ h ⟨k,rfl,o⟩<;>(refine Jf o ?_;unhygienic intros)
 refine Tr.same (Ds5 rfl) ?_
 refine Yc (Ha6 k f) ?_
 rintro v h (⟨hk,a,rfl,o⟩|⟨hk,rfl,o⟩)
 ·refine (?_:Tr _ _ _ _) o
  refine Je ?_
  (refine Ja ?_;unhygienic intros)
  refine Ys fun o=>?_
  exact .inl ⟨hk,a,rfl,o.sub⟩
 ·refine (?_:Tr _ _ _ _) o
  refine Je ?_
  (refine Ja ?_;unhygienic intros)
  refine Ys fun o=>?_
  exact .inr ⟨hk,rfl,o.sub⟩
theorem Ac5 {l:List UInt8} {i:Nat} (h:i<l.length):(A0 l)[i]?=some (.int .u8 ((l.getD i 0).toNat:Int)):=by
 rw [List.getD_eq_getElem?_getD,List.getElem?_eq_getElem h];exact D01 (List.getElem?_eq_getElem h)
theorem Al2 (x:UInt8):IntKind.wrap .i64 (x.toNat:Int)=(x.toNat:Int):=by
 have:=x.toNat_lt;rw [A7];omega
abbrev byI (l:List UInt8) (i:Nat):Int:=((l.getD i 0).toNat:Int)
def B49 (l:List UInt8):FileS:=⟨byI l 0,byI l 1,byI l 2,byI l 3⟩
def isF (l:List UInt8):Bool:=okF (B49 l) && decide (Ah4 (B49 l)=l)
theorem Id5 (a:Option Addr) (c:Nat) (l:List UInt8) (hl:l.length=8):Ct A6 Ap6 [.slice a 8 c] [slC false A2 1 a 8 c (A0 l)] fun v own=>v=.tuple ⟨[.agg ⟨Ae6 (B49 l)⟩,.bool (isF l)]⟩∧own [slC false A2 1 a 8 c (A0 l)]:=by
 have key:∀ a1:Option Addr,CtP A6 D4 [.slice a1 8 8,.slice a 8 c] [slC false A2 1 a1 8 8 (A0 (Ah4 (B49 l))),slC false A2 1 a 8 c (A0 l)] (.bool (decide (Ah4 (B49 l)=l))):=fun a1=>by
  have J:=Ee2 (slC false A2 1 a1 8 8 (A0 (Ah4 (B49 l)))) (slC false A2 1 a l.length c (A0 l)) a1 false 8 a false c (Ah4 (B49 l)) l (by simp [Ah4,A80,A8])
  rwa [hl,show (Ah4 (B49 l)).length=8 from rfl] at J
 refine Ct.of Hc7 rfl fun h r=>Tr.eq (G88 ..) ?_;refine Je ?_
 refine Yn fun b1 h=>?_
 (refine Ja ?_;unhygienic intros;repeat(refine Gw ?_;rintro px rfl;refine Ja ?_;unhygienic intros))
 refine Tr.xIntS (v:=byI l 0) (Ac5 (by omega)) ?_
 (refine Ja ?_;unhygienic intros)
 refine Tr.xIntS (v:=byI l 1) (Ac5 (by omega)) ?_
 (refine Ja ?_;unhygienic intros)
 refine Tr.xIntS (v:=byI l 2) (Ac5 (by omega)) ?_
 (refine Ja ?_;unhygienic intros)
 refine Tr.xIntS (v:=byI l 3) (Ac5 (by omega)) ?_
 simp only [byI,Al2]
 refine Yn fun b2 h=>?_
 (refine Jb ?_;unhygienic intros)
 refine Yc (E90 (B49 l)) ?_
 rintro v h (⟨hk,a1,rfl,o⟩|⟨hk,rfl,o⟩)
 ·refine (?_:Tr _ _ _ _) o
  refine Je ?_
  (refine Jb ?_;unhygienic intros)
  refine Yb (Yt rfl ?_)
  refine Tr.pcall (key a1) ?_;refine Je ?_;(refine Jb ?_;unhygienic intros)
  refine Tr.same (Ds5 rfl) ?_
  refine Ys fun o=>(?_:Tr _ _ _ _) o;refine Je ?_
  (refine Ja ?_;unhygienic intros)
  refine Ys fun o=>?_
  exact ⟨by unfold isF;rw [hk,Bool.true_and];rfl,o.sub⟩
 ·refine (?_:Tr _ _ _ _) o
  refine Je ?_
  (refine Ja ?_;unhygienic intros)
  refine Ys fun o=>?_
  exact ⟨by unfold isF;rw [hk];rfl,o.sub⟩
theorem Ef2 (n:Nat) (a:Option Addr) (c:Nat) (l:List UInt8) (hl:l.length=n) (hn:n≤A8):Ct A6 G4 [.slice a n c] [slC false A2 1 a n c (A0 l)] fun v own=>∃ a' c',v=.slice a' n c'∧own [slC false A2 1 a' n c' (A0 l),slC false A2 1 a n c (A0 l)]:=by
 subst hl;exact Hw7 (slC false A2 1 a l.length c (A0 l)) false a c l hn
theorem Ei1 (n:Nat) (a:Option Addr) (c:Nat) (l:List UInt8) (hl:l.length=n) (hn:n≤A8):CtP A6 Ak8 [.slice a n c] [slC false A2 1 a n c (A0 l)] (.bool (l.all (·==0))):=by
 subst hl;exact H30 (slC false A2 1 a l.length c (A0 l)) a false c l hn
theorem Ha8 (k:Nat) (a:Option Addr) (c:Nat) (l:List UInt8) (hl:l.length=8):Ct A6 V0 [P0 k,.slice a 8 c] [Gz7 k,slC false A2 1 a 8 c (A0 l)] fun v own=>v=.tuple ⟨[.agg ⟨Ae6 (if isF l then B49 l else .zero)⟩,.bool (isF l)]⟩∧own [Gz7 k,slC false A2 1 a 8 c (A0 l)]:=by
 refine Ct.of B12 rfl fun h r=>Tr.eq (B13 ..) ?_;refine Je ?_
 (refine Ja ?_;unhygienic intros)
 refine Yf rfl ?_
 (refine Jb ?_;unhygienic intros)
 refine Yc (Ef2 8 a c l hl (by simp [A8])) ?_;rintro _ h ⟨a1,c1,rfl,o⟩<;>(refine Jg o ?_;unhygienic intros)
 refine Yc (Id5 a1 c1 l hl) ?_;rintro _ h ⟨rfl,o⟩<;>(refine Jg o ?_;unhygienic intros)
 cases hk:isF l with
 | false =>
  (refine Ja ?_;unhygienic intros)
  refine Ys fun o=>?_
  exact ⟨rfl,o.sub⟩
 | true =>
  (refine Ja ?_;unhygienic intros)
  refine Ys fun o=>?_
  exact ⟨rfl,o.sub⟩
def Aa3 (l:List UInt8):FileS × Int:=if l.all (·==0) then (.zero,0) else if isF l then (B49 l,1) else (.zero,2)
theorem Hg6 (a:Option Addr) (c:Nat) (l:List UInt8) (hl:l.length=8):Ct A6 A15 [.slice a 8 c] [slC false A2 1 a 8 c (A0 l)] fun v own=>v=.tuple ⟨[.agg ⟨Ae6 (Aa3 l).1⟩,int (Aa3 l).2]⟩∧own [slC false A2 1 a 8 c (A0 l)]:=by
 refine Ct.of Gg4 rfl fun h r=>Tr.eq (Gf9 ..) ?_;refine Je ?_
 refine Yn fun b1 h=>?_
 refine Yb (Yt rfl ?_)
 refine Tr.pcall (Ei1 8 a c l hl (by simp [A8])) ?_;refine Je ?_;(refine Jb ?_;unhygienic intros)
 refine Ys fun o=>(?_:Tr _ _ _ _) o;refine Je ?_
 cases hb:l.all (·==0) with
 | true =>
  (refine Ja ?_;unhygienic intros)
  refine Ys fun o=>?_
  exact ⟨by unfold Aa3;rw [hb];rfl,o.sub⟩
 | false =>
  (refine Jb ?_;unhygienic intros)
  refine Yc (Gi1) ?_;rintro _ h ⟨k,rfl,o⟩<;>(refine Jg o ?_;unhygienic intros)
  refine Yc (Ha8 k a c l hl) ?_;rintro _ h ⟨rfl,o⟩<;>(refine Jg o ?_;unhygienic intros)
  cases hk:isF l with
  | false =>
   (refine Ja ?_;unhygienic intros)
   refine Ys fun o=>?_
   exact ⟨by unfold Aa3;rw [hb,hk];rfl,o.sub⟩
  | true =>
   (refine Ja ?_;unhygienic intros)
   refine Ys fun o=>?_
   exact ⟨by unfold Aa3;rw [hb,hk];rfl,o.sub⟩
structure PipeS where
 head:Int
 count:Int
 readers:Int
 writers:Int
 data:List UInt8
 len:data.length=32
abbrev PipeS.zero:PipeS:=⟨0,0,0,0,List.replicate 32 0,rfl⟩
abbrev E6 (p:PipeS):List Value:=int p.head::int p.count::int p.readers::int p.writers::A0 p.data
theorem Ab6 {p:PipeS} (hd:p.data.length=32):(E6 p).length=36:=by simp [E6,S8,hd]
theorem Hp1 {p:PipeS} (hd:p.data.length=32):4+32≤(E6 p).length∧((E6 p).drop 4).take 32=A0 p.data:=⟨by rw [Ab6 hd];exact Nat.le_refl _,by
 rw [show (E6 p).drop 4=A0 p.data from rfl,List.take_of_length_le (by rw [S8,hd];exact Nat.le_refl _)]⟩
theorem Gi6 (p:PipeS):(E6 p).all Value.oneCell=true:=by simp [E6,Af3,Value.oneCell]
theorem Hk3 (p:PipeS):An8 (.agg ⟨E6 p⟩) (.agg ⟨E6 p⟩)=true:=Ds5 (by simp [E6,A0])
instance {p:PipeS}:LenC (E6 p) 36:=⟨Ab6 p.len⟩
instance {p:PipeS}:PartC (E6 p) 0 36 (E6 p):=⟨B77 (Ab6 p.len)⟩
instance {p:PipeS} {cs:List Value} [k:LenC cs 36]:SetsC cs 0 (E6 p) (E6 p):=⟨Bd9 k.ok (Ab6 p.len) (Gi6 p)⟩
instance {p:PipeS}:SameC (.agg ⟨E6 p⟩):=⟨Hk3 p⟩
def okP (p:PipeS):Bool:=decide (0≤p.head∧p.head≤31) && decide (0≤p.count∧p.count≤32) && decide (0≤p.readers∧p.readers≤8) && decide (0≤p.writers∧p.writers≤8)
def Ag3 (p:PipeS):List UInt8:=[1,b8 p.head,b8 p.count,b8 p.readers,b8 p.writers,197]
def I3 (p:PipeS):List UInt8:=Ag3 p++Bp2 (Ag3 p)::0::p.data
theorem Ax8 {p:PipeS} (hd:p.data.length=32):(I3 p).length=40:=by simp [I3,Ag3,hd]
theorem If5 (n m:Int):CtP A6 Aq3 [int n,int m] [] (.bool (decide (0≤n∧n≤m))):=by
 refine CtP.of G94 rfl fun h r=>Tr.eq (Hb0 ..) ?_;refine Je ?_
 (refine Ja ?_;unhygienic intros)
 refine Ys fun o=>?_
 refine ⟨?_,rfl⟩
 refine congrArg Value.bool ?_;rw [Bool.eq_iff_iff];simp only [Bool.and_eq_true,Bool.or_eq_true,Bool.not_eq_true',Bool.not_eq_false',decide_eq_true_eq,decide_eq_false_iff_not,bne_iff_ne,beq_iff_eq,ne_eq,A7,Z5,Z4,ge_iff_le,gt_iff_lt];first|done|omega
instance {n m:Int} {l:List HP}:PCi A6 Aq3 [.int .i64 n,.int .i64 m] l (.bool (decide (0≤n∧n≤m))):=PCi.of (If5 n m)
theorem G49 (p:PipeS):Ct A6 Bt6 [.agg ⟨E6 p⟩] [] fun v own=>v=.bool (okP p)∧own []:=by
 refine Ct.of Hx3 rfl fun h r=>Tr.eq (Hw3 ..) ?_;refine Je ?_
 (refine Ja ?_;unhygienic intros)
 refine Ys fun o=>?_
 exact ⟨rfl,o.sub⟩
theorem Ia4 (a:Option Addr) (c:Nat) (p:PipeS):Ct A6 Bi3 [.agg ⟨E6 p⟩,.slice a 40 c] [slC false A2 1 a 40 c (A0 (List.replicate 40 0))] fun v own=>v=.bool (okP p)∧own [slC false A2 1 a 40 c (A0 (if okP p then I3 p else List.replicate 40 0))]:=by
 have hd:=p.len
 refine Ct.of Hi2 rfl fun h r=>Tr.eq (Hh3 ..) ?_;refine Je ?_
 refine Yn fun b1 h=>?_
 (refine Ja ?_;unhygienic intros)
 refine Yc (G49 p) ?_;rintro _ h ⟨rfl,o⟩<;>(refine Jg o ?_;unhygienic intros)
 cases hk:okP p with
 | false =>
  (refine Ja ?_;unhygienic intros)
  refine Ys fun o=>?_
  rw [if_neg (by simp)]
  exact ⟨rfl,o.sub⟩
 | true =>
  (refine Ja ?_;unhygienic intros)
  simp only [Bf0,List.drop_zero,List.take]
  refine Q9 2 rfl fun hl hc _=>?_
  refine Tr.xPCells (cs':=A0 (Ag3 p++List.replicate 34 0)) (by omega) ⟨by simp,by simp [A0],by simp [Value.oneCell],rfl⟩ fun h=>?_
  (refine Ja ?_;unhygienic intros)
  refine Tr.pcall (E42 (slC false A2 1 a 40 c (A0 (Ag3 p++List.replicate 34 0))) a false 40 c c (Ag3 p++List.replicate 34 0) 6 (by simp [Ag3]) (by simp [Ag3,A8])) ?_
  refine Je ?_
  (refine Ja ?_;unhygienic intros;repeat(refine Gw ?_;rintro px rfl;refine Ja ?_;unhygienic intros))
  rw [show List.take 6 (Ag3 p++List.replicate 34 0:List UInt8)=Ag3 p from rfl,Dj4]
  refine Tr.xVS (cs':=A0 (Ag3 p++Bp2 (Ag3 p)::List.replicate 33 0)) ⟨by simp [A0,Ag3],rfl,rfl⟩ fun h=>?_
  (refine Ja ?_;unhygienic intros)
  refine Tr.xCellsB (xs:=A0 p.data) (Hp1 p.len) ?_
  rw [Gf1 (by omega),Ee4]
  refine Tr.xPAggS (cs':=A0 (I3 p)) ⟨?_,?_,Af3 _,?_⟩ fun h=>?_
  ·intro e;have:=congrArg List.length e;simp [A0,hd] at this
  ·simp [A0,hd,Ag3]
  ·rw [S8,hd]
   simp [A0,I3,Ag3]
  refine Ys fun o=>?_
  simp only [if_true]
  exact ⟨trivial,o.sub⟩
abbrev E36 (k:Nat):HP:=pt k (.cells Bl6 false [int 40,.func (.func Bi3) ⟨[]⟩ ⟨[]⟩,.func (.func Bh3) ⟨[]⟩ ⟨[]⟩])
theorem G81 (k:Nat) (f:PipeS):Ct A6 U9 [P0 k,.agg ⟨E6 f⟩] [E36 k] fun v own=>(okP f=true∧∃ a,v=.tuple ⟨[.slice a 40 40,.bool true]⟩∧own [E36 k,slC false A2 1 a 40 40 (A0 (I3 f))])∨(okP f=false∧v=.tuple ⟨[.slice none 0 0,.bool false]⟩∧own [E36 k]):=by
 refine Ct.of B06 rfl fun h r=>Tr.eq (B10 ..) ?_;refine Je ?_
 (refine Ja ?_;unhygienic intros)
 refine Tr.ck ⟨by omega,by omega,by simp [A8]⟩ ?_
 refine Yn fun b1 h=>?_
 rw [show I1 (Int.toNat 40) [.int .u8 0]=A0 (List.replicate 40 0) from rfl]
 refine W6 0 rfl 1 40 rfl (by omega) ?_
 simp only [List.set_cons_zero]
 refine Je ?_
 (refine Jb ?_;unhygienic intros)
 refine Yb (Yf rfl ?_)
 (refine Jb ?_;unhygienic intros)
 refine Yc (Ia4 (some ⟨b1,0,none⟩) 40 f) ?_;rintro _ h ⟨rfl,o⟩<;>(refine Jg o ?_;unhygienic intros)
 refine Ys fun o=>(?_:Tr _ _ _ _) o;refine Je ?_
 cases hk:okP f with
 | false =>
  (refine Ja ?_;unhygienic intros)
  refine Ys fun o=>?_
  exact .inr ⟨rfl,rfl,o.sub⟩
 | true =>
  (refine Ja ?_;unhygienic intros)
  refine Ys fun o=>?_
  simp only [if_true] at o
  exact .inl ⟨rfl,_,rfl,o.sub⟩
theorem Ia5:Ct A6 Ao3 [int 40,.func (.func Bi3) ⟨[]⟩ ⟨[]⟩,.func (.func Bh3) ⟨[]⟩ ⟨[]⟩] [] fun v own=>∃ k,v=P0 k∧own [E36 k]:=by
 refine Ct.of D63 rfl fun h r=>Tr.eq (D43 ..) ?_;refine Je ?_
 rw [show mm2 false (mm2 true 40 0) 64=40 from rfl]
 (refine Ja ?_;unhygienic intros)
 refine Ys fun o=>?_
 exact ⟨_,rfl,o.sub⟩
theorem Gk6:Ct A6 Bg5 [] [] fun v own=>∃ k,v=P0 k∧own [E36 k]:=by
 refine Ct.of Gt5 rfl fun h r=>Tr.eq (Gz3 ..) ?_;refine Je ?_
 refine Yc (Ia5) ?_;rintro _ h ⟨k,rfl,o⟩<;>(refine Jf o ?_;unhygienic intros)
 refine Ys fun o=>?_
 exact ⟨_,rfl,o.sub⟩
theorem D75 (f:PipeS):Ct A6 Au8 [.agg ⟨E6 f⟩] [] fun v own=>(okP f=true∧∃ a,v=.tuple ⟨[.slice a 40 40,.bool true]⟩∧own [slC false A2 1 a 40 40 (A0 (I3 f))])∨(okP f=false∧v=.tuple ⟨[.slice none 0 0,.bool false]⟩∧own []):=by
 refine Ct.of Gr0 rfl fun h r=>Tr.eq (Gn4 ..) ?_;refine Je ?_
 refine Yn fun b1 h=>?_
 (refine Ja ?_;unhygienic intros)
 refine Yc (Gk6) ?_;rintro _ h ⟨k,rfl,o⟩<;>(refine Jg o ?_;unhygienic intros)
 (refine Ja ?_;unhygienic intros)
 refine Yc (G81 k f) ?_
 rintro v h (⟨hk,a,rfl,o⟩|⟨hk,rfl,o⟩)
 ·refine (?_:Tr _ _ _ _) o
  refine Je ?_
  (refine Ja ?_;unhygienic intros)
  refine Ys fun o=>?_
  exact .inl ⟨hk,a,rfl,o.sub⟩
 ·refine (?_:Tr _ _ _ _) o
  refine Je ?_
  (refine Ja ?_;unhygienic intros)
  refine Ys fun o=>?_
  exact .inr ⟨hk,rfl,o.sub⟩
def Dr7 (l:List UInt8):List UInt8:=(l++List.replicate 32 0).take 32
theorem Hu5 (l:List UInt8):(Dr7 l).length=32:=by simp [Dr7]
theorem D74 {l:List UInt8} (h:l.length=32):Dr7 l=l:=by simp [Dr7,← h]
def Bb5 (l:List UInt8):PipeS:=⟨byI l 1,byI l 2,byI l 3,byI l 4,Dr7 (l.drop 8),Hu5 _⟩
def isP (l:List UInt8):Bool:=okP (Bb5 l) && decide (I3 (Bb5 l)=l)
theorem Ic0 (a:Option Addr) (c:Nat) (l:List UInt8) (hl:l.length=40):Ct A6 Bh3 [.slice a 40 c] [slC false A2 1 a 40 c (A0 l)] fun v own=>v=.tuple ⟨[.agg ⟨E6 (Bb5 l)⟩,.bool (isP l)]⟩∧own [slC false A2 1 a 40 c (A0 l)]:=by
 have hd:=(Bb5 l).len
 have hp:Dr7 (l.drop 8)=l.drop 8:=D74 (by simp [hl])
 have key:∀ a1:Option Addr,CtP A6 D4 [.slice a1 40 40,.slice a 40 c] [slC false A2 1 a1 40 40 (A0 (I3 (Bb5 l))),slC false A2 1 a 40 c (A0 l)] (.bool (decide (I3 (Bb5 l)=l))):=fun a1=>by
  have e:=Ax8 hd
  have J:=Ee2 (slC false A2 1 a1 (I3 (Bb5 l)).length 40 (A0 (I3 (Bb5 l)))) (slC false A2 1 a l.length c (A0 l)) a1 false 40 a false c (I3 (Bb5 l)) l (by rw [e];simp [A8])
  rwa [hl,e] at J
 refine Ct.of Hm6 rfl fun h r=>Tr.eq (Ho4 ..) ?_;refine Je ?_
 refine Yn fun b1 h=>?_
 refine Q9 1 rfl fun hl2 hc2 _=>?_
 (refine Ja ?_;unhygienic intros;repeat(refine Gw ?_;rintro px rfl;refine Ja ?_;unhygienic intros))
 refine Tr.xIntS (v:=byI l 1) (Ac5 (by omega)) ?_
 (refine Ja ?_;unhygienic intros)
 refine Tr.xIntS (v:=byI l 2) (Ac5 (by omega)) ?_
 (refine Ja ?_;unhygienic intros)
 refine Tr.xIntS (v:=byI l 3) (Ac5 (by omega)) ?_
 (refine Ja ?_;unhygienic intros)
 refine Tr.xIntS (v:=byI l 4) (Ac5 (by omega)) ?_
 simp only [byI,Al2]
 refine Yn fun b2 h=>?_
 (refine Jb ?_;unhygienic intros)
 rw [Gf1 (show 8<c by omega),G24]
 refine Tr.xAggS (xs:=A0 (l.drop 8)) ⟨by omega,by simp [S8,hl],?_⟩ ?_
 ·rw [B24,List.take_of_length_le (by simp [S8,hl])]
 rw [show pCells (some (⟨b2,4,none⟩:Addr))=pAgg ⟨b2,4,none⟩ from rfl]
 refine Tr.xPAgg (cs':=E6 (Bb5 l)) ⟨by simp [S8,hl],Af3 _,by simp [E6,Bb5,byI,S8,hl,hp]⟩ fun h=>?_
 (refine Ja ?_;unhygienic intros)
 refine Yc (D75 (Bb5 l)) ?_
 rintro v h (⟨hk,a1,rfl,o⟩|⟨hk,rfl,o⟩)
 ·refine (?_:Tr _ _ _ _) o
  refine Je ?_
  (refine Jb ?_;unhygienic intros)
  refine Yb (Yt rfl ?_)
  refine Tr.pcall (key a1) ?_;refine Je ?_;(refine Jb ?_;unhygienic intros)
  refine Ys fun o=>(?_:Tr _ _ _ _) o;refine Je ?_
  (refine Ja ?_;unhygienic intros)
  refine Ys fun o=>?_
  exact ⟨by unfold isP;rw [hk,Bool.true_and],o.sub⟩
 ·refine (?_:Tr _ _ _ _) o
  refine Je ?_
  (refine Ja ?_;unhygienic intros)
  refine Ys fun o=>?_
  exact ⟨by unfold isP;rw [hk];rfl,o.sub⟩
theorem Hb2 (k:Nat) (a:Option Addr) (c:Nat) (l:List UInt8) (hl:l.length=40):Ct A6 V3 [P0 k,.slice a 40 c] [E36 k,slC false A2 1 a 40 c (A0 l)] fun v own=>v=.tuple ⟨[.agg ⟨E6 (if isP l then Bb5 l else .zero)⟩,.bool (isP l)]⟩∧own [E36 k,slC false A2 1 a 40 c (A0 l)]:=by
 have hd:=(Bb5 l).len
 have hp:Dr7 (l.drop 8)=l.drop 8:=D74 (by simp [hl])
 refine Ct.of B03 rfl fun h r=>Tr.eq (B08 ..) ?_;refine Je ?_
 (refine Ja ?_;unhygienic intros)
 refine Yf rfl ?_
 (refine Jb ?_;unhygienic intros)
 refine Yc (Ef2 40 a c l hl (by simp [A8])) ?_;rintro _ h ⟨a1,c1,rfl,o⟩<;>(refine Jg o ?_;unhygienic intros)
 refine Yc (Ic0 a1 c1 l hl) ?_;rintro _ h ⟨rfl,o⟩<;>(refine Jg o ?_;unhygienic intros)
 cases hk:isP l with
 | false =>
  (refine Ja ?_;unhygienic intros)
  refine Ys fun o=>?_
  exact ⟨rfl,o.sub⟩
 | true =>
  (refine Ja ?_;unhygienic intros)
  refine Ys fun o=>?_
  exact ⟨rfl,o.sub⟩
def Q0 (l:List UInt8):PipeS × Int:=if l.all (·==0) then (.zero,0) else if isP l then (Bb5 l,1) else (.zero,2)
theorem Hh8 (a:Option Addr) (c:Nat) (l:List UInt8) (hl:l.length=40):Ct A6 Au1 [.slice a 40 c] [slC false A2 1 a 40 c (A0 l)] fun v own=>v=.tuple ⟨[.agg ⟨E6 (Q0 l).1⟩,int (Q0 l).2]⟩∧own [slC false A2 1 a 40 c (A0 l)]:=by
 have hd:=(Bb5 l).len
 have hp:Dr7 (l.drop 8)=l.drop 8:=D74 (by simp [hl])
 refine Ct.of Gp1 rfl fun h r=>Tr.eq (Go8 ..) ?_;refine Je ?_
 refine Yn fun b1 h=>?_
 refine Yb (Yt rfl ?_)
 refine Tr.pcall (Ei1 40 a c l hl (by simp [A8])) ?_;refine Je ?_;(refine Jb ?_;unhygienic intros)
 refine Ys fun o=>(?_:Tr _ _ _ _) o;refine Je ?_
 cases hb:l.all (·==0) with
 | true =>
  (refine Ja ?_;unhygienic intros)
  refine Ys fun o=>?_
  exact ⟨by unfold Q0;rw [hb];rfl,o.sub⟩
 | false =>
  (refine Jb ?_;unhygienic intros)
  refine Yc (Gk6) ?_;rintro _ h ⟨k,rfl,o⟩<;>(refine Jg o ?_;unhygienic intros)
  refine Yc (Hb2 k a c l hl) ?_;rintro _ h ⟨rfl,o⟩<;>(refine Jg o ?_;unhygienic intros)
  cases hk:isP l with
  | false =>
   (refine Ja ?_;unhygienic intros)
   refine Ys fun o=>?_
   exact ⟨by unfold Q0;rw [hb,hk];rfl,o.sub⟩
  | true =>
   (refine Ja ?_;unhygienic intros)
   refine Ys fun o=>?_
   exact ⟨by unfold Q0;rw [hb,hk];rfl,o.sub⟩
structure ProcS where
 state:Int
 parent:Int
 group:Int
 code:Int
 pending:Int
 mask:Int
 ignored:Int
 caught:Int
 fds:List Int
 len:fds.length=8
abbrev Gs2:List Int:=[0,0,0,0,0,0,0,0]
abbrev ProcS.zero:ProcS:=⟨0,0,0,0,0,0,0,0,Gs2,rfl⟩
abbrev E2 (p:ProcS):List Value:=int p.state::int p.parent::int p.group::int p.code::int p.pending::int p.mask::int p.ignored::int p.caught::p.fds.map int
theorem Bs8 (p:ProcS):(E2 p).length=16:=by simp [E2,p.len]
theorem Ht5 (p:ProcS):(E2 p).all Value.oneCell=true:=by simp [E2,Value.oneCell]
instance {p:ProcS}:LenC (E2 p) 16:=⟨Bs8 p⟩
instance {p:ProcS}:PartC (E2 p) 0 16 (E2 p):=⟨B77 (Bs8 p)⟩
instance {p:ProcS}:PartC (E2 p) 8 8 (p.fds.map int):=⟨by
 have h:Nat.ble (8+8) (E2 p).length=true:=by rw [Bs8];rfl
 have e:((E2 p).drop 8).take 8=p.fds.map int:=by rw [show (E2 p).drop 8=p.fds.map int from rfl,List.take_of_length_le (by simp [p.len])]
 rw [Dh7,h,e];rfl⟩
instance {p:ProcS} {cs:List Value} [k:LenC cs 16]:SetsC cs 0 (E2 p) (E2 p):=⟨Bd9 k.ok (Bs8 p) (Ht5 p)⟩
instance {p:ProcS}:SameC (.agg ⟨E2 p⟩):=⟨Ds5 (by simp [E2])⟩
def Ep0 (n w:Int):Bool:=El0 .i64 n 65534==0 && I4 .i64 n w==0
def okS (p:ProcS):Bool :=
 !(decide (p.state<1) || decide (p.state>3) || decide (p.parent<0) || decide (p.parent>8) || decide (p.group<0) || decide (p.group≥8) || decide (p.code<0) || decide (p.code>255)) &&
 (!(!Ep0 p.pending 0 || !Ep0 p.mask 16896 || !Ep0 p.ignored 16896 || !Ep0 p.caught 16896 || I4 .i64 p.ignored p.caught != 0) &&
 (!(p.fds.any fun f=>decide (f<0) || decide (f>12)) &&
 (if p.state=2 then p.pending==0 && decide (p.fds=Gs2) else p.code==0)))
def hi2 (n:Int):UInt8:=if 0≤n∧n≤65535 then b8 (n / 256) else 0
def lo2 (n:Int):UInt8:=if 0≤n∧n≤65535 then b8 n else 0
abbrev put2 (n:Int):List UInt8:=[hi2 n,lo2 n]
def D80 (p:ProcS):List UInt8:=[b8 p.state,b8 p.parent,b8 p.group,b8 p.code]++(put2 p.pending++(put2 p.mask++(put2 p.ignored++(put2 p.caught++(p.fds.map b8++[167])))))
theorem H01 (n:Int):(put2 n).length=2:=rfl
theorem Hs4 (p:ProcS):(D80 p).length=21:=by simp [D80,H01,p.len]
def Au0 (p:ProcS):List UInt8:=D80 p++[Bp2 (D80 p),0,0]
theorem D71 (p:ProcS):(Au0 p).length=24:=by simp [Au0,Hs4]
theorem Id7 (n w:Int):CtP A6 Aj4 [int n,int w] [] (.bool (Ep0 n w)):=by
 refine CtP.of Gt6 rfl fun h r=>Tr.eq (Gy9 ..) ?_;refine Je ?_
 exact Jz
instance {n w:Int} {l:List HP}:PCi A6 Aj4 [.int .i64 n,.int .i64 w] l (.bool (Ep0 n w)):=PCi.of (Id7 n w)
theorem Ib2 (f:Int):CtP A6 Bf7 [int f] [] (.bool (decide (f<0) || decide (f>12))):=by
 refine CtP.of Gy0 rfl fun h r=>Tr.eq (Gy2 ..) ?_;refine Je ?_
 exact Jz
theorem E02 (p:HP) (a:Option Addr) (ro:Bool) (c:Nat) (l:List Int) (g:FuncId) (f:Int→Bool) {e:TypeId} [ks:IsSl p a ro e 1 l.length c (l.map int)] (hl:l.length≤A8) (hf:∀ x,CtP A6 g [int x] [] (.bool (f x))):∀ (m i:Nat),l.length-i=m→i≤l.length →
  U6 I8 D8 M7 [(0,.slice a l.length c),(1,.func (.func g) ⟨[]⟩ ⟨[]⟩),(7,int l.length),(8,int i)] [p] (int (Bp0 f i (l.drop i))):=by
 intro m
 induction m with
 | zero =>
  intro i hm hi
  refine U6.of L6 fun h r=>Tr.eq (Q2 ..) ?_;refine Je ?_
  refine Yf (by simp;omega) ?_
  refine Ys fun o=>?_
  rw [List.drop_eq_nil_of_le (by omega)];exact ⟨rfl,rfl⟩
 | succ m ih =>
  intro i hm hi
  have hlt:i<l.length:=by omega
  have hp:l[i]?=some l[i]:=List.getElem?_eq_getElem hlt
  have hd:l.drop i=l[i]::l.drop (i+1):=List.drop_eq_getElem_cons hlt
  generalize l[i]=x at hp hd
  have e1:IntKind.wrap .i64 ((i:Int)+1)=((i+1:Nat):Int):=by rw [A7];simp only [A8] at hl;omega
  refine U6.of L6 fun h r=>Tr.eq (Q2 ..) ?_;refine Je ?_
  refine Yt (by simp;omega) ?_
  (refine Ja ?_;unhygienic intros;repeat(refine Gw ?_;rintro px rfl;refine Ja ?_;unhygienic intros))
  refine Tr.xIntS (v:=x) (by simp [hp]) ?_
  (refine Ja ?_;unhygienic intros)
  refine Tr.pcall (hf x) ?_
  cases hx:f x with
  | true =>
   (refine Ja ?_;unhygienic intros)
   refine Ys fun o=>?_
   rw [hd,Bp0,if_pos hx];exact ⟨by first|rfl|trivial,by first|rfl|trivial⟩
  | false =>
   (refine Ja ?_;unhygienic intros)
   rw [e1]
   refine Y3 (ih (i+1) (by omega) (by omega)) (r:=r) (by simp) fun o=>?_
   rw [hd,Bp0,if_neg (by simp [hx])];exact ⟨by first|rfl|trivial,by first|rfl|trivial⟩
theorem E09 (p:HP) (a:Option Addr) (ro:Bool) (c:Nat) (l:List Int) (g:FuncId) (f:Int→Bool) {e:TypeId} [ks:IsSl p a ro e 1 l.length c (l.map int)] (hl:l.length≤A8) (hf:∀ x,CtP A6 g [int x] [] (.bool (f x))) :
  CtP A6 E7 [.slice a l.length c,.func (.func g) ⟨[]⟩ ⟨[]⟩] [p] (.bool (l.any f)):=by
 have j:CtP A6 D8 [.slice a l.length c,.func (.func g) ⟨[]⟩ ⟨[]⟩] [p] (int (Bp0 f 0 l)):=by
  refine CtP.of L6 rfl fun h r=>Tr.eq (A48 ..) ?_;refine Je ?_
  exact Y3 (E02 p a ro c l g f hl hf _ 0 rfl (by omega)) (r:=r) (by simp) fun o=>⟨rfl,rfl⟩
 refine CtP.of At5 rfl fun h r=>Tr.eq (At3 ..) ?_;refine Je ?_
 refine Bt8 j (r:=r) (by simp) ?_
 (refine Ja ?_;unhygienic intros)
 refine Ys fun o=>?_
 rw [En2];exact ⟨by first|rfl|trivial,by first|rfl|trivial⟩
theorem Gv9:∀ (l m:List Int),l.length=m.length→eqs (l.map int) (m.map int)=some (decide (l=m))
 | [],[],_=>rfl
 | [],_::_,h=>by simp at h
 | _::_,[],h=>by simp at h
 | a::l,b::m,h=>by
  have ih:=Gv9 l m (by simpa using h)
  simp only [List.map_cons,eqs,eq1,decide_true,ih]
  by_cases h1:a=b<;>by_cases h2:l=m<;>simp [h1,h2]
theorem E16:∀ (l:List Int),G8 (List.replicate l.length (TypeDesc.int .i64)) (l.map int)=true
 | []=>rfl
 | a::l=>by
  have:=E16 l
  simp only [List.length_cons,List.replicate_succ,List.map_cons,G8,decide_true,this,Bool.and_self]
theorem eq8 {α:Type} (l m:List Int) (hl:l.length=8) (hm:m.length=8) (k:Bool→Option α):B58 PR Gg2 (l.map int) (m.map int) k=k (decide (l=m)):=by
 have e:Ai9 PR 8 Gg2=some (List.replicate 8 (TypeDesc.int .i64)):=by kernel_rfl
 have f1:=E16 l;have f2:=E16 m
 rw [hl] at f1;rw [hm] at f2
 rw [B58,e]
 simp only [f1,f2,Gv9 l m (by omega),Bool.and_self,ckB,cond_true,eqK]
theorem Ij1 (p:ProcS):Ct A6 Dh4 [.agg ⟨E2 p⟩] [] fun v own=>v=.bool (okS p)∧own []:=by
 have h8:=p.len
 refine Ct.of Hg5 rfl fun h r=>Tr.eq (Hk0 ..) ?_;refine Je ?_
 (refine Ja ?_;unhygienic intros)
 refine Tr.cond (fun h1=>?_) fun h1=>?_
 ·refine Ys fun o=>?_
  refine ⟨?_,o.sub⟩
  unfold okS;rw [h1];rfl
 (refine Ja ?_;unhygienic intros)
 refine Tr.cond (fun h2=>?_) fun h2=>?_
 ·refine Ys fun o=>?_
  refine ⟨?_,o.sub⟩
  unfold okS;rw [h1,h2];rfl
 (refine Ja ?_;unhygienic intros)
 refine Gc1 0 rfl [int p.state,int p.parent,int p.group,int p.code,int p.pending,int p.mask,int p.ignored,int p.caught] (p.fds.map int) [] (by simp [E2]) 1 8 8 8 ⟨by simp [h8],by omega,by simp,by simp [E2],by omega,by omega⟩ ?_
 refine Je ?_
 have J:=E09 (e:=D7) (slX false D7 1 (some ⟨b,8,none⟩) p.fds.length 8 ([int p.state,int p.parent,int p.group,int p.code,int p.pending,int p.mask,int p.ignored,int p.caught],[]) (p.fds.map int)) (some ⟨b,8,none⟩) false 8 p.fds Bf7 (fun f=>decide (f<0) || decide (f>12)) (by rw [h8];simp [A8]) Ib2
 rw [h8] at J
 refine Tr.pcall (J) ?_;refine Je ?_;(refine Ja ?_;unhygienic intros)
 refine Ef7 0 rfl (E2 p) (by simp [E2]) ?_
 refine Je ?_
 cases h3:p.fds.any fun f=>decide (f<0) || decide (f>12) with
 | true =>
  (refine Ja ?_;unhygienic intros)
  refine Ys fun o=>?_
  refine ⟨?_,o.sub⟩
  unfold okS;rw [h1,h2,h3];rfl
 | false =>
  (refine Ja ?_;unhygienic intros)
  have e:okS p=if p.state=2 then p.pending==0 && decide (p.fds=Gs2) else p.code==0:=by unfold okS;rw [h1,h2,h3];rfl
  rw [e]
  by_cases h4:p.state=2
  ·refine Yt (by simpa using h4) ?_
   rw [if_pos h4]
   (repeat' first|refine Gu ?_|(with_reducible first|refine Gn fun b h=>?_|apply Gx|apply Gy|rintro px rfl|apply Gw|refine fun(h:H)=>?_|intro hb)|refine Gs ?_|refine Gt ?_|exact Gz rfl|fail)
   rw [show ([int 0,int 0,int 0,int 0,int 0,int 0,int 0,int 0]:List Value)=Gs2.map int from rfl,eq8 _ _ h8 rfl]
   (repeat' first|refine Gu ?_|(with_reducible first|refine Gn fun b h=>?_|apply Gx|apply Gy|rintro px rfl|apply Gw|refine fun(h:H)=>?_|intro hb)|refine Gs ?_|refine Gt ?_|exact Gz rfl|fail)
   refine Ys fun o=>?_
   exact ⟨rfl,o.sub⟩
  ·refine Yf (by simpa using h4) ?_
   rw [if_neg h4]
   (refine Ja ?_;unhygienic intros)
   refine Ys fun o=>?_
   exact ⟨rfl,o.sub⟩
theorem Id2 (a:Option Addr) (c:Nat) (cs:List Value) (j:Nat) (n:Int) (hj:j+2≤cs.length) (hm:cs.length≤A8):Ct A6 Be8 [.slice a cs.length c,int j,int n] [slC false A2 1 a cs.length c cs] fun v own =>
  (∃ ok,v=.bool ok)∧own [slC false A2 1 a cs.length c (if 0≤n∧n≤65535 then (cs.set j (.int .u8 ((b8 (n / 256)).toNat:Int))).set (j+1) (.int .u8 ((b8 n).toNat:Int)) else cs)]:=by
 simp only [A8] at hm
 have e1:IntKind.wrap .i64 ((cs.length:Int)-2)=(cs.length:Int)-2:=by rw [A7];omega
 have e2:IntKind.wrap .i64 ((j:Int)+1)=((j+1:Nat):Int):=by rw [A7];omega
 refine Ct.of G56 rfl fun h r=>Tr.eq (Gv0 ..) ?_;refine Je ?_
 rw [e1,e2]
 (refine Ja ?_;unhygienic intros)
 by_cases h:0≤n∧n≤65535
 ·refine Yf (by simp;omega) ?_
  rw [if_pos h]
  (refine Ja ?_;unhygienic intros;repeat(refine Gw ?_;rintro px rfl;refine Ja ?_;unhygienic intros))
  rw [Int.toNat_natCast,show Int.fdiv n (2 ^ 8)=n / 256 by rw [Int.fdiv_eq_ediv_of_nonneg _ (by omega)];rfl,Bf0,Bf0]
  refine Je ?_
  refine Tr.xVS (cs':=cs.set j (.int .u8 ((b8 (n / 256)).toNat:Int))) ⟨by omega,rfl,rfl⟩ fun h=>?_
  (refine Ja ?_;unhygienic intros)
  rw [Int.toNat_natCast]
  refine Je ?_
  refine Tr.xVS (cs':=(cs.set j (.int .u8 ((b8 (n / 256)).toNat:Int))).set (j+1) (.int .u8 ((b8 n).toNat:Int))) ⟨by simp;omega,rfl,rfl⟩ fun h=>?_
  refine Ys fun o=>?_
  exact ⟨⟨_,rfl⟩,o.sub⟩
 ·refine Yt (by simp;omega) ?_
  rw [if_neg h]
  refine Ys fun o=>?_
  exact ⟨⟨_,rfl⟩,o.sub⟩
theorem D17 (l:List UInt8) (j:Nat) (x:UInt8):(A0 l).set j (.int .u8 (x.toNat:Int))=A0 (l.set j x):=by simp [A0,List.map_set]
theorem D87 (a:Option Addr) (c m:Nat) (l:List UInt8) (j:Nat) (n:Int) (hm:l.length=m) (hj:j+2≤m) (h1:l[j]?=some 0) (h2:l[j+1]?=some 0) (hl:m≤A8):Ct A6 Be8 [.slice a m c,int j,int n] [slC false A2 1 a m c (A0 l)] fun v own =>
  (∃ ok,v=.bool ok)∧own [slC false A2 1 a m c (A0 ((l.set j (hi2 n)).set (j+1) (lo2 n)))]:=by
 subst hm
 have J:=Id2 a c (A0 l) j n (by rw [S8];omega) (by rw [S8];omega)
 rw [S8] at J
 have e:(if 0≤n∧n≤65535 then ((A0 l).set j (.int .u8 ((b8 (n / 256)).toNat:Int))).set (j+1) (.int .u8 ((b8 n).toNat:Int)) else A0 l)=A0 ((l.set j (hi2 n)).set (j+1) (lo2 n)):=by
  unfold hi2 lo2
  split
  ·rw [D17,D17]
  ·rw [Eg7 h1,Eg7 h2]
 rw [e] at J
 exact J
def two (l:List UInt8) (j:Nat):Int:=byI l j*256+byI l (j+1)
theorem Ij0 (x y:UInt8):Ho7 .i64 (IntKind.wrap .i64 (IntKind.wrap .i64 (x.toNat:Int)*2 ^ 8)) (IntKind.wrap .i64 (y.toNat:Int))=(x.toNat:Int)*256+y.toNat:=by
 have hx:=x.toNat_lt;have hy:=y.toNat_lt
 have e1:IntKind.wrap .i64 (IntKind.wrap .i64 (x.toNat:Int)*2 ^ 8)=((x.toNat*256:Nat):Int):=by rw [Al2,A7];omega
 rw [e1,Al2]
 unfold Ho7
 have e0:IntKind.bits .i64=64:=rfl
 rw [e0,BitVec.ofInt_natCast,BitVec.ofInt_natCast,BitVec.toNat_or,BitVec.toNat_ofNat,BitVec.toNat_ofNat,Nat.mod_eq_of_lt (by omega),Nat.mod_eq_of_lt (by omega)]
 have e2:x.toNat*256 ||| y.toNat=x.toNat*256+y.toNat:=by
  have:=Nat.two_pow_add_eq_or_of_lt (i:=8) (b:=y.toNat) (by omega) x.toNat
  rw [show 2 ^ 8*x.toNat=x.toNat*256 by omega] at this
  exact this.symm
 rw [e2,A7];omega
theorem Er2 (a:Option Addr) (c n:Nat) (l:List UInt8) (j:Nat) (hn:l.length=n) (hj:j+2≤n) (hm:n≤A8):CtP A6 Bx0 [.slice a n c,int j] [slC false A2 1 a n c (A0 l)] (.tuple ⟨[int (two l j),.bool true]⟩):=by
 simp only [A8] at hm
 have e1:IntKind.wrap .i64 ((n:Int)-2)=(n:Int)-2:=by rw [A7];omega
 have e2:IntKind.wrap .i64 ((j:Int)+1)=((j+1:Nat):Int):=by rw [A7];omega
 refine CtP.of Gw7 rfl fun h r=>Tr.eq (G53 ..) ?_;refine Je ?_
 rw [e1,e2]
 (refine Ja ?_;unhygienic intros)
 refine Yf (by simp;omega) ?_
 (refine Ja ?_;unhygienic intros;repeat(refine Gw ?_;rintro px rfl;refine Ja ?_;unhygienic intros))
 rw [Int.toNat_natCast]
 refine Je ?_
 refine Tr.xIntS (v:=byI l j) (Ac5 (by omega)) ?_
 (refine Ja ?_;unhygienic intros)
 rw [Int.toNat_natCast]
 refine Je ?_
 refine Tr.xIntS (v:=byI l (j+1)) (Ac5 (by omega)) ?_
 refine Ys fun o=>?_
 rw [Ij0];exact ⟨rfl,rfl⟩
theorem Ia0 (a:Option Addr) (c:Nat) (p:ProcS):Ct A6 N8 [.agg ⟨E2 p⟩,.slice a 24 c] [slC false A2 1 a 24 c (A0 (List.replicate 24 0))] fun v own=>v=.bool (okS p)∧own [slC false A2 1 a 24 c (A0 (if okS p then Au0 p else List.replicate 24 0))]:=by
 refine Ct.of H4 rfl fun h r=>Tr.eq (G75 ..) ?_;refine Je ?_
 refine Yn fun b1 h=>?_
 (refine Ja ?_;unhygienic intros)
 refine Yc (Ij1 p) ?_;rintro _ h ⟨rfl,o⟩<;>(refine Jf o ?_;unhygienic intros)
 cases hk:okS p with
 | false =>
  (refine Ja ?_;unhygienic intros)
  refine Ys fun o=>?_
  rw [if_neg (by simp)]
  exact ⟨rfl,o.sub⟩
 | true =>
  simp only [if_true]
  obtain ⟨st,pa,gr,co,pe,ma,ig,ca,fds,len⟩:=p
  match fds,len with
  | [f0,f1,f2,f3,f4,f5,f6,f7],len =>
  (refine Ja ?_;unhygienic intros)
  rename_i b2 h2
  refine Q9 2 rfl fun hl hc _=>?_
  simp only [List.map]
  refine Tr.jmp H4 (Tr.eq (A14 ..) ?_);(try simp only[Nr,Nl,wl,Nat.reduceAdd,Nat.reduceMul,Int.reduceToNat])
  (refine Jd ?_;unhygienic intros;repeat(refine Gw ?_;rintro px rfl;refine Jd ?_;unhygienic intros))
  refine Tr.jmp H4 (Tr.eq (A14 ..) ?_);(try simp only[Nr,Nl,wl,Nat.reduceAdd,Nat.reduceMul,Int.reduceToNat])
  (refine Jd ?_;unhygienic intros)
  refine Tr.jmp H4 (Tr.eq (A14 ..) ?_);(try simp only[Nr,Nl,wl,Nat.reduceAdd,Nat.reduceMul,Int.reduceToNat])
  (refine Jd ?_;unhygienic intros)
  refine Tr.jmp H4 (Tr.eq (A14 ..) ?_);(try simp only[Nr,Nl,wl,Nat.reduceAdd,Nat.reduceMul,Int.reduceToNat])
  (refine Jd ?_;unhygienic intros)
  refine Tr.jmp H4 (Tr.eq (A14 ..) ?_);(try simp only[Nr,Nl,wl,Nat.reduceAdd,Nat.reduceMul,Int.reduceToNat])
  (refine Jd ?_;unhygienic intros)
  simp only [Bf0,D17,List.replicate,List.set_cons_zero,List.set_cons_succ,Nat.mul_one]
  refine Tr.jmp H4 (Tr.eq (A46 ..) ?_);(try simp only[Nr,Nl,wl,Nat.reduceAdd,Nat.reduceMul,Int.reduceToNat])
  (refine Jd ?_;unhygienic intros)
  refine Yc (D87 (some px) c 24 [b8 st,b8 pa,b8 gr,b8 co,0,0,0,0,0,0,0,0,0,0,0,0,0,0,0,0,0,0,0,0] 4 pe rfl (by omega) rfl rfl (by simp [A8])) ?_;rintro _ h ⟨⟨_,rfl⟩,o⟩<;>(refine Jf o ?_;unhygienic intros)
  refine Tr.jmp H4 (Tr.eq (A46 ..) ?_);(try simp only[Nr,Nl,wl,Nat.reduceAdd,Nat.reduceMul,Int.reduceToNat])
  (refine Jd ?_;unhygienic intros)
  refine Yc (D87 (some px) c 24 [b8 st,b8 pa,b8 gr,b8 co,hi2 pe,lo2 pe,0,0,0,0,0,0,0,0,0,0,0,0,0,0,0,0,0,0] 6 ma rfl (by omega) rfl rfl (by simp [A8])) ?_;rintro _ h ⟨⟨_,rfl⟩,o⟩<;>(refine Jf o ?_;unhygienic intros)
  refine Tr.jmp H4 (Tr.eq (A46 ..) ?_);(try simp only[Nr,Nl,wl,Nat.reduceAdd,Nat.reduceMul,Int.reduceToNat])
  (refine Jd ?_;unhygienic intros)
  refine Yc (D87 (some px) c 24 [b8 st,b8 pa,b8 gr,b8 co,hi2 pe,lo2 pe,hi2 ma,lo2 ma,0,0,0,0,0,0,0,0,0,0,0,0,0,0,0,0] 8 ig rfl (by omega) rfl rfl (by simp [A8])) ?_;rintro _ h ⟨⟨_,rfl⟩,o⟩<;>(refine Jf o ?_;unhygienic intros)
  refine Tr.jmp H4 (Tr.eq (A46 ..) ?_);(try simp only[Nr,Nl,wl,Nat.reduceAdd,Nat.reduceMul,Int.reduceToNat])
  (refine Jd ?_;unhygienic intros)
  refine Yc (D87 (some px) c 24 [b8 st,b8 pa,b8 gr,b8 co,hi2 pe,lo2 pe,hi2 ma,lo2 ma,hi2 ig,lo2 ig,0,0,0,0,0,0,0,0,0,0,0,0,0,0] 10 ca rfl (by omega) rfl rfl (by simp [A8])) ?_;rintro _ h ⟨⟨_,rfl⟩,o⟩<;>(refine Jf o ?_;unhygienic intros)
  refine Tr.jmp H4 (Tr.eq (A46 ..) ?_);(try simp only[Nr,Nl,wl,Nat.reduceAdd,Nat.reduceMul,Int.reduceToNat])
  (refine Jd ?_;unhygienic intros)
  refine Tr.jmp H4 (Tr.eq (W7 ..) ?_);(try simp only[Nr,Nl,wl,Nat.reduceAdd,Nat.reduceMul,Int.reduceToNat])
  (refine Jd ?_;unhygienic intros)
  refine Tr.jmp H4 (Tr.eq (W7 ..) ?_);(try simp only[Nr,Nl,wl,Nat.reduceAdd,Nat.reduceMul,Int.reduceToNat])
  (refine Jd ?_;unhygienic intros)
  refine Tr.jmp H4 (Tr.eq (W7 ..) ?_);(try simp only[Nr,Nl,wl,Nat.reduceAdd,Nat.reduceMul,Int.reduceToNat])
  (refine Jd ?_;unhygienic intros)
  refine Tr.jmp H4 (Tr.eq (W7 ..) ?_);(try simp only[Nr,Nl,wl,Nat.reduceAdd,Nat.reduceMul,Int.reduceToNat])
  (refine Jd ?_;unhygienic intros)
  refine Tr.jmp H4 (Tr.eq (W7 ..) ?_);(try simp only[Nr,Nl,wl,Nat.reduceAdd,Nat.reduceMul,Int.reduceToNat])
  (refine Jd ?_;unhygienic intros)
  refine Tr.jmp H4 (Tr.eq (W7 ..) ?_);(try simp only[Nr,Nl,wl,Nat.reduceAdd,Nat.reduceMul,Int.reduceToNat])
  (refine Jd ?_;unhygienic intros)
  refine Tr.jmp H4 (Tr.eq (W7 ..) ?_);(try simp only[Nr,Nl,wl,Nat.reduceAdd,Nat.reduceMul,Int.reduceToNat])
  (refine Jd ?_;unhygienic intros)
  refine Tr.jmp H4 (Tr.eq (W7 ..) ?_);(try simp only[Nr,Nl,wl,Nat.reduceAdd,Nat.reduceMul,Int.reduceToNat])
  (refine Jd ?_;unhygienic intros)
  refine Tr.jmp H4 (Tr.eq (W7 ..) ?_);(try simp only[Nr,Nl,wl,Nat.reduceAdd,Nat.reduceMul,Int.reduceToNat])
  (refine Jd ?_;unhygienic intros)
  simp only [Bf0,D17,List.set_cons_zero,List.set_cons_succ,Nat.mul_one]
  rw [show (.int .u8 167:Value)=.int .u8 ((167:UInt8).toNat:Int) from rfl,D17]
  simp only [List.set_cons_zero,List.set_cons_succ]
  refine Tr.pcall (E42 (slC false A2 1 (some px) 24 c (A0 [b8 st,b8 pa,b8 gr,b8 co,hi2 pe,lo2 pe,hi2 ma,lo2 ma,hi2 ig,lo2 ig,hi2 ca,lo2 ca,b8 f0,b8 f1,b8 f2,b8 f3,b8 f4,b8 f5,b8 f6,b8 f7,167,0,0,0])) (some px) false 24 c c [b8 st,b8 pa,b8 gr,b8 co,hi2 pe,lo2 pe,hi2 ma,lo2 ma,hi2 ig,lo2 ig,hi2 ca,lo2 ca,b8 f0,b8 f1,b8 f2,b8 f3,b8 f4,b8 f5,b8 f6,b8 f7,167,0,0,0] 21 (by simp) (by simp [A8])) ?_
  refine Je ?_
  (refine Ja ?_;unhygienic intros)
  rw [Dj4]
  (refine Jd ?_;unhygienic intros)
  refine Ys fun o=>?_
  rw [D17] at o
  simp only [List.set_cons_zero,List.set_cons_succ] at o
  simp only [Au0,D80,put2,List.map,List.cons_append,List.nil_append]
  exact ⟨trivial,o.sub⟩
abbrev E12 (k:Nat):HP:=pt k (.cells Bn2 false [int 24,.func (.func N8) ⟨[]⟩ ⟨[]⟩,.func (.func W3) ⟨[]⟩ ⟨[]⟩])
theorem G98 (k:Nat) (f:ProcS):Ct A6 V2 [P0 k,.agg ⟨E2 f⟩] [E12 k] fun v own=>(okS f=true∧∃ a,v=.tuple ⟨[.slice a 24 24,.bool true]⟩∧own [E12 k,slC false A2 1 a 24 24 (A0 (Au0 f))])∨(okS f=false∧v=.tuple ⟨[.slice none 0 0,.bool false]⟩∧own [E12 k]):=by
 refine Ct.of B09 rfl fun h r=>Tr.eq (B07 ..) ?_;refine Je ?_
 (refine Ja ?_;unhygienic intros)
 refine Tr.ck ⟨by omega,by omega,by simp [A8]⟩ ?_
 refine Yn fun b1 h=>?_
 rw [show I1 (Int.toNat 24) [.int .u8 0]=A0 (List.replicate 24 0) from rfl]
 refine W6 0 rfl 1 24 rfl (by omega) ?_
 simp only [List.set_cons_zero]
 refine Je ?_
 (refine Jb ?_;unhygienic intros)
 refine Yb (Yf rfl ?_)
 (refine Jb ?_;unhygienic intros)
 refine Yc (Ia0 (some ⟨b1,0,none⟩) 24 f) ?_;rintro _ h ⟨rfl,o⟩<;>(refine Jg o ?_;unhygienic intros)
 refine Ys fun o=>(?_:Tr _ _ _ _) o;refine Je ?_
 cases hk:okS f with
 | false =>
  (refine Ja ?_;unhygienic intros)
  refine Ys fun o=>?_
  exact .inr ⟨rfl,rfl,o.sub⟩
 | true =>
  (refine Ja ?_;unhygienic intros)
  refine Ys fun o=>?_
  simp only [if_true] at o
  exact .inl ⟨rfl,_,rfl,o.sub⟩
theorem Ib1:Ct A6 Al8 [int 24,.func (.func N8) ⟨[]⟩ ⟨[]⟩,.func (.func W3) ⟨[]⟩ ⟨[]⟩] [] fun v own=>∃ k,v=P0 k∧own [E12 k]:=by
 refine Ct.of D28 rfl fun h r=>Tr.eq (D62 ..) ?_;refine Je ?_
 rw [show mm2 false (mm2 true 24 0) 64=24 from rfl]
 (refine Ja ?_;unhygienic intros)
 refine Ys fun o=>?_
 exact ⟨_,rfl,o.sub⟩
theorem Gj0:Ct A6 A87 [] [] fun v own=>∃ k,v=P0 k∧own [E12 k]:=by
 refine Ct.of Gn6 rfl fun h r=>Tr.eq (Gn5 ..) ?_;refine Je ?_
 refine Yc (Ib1) ?_;rintro _ h ⟨k,rfl,o⟩<;>(refine Jf o ?_;unhygienic intros)
 refine Ys fun o=>?_
 exact ⟨_,rfl,o.sub⟩
theorem E52 (f:ProcS):Ct A6 A37 [.agg ⟨E2 f⟩] [] fun v own=>(okS f=true∧∃ a,v=.tuple ⟨[.slice a 24 24,.bool true]⟩∧own [slC false A2 1 a 24 24 (A0 (Au0 f))])∨(okS f=false∧v=.tuple ⟨[.slice none 0 0,.bool false]⟩∧own []):=by
 refine Ct.of Gh0 rfl fun h r=>Tr.eq (Gd0 ..) ?_;refine Je ?_
 (refine Ja ?_;unhygienic intros)
 refine Yc (Gj0) ?_;rintro _ h ⟨k,rfl,o⟩<;>(refine Jg o ?_;unhygienic intros)
 refine Yc (G98 k f) ?_
 rintro v h (⟨hk,a,rfl,o⟩|⟨hk,rfl,o⟩)
 ·refine (?_:Tr _ _ _ _) o
  refine Je ?_
  (refine Ja ?_;unhygienic intros)
  refine Ys fun o=>?_
  exact .inl ⟨hk,a,rfl,o.sub⟩
 ·refine (?_:Tr _ _ _ _) o
  refine Je ?_
  (refine Ja ?_;unhygienic intros)
  refine Ys fun o=>?_
  exact .inr ⟨hk,rfl,o.sub⟩
def Bb4 (l:List UInt8):ProcS:=⟨byI l 0,byI l 1,byI l 2,byI l 3,two l 4,two l 6,two l 8,two l 10,[byI l 12,byI l 13,byI l 14,byI l 15,byI l 16,byI l 17,byI l 18,byI l 19],rfl⟩
def isS (l:List UInt8):Bool:=okS (Bb4 l) && decide (Au0 (Bb4 l)=l)
theorem Ie7 (a:Option Addr) (c:Nat) (l:List UInt8) (hl:l.length=24):Ct A6 W3 [.slice a 24 c] [slC false A2 1 a 24 c (A0 l)] fun v own=>v=.tuple ⟨[.agg ⟨E2 (Bb4 l)⟩,.bool (isS l)]⟩∧own [slC false A2 1 a 24 c (A0 l)]:=by
 have key:∀ a1:Option Addr,CtP A6 D4 [.slice a1 24 24,.slice a 24 c] [slC false A2 1 a1 24 24 (A0 (Au0 (Bb4 l))),slC false A2 1 a 24 c (A0 l)] (.bool (decide (Au0 (Bb4 l)=l))):=fun a1=>by
  have e:=D71 (Bb4 l)
  have J:=Ee2 (slC false A2 1 a1 (Au0 (Bb4 l)).length 24 (A0 (Au0 (Bb4 l)))) (slC false A2 1 a l.length c (A0 l)) a1 false 24 a false c (Au0 (Bb4 l)) l (by rw [e];simp [A8])
  rwa [hl,e] at J
 refine Ct.of O0 rfl fun h r=>Tr.eq (G64 ..) ?_;refine Je ?_
 refine Yn fun b1 h=>?_
 refine Q9 1 rfl fun hl2 hc2 _=>?_
 (refine Ja ?_;unhygienic intros;repeat(refine Gw ?_;rintro px rfl;refine Ja ?_;unhygienic intros))
 refine Tr.xIntS (v:=byI l 0) (Ac5 (by omega)) ?_
 (refine Ja ?_;unhygienic intros)
 refine Tr.xIntS (v:=byI l 1) (Ac5 (by omega)) ?_
 (refine Ja ?_;unhygienic intros)
 refine Tr.xIntS (v:=byI l 2) (Ac5 (by omega)) ?_
 (refine Ja ?_;unhygienic intros)
 refine Tr.xIntS (v:=byI l 3) (Ac5 (by omega)) ?_
 (refine Ja ?_;unhygienic intros)
 simp only [byI,Al2]
 refine Tr.jmp O0 (Tr.eq (A22 ..) ?_);(try simp only[Nr,Nl,wl,Nat.reduceAdd,Nat.reduceMul,Int.reduceToNat])
 (refine Jd ?_;unhygienic intros)
 refine Tr.pcall (Er2 (some px) c 24 l 4 hl (by omega) (by simp [A8])) ?_;refine Je ?_;(refine Ja ?_;unhygienic intros)
 refine Tr.jmp O0 (Tr.eq (A22 ..) ?_);(try simp only[Nr,Nl,wl,Nat.reduceAdd,Nat.reduceMul,Int.reduceToNat])
 (refine Jd ?_;unhygienic intros)
 refine Tr.pcall (Er2 (some px) c 24 l 6 hl (by omega) (by simp [A8])) ?_;refine Je ?_;(refine Ja ?_;unhygienic intros)
 refine Tr.jmp O0 (Tr.eq (A22 ..) ?_);(try simp only[Nr,Nl,wl,Nat.reduceAdd,Nat.reduceMul,Int.reduceToNat])
 (refine Jd ?_;unhygienic intros)
 refine Tr.pcall (Er2 (some px) c 24 l 8 hl (by omega) (by simp [A8])) ?_;refine Je ?_;(refine Ja ?_;unhygienic intros)
 refine Tr.jmp O0 (Tr.eq (A22 ..) ?_);(try simp only[Nr,Nl,wl,Nat.reduceAdd,Nat.reduceMul,Int.reduceToNat])
 (refine Jd ?_;unhygienic intros)
 refine Tr.pcall (Er2 (some px) c 24 l 10 hl (by omega) (by simp [A8])) ?_;refine Je ?_;(refine Ja ?_;unhygienic intros)
 refine Tr.jmp O0 (Tr.eq (A22 ..) ?_);(try simp only[Nr,Nl,wl,Nat.reduceAdd,Nat.reduceMul,Int.reduceToNat])
 (refine Jd ?_;unhygienic intros)
 refine Tr.jmp O0 (Tr.eq (W5 ..) ?_);(try simp only[Nr,Nl,wl,Nat.reduceAdd,Nat.reduceMul,Int.reduceToNat])
 (refine Jd ?_;unhygienic intros)
 refine Tr.xIntS (v:=byI l 12) (Ac5 (by omega)) ?_
 (refine Jd ?_;unhygienic intros)
 simp only [byI,Al2]
 refine Tr.jmp O0 (Tr.eq (W5 ..) ?_);(try simp only[Nr,Nl,wl,Nat.reduceAdd,Nat.reduceMul,Int.reduceToNat])
 (refine Jd ?_;unhygienic intros)
 refine Tr.xIntS (v:=byI l 13) (Ac5 (by omega)) ?_
 (refine Jd ?_;unhygienic intros)
 simp only [byI,Al2]
 refine Tr.jmp O0 (Tr.eq (W5 ..) ?_);(try simp only[Nr,Nl,wl,Nat.reduceAdd,Nat.reduceMul,Int.reduceToNat])
 (refine Jd ?_;unhygienic intros)
 refine Tr.xIntS (v:=byI l 14) (Ac5 (by omega)) ?_
 (refine Jd ?_;unhygienic intros)
 simp only [byI,Al2]
 refine Tr.jmp O0 (Tr.eq (W5 ..) ?_);(try simp only[Nr,Nl,wl,Nat.reduceAdd,Nat.reduceMul,Int.reduceToNat])
 (refine Jd ?_;unhygienic intros)
 refine Tr.xIntS (v:=byI l 15) (Ac5 (by omega)) ?_
 (refine Jd ?_;unhygienic intros)
 simp only [byI,Al2]
 refine Tr.jmp O0 (Tr.eq (W5 ..) ?_);(try simp only[Nr,Nl,wl,Nat.reduceAdd,Nat.reduceMul,Int.reduceToNat])
 (refine Jd ?_;unhygienic intros)
 refine Tr.xIntS (v:=byI l 16) (Ac5 (by omega)) ?_
 (refine Jd ?_;unhygienic intros)
 simp only [byI,Al2]
 refine Tr.jmp O0 (Tr.eq (W5 ..) ?_);(try simp only[Nr,Nl,wl,Nat.reduceAdd,Nat.reduceMul,Int.reduceToNat])
 (refine Jd ?_;unhygienic intros)
 refine Tr.xIntS (v:=byI l 17) (Ac5 (by omega)) ?_
 (refine Jd ?_;unhygienic intros)
 simp only [byI,Al2]
 refine Tr.jmp O0 (Tr.eq (W5 ..) ?_);(try simp only[Nr,Nl,wl,Nat.reduceAdd,Nat.reduceMul,Int.reduceToNat])
 (refine Jd ?_;unhygienic intros)
 refine Tr.xIntS (v:=byI l 18) (Ac5 (by omega)) ?_
 (refine Jd ?_;unhygienic intros)
 simp only [byI,Al2]
 refine Tr.jmp O0 (Tr.eq (W5 ..) ?_);(try simp only[Nr,Nl,wl,Nat.reduceAdd,Nat.reduceMul,Int.reduceToNat])
 (refine Jd ?_;unhygienic intros)
 refine Tr.xIntS (v:=byI l 19) (Ac5 (by omega)) ?_
 (refine Jd ?_;unhygienic intros)
 simp only [byI,Al2]
 refine Tr.jmp O0 (Tr.eq (W5 ..) ?_);(try simp only[Nr,Nl,wl,Nat.reduceAdd,Nat.reduceMul,Int.reduceToNat])
 refine Yf rfl ?_
 refine Tr.xAgg (xs:=E2 (Bb4 l)) ⟨Nat.le_of_ble_eq_true rfl,rfl⟩ ?_
 refine Yc (E52 (Bb4 l)) ?_
 rintro v h (⟨hk,a1,rfl,o⟩|⟨hk,rfl,o⟩)
 ·refine (?_:Tr _ _ _ _) o
  refine Je ?_
  refine Tr.dx ?_
  refine Tr.dx ?_
  refine Tr.dx ?_
  refine Tr.xAgg (xs:=E2 (Bb4 l)) ⟨Nat.le_of_ble_eq_true rfl,rfl⟩ ?_
  refine Yb (Yt rfl ?_)
  refine Tr.pcall (key a1) ?_
  refine Tr.dx ?_
  refine Tr.xAgg (xs:=E2 (Bb4 l)) ⟨Nat.le_of_ble_eq_true rfl,rfl⟩ ?_
  (refine Ja ?_;unhygienic intros)
  refine Ys fun o=>(?_:Tr _ _ _ _) o;refine Je ?_
  (refine Ja ?_;unhygienic intros)
  refine Ys fun o=>?_
  exact ⟨by unfold isS;rw [hk,Bool.true_and],o.sub⟩
 ·refine (?_:Tr _ _ _ _) o
  refine Je ?_
  refine Tr.dx ?_
  refine Tr.dx ?_
  refine Tr.dx ?_
  refine Tr.xAgg (xs:=E2 (Bb4 l)) ⟨Nat.le_of_ble_eq_true rfl,rfl⟩ ?_
  (refine Ja ?_;unhygienic intros)
  refine Ys fun o=>?_
  exact ⟨by unfold isS;rw [hk];rfl,o.sub⟩
theorem Hc0 (k:Nat) (a:Option Addr) (c:Nat) (l:List UInt8) (hl:l.length=24):Ct A6 V5 [P0 k,.slice a 24 c] [E12 k,slC false A2 1 a 24 c (A0 l)] fun v own=>v=.tuple ⟨[.agg ⟨E2 (if isS l then Bb4 l else .zero)⟩,.bool (isS l)]⟩∧own [E12 k,slC false A2 1 a 24 c (A0 l)]:=by
 refine Ct.of B05 rfl fun h r=>Tr.eq (B11 ..) ?_;refine Je ?_
 (refine Ja ?_;unhygienic intros)
 refine Yf rfl ?_
 (refine Jb ?_;unhygienic intros)
 refine Yc (Ef2 24 a c l hl (by simp [A8])) ?_;rintro _ h ⟨a1,c1,rfl,o⟩<;>(refine Jg o ?_;unhygienic intros)
 refine Yc (Ie7 a1 c1 l hl) ?_;rintro _ h ⟨rfl,o⟩<;>(refine Jg o ?_;unhygienic intros)
 cases hk:isS l with
 | false =>
  (refine Ja ?_;unhygienic intros)
  refine Ys fun o=>?_
  exact ⟨rfl,o.sub⟩
 | true =>
  (refine Ja ?_;unhygienic intros)
  refine Ys fun o=>?_
  exact ⟨rfl,o.sub⟩
def Y4 (l:List UInt8):ProcS × Int:=if l.all (·==0) then (.zero,0) else if isS l then (Bb4 l,1) else (.zero,2)
theorem Hi5 (a:Option Addr) (c:Nat) (l:List UInt8) (hl:l.length=24):Ct A6 A34 [.slice a 24 c] [slC false A2 1 a 24 c (A0 l)] fun v own=>v=.tuple ⟨[.agg ⟨E2 (Y4 l).1⟩,int (Y4 l).2]⟩∧own [slC false A2 1 a 24 c (A0 l)]:=by
 refine Ct.of Ge5 rfl fun h r=>Tr.eq (Gf7 ..) ?_;refine Je ?_
 refine Yn fun b1 h=>?_
 refine Yb (Yt rfl ?_)
 refine Tr.pcall (Ei1 24 a c l hl (by simp [A8])) ?_;refine Je ?_;(refine Jb ?_;unhygienic intros)
 refine Ys fun o=>(?_:Tr _ _ _ _) o;refine Je ?_
 cases hb:l.all (·==0) with
 | true =>
  (refine Ja ?_;unhygienic intros)
  refine Ys fun o=>?_
  exact ⟨by unfold Y4;rw [hb];rfl,o.sub⟩
 | false =>
  (refine Jb ?_;unhygienic intros)
  refine Yc (Gj0) ?_;rintro _ h ⟨k,rfl,o⟩<;>(refine Jg o ?_;unhygienic intros)
  refine Yc (Hc0 k a c l hl) ?_;rintro _ h ⟨rfl,o⟩<;>(refine Jg o ?_;unhygienic intros)
  cases hk:isS l with
  | false =>
   (refine Ja ?_;unhygienic intros)
   refine Ys fun o=>?_
   exact ⟨by unfold Y4;rw [hb,hk];rfl,o.sub⟩
  | true =>
   (refine Ja ?_;unhygienic intros)
   refine Ys fun o=>?_
   exact ⟨by unfold Y4;rw [hb,hk];rfl,o.sub⟩
def L1 (l:List UInt8) (a:Nat) (b:List UInt8):List UInt8:=l.take a++b++l.drop (a+b.length)
theorem Ae3 {l b:List UInt8} {a:Nat} (h:a+b.length≤l.length):(L1 l a b).length=l.length:=by simp [L1];omega
theorem Bi9 {l b:List UInt8} {a:Nat} (h:a+b.length≤l.length) (i:Nat):(L1 l a b)[i]?=if a≤i∧i<a+b.length then b[i-a]? else l[i]?:=by
 unfold L1
 by_cases h1:i<a
 ·rw [if_neg (by omega),List.append_assoc,List.getElem?_append_left (by simp;omega),List.getElem?_take,if_pos h1]
 ·rw [List.append_assoc,List.getElem?_append_right (by simp;omega),List.length_take,Nat.min_eq_left (by omega)]
  by_cases h2:i<a+b.length
  ·rw [if_pos ⟨by omega,h2⟩,List.getElem?_append_left (by omega)]
  ·rw [if_neg (by omega),List.getElem?_append_right (by omega),List.getElem?_drop];congr 1;omega
def slice (l:List UInt8) (a n:Nat):List UInt8:=(l.drop a).take n
theorem Bt0 (l:List UInt8) (a n i:Nat):(slice l a n)[i]?=if i<n then l[a+i]? else none:=by
 unfold slice;rw [List.getElem?_take];split
 ·rw [List.getElem?_drop]
 ·rfl
theorem Gn1 {l:List UInt8} {a n:Nat} (h:a+n≤l.length):(slice l a n).length=n:=by simp [slice];omega
abbrev Rg:=List (Nat × Nat)
def Ay5:List UInt8→Rg→List (List UInt8)→List UInt8
 | l,(lo,_)::rg,x::m=>Ay5 (L1 l lo x) rg m
 | l,_,_=>l
structure Fit (size:Nat) (rg:Rg) (m:List (List UInt8)):Prop where
 len:m.length=rg.length
 each:∀ (j lo n:Nat),rg[j]?=some (lo,n)→lo+n≤size∧∃ x,m[j]?=some x∧x.length=n
def RgOk (rg:Rg):Prop:=∀ (i j lo n lo' n':Nat),i≠j→rg[i]?=some (lo,n)→rg[j]?=some (lo',n')→lo+n≤lo'∨lo'+n'≤lo
theorem Fit.tail {size:Nat} {p:Nat × Nat} {rg:Rg} {x:List UInt8} {m:List (List UInt8)} (f:Fit size (p::rg) (x::m)):Fit size rg m:=⟨by simpa using f.len,fun j lo n h=>by simpa using f.each (j+1) lo n (by simpa using h)⟩
theorem Fit.head {size lo n:Nat} {rg:Rg} {x:List UInt8} {m:List (List UInt8)} (f:Fit size ((lo,n)::rg) (x::m)):lo+n≤size∧x.length=n:=by
 obtain ⟨h,y,hy,hl⟩:=f.each 0 lo n rfl
 simp at hy;subst hy;exact ⟨h,hl⟩
theorem RgOk.tail {p:Nat × Nat} {rg:Rg} (k:RgOk (p::rg)):RgOk rg:=fun i j lo n lo' n' hij hi hj=>k (i+1) (j+1) lo n lo' n' (by omega) (by simpa using hi) (by simpa using hj)
theorem Dm8:∀ {rg:Rg} {m:List (List UInt8)} {l:List UInt8},Fit l.length rg m→(Ay5 l rg m).length=l.length
 | [],m,l,f=>by simp [Ay5]
 | (lo,n)::rg,[],l,f=>by simp [Ay5]
 | (lo,n)::rg,x::m,l,f=>by
  have h:=f.head
  have e:=Ae3 (l:=l) (b:=x) (a:=lo) (by omega)
  unfold Ay5
  rw [Dm8 (by rw [e];exact f.tail),e]
theorem Dl3:∀ {rg:Rg} {m:List (List UInt8)} {l:List UInt8},Fit l.length rg m→∀ i,(∀ (j lo n:Nat),rg[j]?=some (lo,n)→i<lo∨lo+n≤i)→(Ay5 l rg m)[i]?=l[i]?
 | [],m,l,f,i,h=>by simp [Ay5]
 | (lo,n)::rg,[],l,f,i,h=>by simp [Ay5]
 | (lo,n)::rg,x::m,l,f,i,h=>by
  have h0:=f.head
  have e:=Ae3 (l:=l) (b:=x) (a:=lo) (by omega)
  unfold Ay5
  rw [Dl3 (by rw [e];exact f.tail) i (fun j lo' n' hj=>h (j+1) lo' n' (by simpa using hj)),Bi9 (by omega),if_neg]
  have:=h 0 lo n rfl;omega
theorem B45:∀ {rg:Rg} {m:List (List UInt8)} {l:List UInt8},Fit l.length rg m→RgOk rg→∀ (j lo n:Nat) (x:List UInt8),rg[j]?=some (lo,n)→m[j]?=some x→∀ i,i<n→(Ay5 l rg m)[lo+i]?=x[i]?
 | [],m,l,f,k,j,lo,n,x,h,hx,i,hi=>by simp at h
 | (lo0,n0)::rg,[],l,f,k,j,lo,n,x,h,hx,i,hi=>by simp at hx
 | (lo0,n0)::rg,x0::m,l,f,k,j,lo,n,x,h,hx,i,hi=>by
  have h0:=f.head
  have e:=Ae3 (l:=l) (b:=x0) (a:=lo0) (by omega)
  unfold Ay5
  cases j with
  | zero =>
   simp at h hx
   obtain ⟨rfl,rfl⟩:=h;subst hx
   rw [Dl3 (by rw [e];exact f.tail) (lo0+i) (fun j lo' n' hj=>by
    have:=k 0 (j+1) lo0 n0 lo' n' (by omega) rfl (by simpa using hj)
    omega),Bi9 (by omega),if_pos (by omega)]
   congr 1;omega
  | succ j=>exact B45 (by rw [e];exact f.tail) k.tail j lo n x (by simpa using h) (by simpa using hx) i hi
theorem Hj8 {rg:Rg} {m:List (List UInt8)} {l:List UInt8} (f:Fit l.length rg m) (k:RgOk rg) {j lo n:Nat} {x:List UInt8} (h:rg[j]?=some (lo,n)) (hx:m[j]?=some x) {a c:Nat} (hc:a+c≤n):slice (Ay5 l rg m) (lo+a) c=slice x a c:=by
 refine List.ext_getElem? fun i=>?_
 rw [Bt0,Bt0]
 split
 ·rw [Nat.add_assoc,B45 f k j lo n x h hx (a+i) (by omega)]
 ·rfl
theorem Fit.set {size:Nat} {rg:Rg} {m:List (List UInt8)} (f:Fit size rg m) {j lo n:Nat} (h:rg[j]?=some (lo,n)) {y:List UInt8} (hy:y.length=n):Fit size rg (m.set j y):=⟨by simpa using f.len,fun i lo' n' hi=>by
 obtain ⟨h1,z,hz,hl⟩:=f.each i lo' n' hi
 refine ⟨h1,?_⟩
 by_cases hij:j=i
 ·subst hij
  rw [h] at hi;cases hi
  exact ⟨y,by simp [(List.getElem?_eq_some_iff.1 hz).1],hy⟩
 ·exact ⟨z,by rw [List.getElem?_set_ne hij];exact hz,hl⟩⟩
theorem G70 {rg:Rg} {m:List (List UInt8)} {l:List UInt8} (f:Fit l.length rg m) (k:RgOk rg) {j lo n:Nat} {x:List UInt8} (h:rg[j]?=some (lo,n)) (hx:m[j]?=some x) {a:Nat} {b:List UInt8} (hc:a+b.length≤n):L1 (Ay5 l rg m) (lo+a) b=Ay5 l rg (m.set j (L1 x a b)):=by
 obtain ⟨h1,y,hy,hl⟩:=f.each j lo n h
 rw [hx] at hy;cases hy
 have e:=Ae3 (l:=x) (b:=b) (a:=a) (by omega)
 have f2:=f.set h (y:=L1 x a b) (by omega)
 have lp:=Dm8 f
 refine List.ext_getElem? fun i=>?_
 rw [Bi9 (by omega)]
 by_cases hi:lo≤i∧i<lo+n
 ·obtain ⟨i',rfl⟩:∃ i',i=lo+i':=⟨i-lo,by omega⟩
  rw [B45 f2 k j lo n (L1 x a b) h (by simp [(List.getElem?_eq_some_iff.1 hx).1]) i' (by omega),Bi9 (by omega),B45 f k j lo n x h hx i' (by omega)]
  by_cases h2:a≤i'∧i'<a+b.length
  ·rw [if_pos (by omega),if_pos h2];congr 1;omega
  ·rw [if_neg (by omega),if_neg h2]
 ·rw [if_neg (by omega)]
  by_cases ho:∃ (j' lo' n':Nat),rg[j']?=some (lo',n')∧lo'≤i∧i<lo'+n'
  ·obtain ⟨j',lo',n',hj',h3,h4⟩:=ho
   have hne:j≠j':=fun e=>by subst e;rw [h] at hj';cases hj';omega
   obtain ⟨_,z,hz,_⟩:=f.each j' lo' n' hj'
   obtain ⟨i',rfl⟩:∃ i',i=lo'+i':=⟨i-lo',by omega⟩
   rw [B45 f k j' lo' n' z hj' hz i' (by omega),B45 f2 k j' lo' n' z hj' (by rw [List.getElem?_set_ne hne];exact hz) i' (by omega)]
  ·have hall:∀ (j' lo' n':Nat),rg[j']?=some (lo',n')→i<lo'∨lo'+n'≤i:=fun j' lo' n' hj'=>by
    by_cases hh:lo'≤i∧i<lo'+n'
    ·exact absurd ⟨j',lo',n',hj',hh.1,hh.2⟩ ho
    ·omega
   rw [Dl3 f i hall,Dl3 f2 i hall]
structure RecS where
 kind:Int
 index:Int
deriving DecidableEq
abbrev Aa5 (r:RecS):List Value:=[int r.kind,int r.index]
structure Fr where
 S:KS
 N:Nat
 env:Int
 caps:List Int
 rg:Rg
structure FrOk (F:Fr):Prop where
 ok:KOk F.N F.S
 hN:F.N+1<1000000000
 ne:0<F.caps.length
 small:F.caps.length≤40
 len:F.rg.length=F.caps.length
 env:¬ (F.env<0∨F.env≥(F.S.envs.length:Int))
 pl:∀ (j:Nat) (cap:Int) (lo n:Nat),F.caps[j]?=some cap→F.rg[j]?=some (lo,n)→∀ (a m:Nat) (right:Int),right=1∨right=2→a+m≤n→O9 F.S.tabs F.S.regs F.env cap right a m=(((lo+a:Nat):Int),0)
 dj:RgOk F.rg
 own:∃ lo,F.rg[0]?=some (lo,492)
 brs:∀ (j lo n:Nat),0<j→F.rg[j]?=some (lo,n)→n=40
def Fr.at (F:Fr) (m:List (List UInt8)):KS:=Bm6 F.S (Ay5 F.S.mem F.rg m)
structure CX where
 m:List (List UInt8)
 bad:List RecS
def Af9:Nat→List RecS→List MapEntry
 | _,[]=>[]
 | i,r::l=>{ key:=.agg ⟨Aa5 r⟩,val:=int 1,born:=i }::Af9 (i+1) l
abbrev Ii5 (c k:Nat) (env:Int) (caps:List Int) (bad:List RecS) (x:Option Addr × Nat × Nat):List HP :=
 [pt c (.cells Dc5 false [P0 k,int env,.slice x.1 caps.length x.2.1,.map (some x.2.2)]),slC false B6 1 x.1 caps.length x.2.1 (caps.map int),pt x.2.2 (.map (Af9 0 bad) bad.length)]
def V7 (c k:Nat) (env:Int) (caps:List Int) (bad:List RecS):HP:=hex fun x=>sl (Ii5 c k env caps bad x)
instance {c k:Nat} {env:Int} {caps:List Int} {bad:List RecS}:Chk (V7 c k env caps bad) (Ii5 c k env caps bad):=⟨rfl⟩
abbrev cmF (c k:Nat) (F:Fr) (x:CX):List HP:=[E3 k (F.at x.m),V7 c k F.env F.caps x.bad,pu (Fit F.S.mem.length F.rg x.m)]
def cmC (c k:Nat) (F:Fr) (x:CX):HP:=hex fun _:Unit=>sl (cmF c k F x)
instance {c k:Nat} {F:Fr} {x:CX}:Chk (cmC c k F x) (fun _:Unit=>cmF c k F x):=⟨rfl⟩
def U7 (nc:Nat) (kind:Int):Int:=if kind=1 then 8 else if kind=2 then 12 else if kind=3 then 3+nc else 1
def H7 (nc:Nat) (r:RecS):Option (Nat × Nat × Nat) :=
 if r.index<0∨r.index≥U7 nc r.kind then none
 else if r.kind=1 then some (0,24*r.index.toNat,24)
 else if r.kind=2 then some (0,192+8*r.index.toNat,8)
 else if r.kind=3 then if r.index<4 then some (0,288+40*r.index.toNat,40) else some (r.index.toNat-3,0,40)
 else if r.kind=4 then some (0,448,40)
 else some (0,488,4)
def G36 (caps:List Int):Option (Nat × Nat × Nat)→List Value
 | some (j,a,n)=>[int (caps.getD j 0),int a,int n]
 | none=>[int 0,int 0,int 0]
theorem Gv5 (c k:Nat) (env:Int) (caps:List Int) (bad:List RecS) (kind:Int) (hs:caps.length≤40):CtP A6 Z9 [P0 c,int kind] [V7 c k env caps bad] (int (U7 caps.length kind)):=by
 have e:IntKind.wrap .i64 (IntKind.wrap .i64 (4+(caps.length:Int))-1)=3+(caps.length:Int):=by rw [A7,A7];omega
 refine CtP.of Du8 rfl fun h r=>Tr.eq (Du9 ..) ?_;refine Je ?_
 refine B7 (V7 c k env caps bad) fun ⟨a,n,mb⟩=>?_;refine Je ?_
 unfold U7
 by_cases h1:kind=1
 ·refine Yt (by simpa using h1) ?_
  rw [if_pos h1];exact Jz
 refine Yf (by simpa using h1) ?_
 rw [if_neg h1]
 by_cases h2:kind=2
 ·refine Yt (by simpa using h2) ?_
  rw [if_pos h2];exact Jz
 refine Yf (by simpa using h2) ?_
 rw [if_neg h2]
 by_cases h3:kind=3
 ·refine Yt (by simpa using h3) ?_
  rw [if_pos h3];(refine Ja ?_;unhygienic intros)
  refine Ys fun o=>?_
  rw [e];exact ⟨by first|rfl|trivial,by first|rfl|trivial⟩
 refine Yf (by simpa using h3) ?_
 rw [if_neg h3];exact Jz
theorem Gl2 (c k:Nat) (env:Int) (caps:List Int) (bad:List RecS) (rc:RecS) (hs:caps.length≤40) (hn:0<caps.length):Ct A6 Y1 [P0 c,.agg ⟨Aa5 rc⟩] [V7 c k env caps bad] fun v own =>
  v=.tuple ⟨[.agg ⟨G36 caps (H7 caps.length rc)⟩,.bool (H7 caps.length rc).isSome]⟩∧own [V7 c k env caps bad]:=by
 have hg:∀ j,j<caps.length→(caps.map int)[j]?=some (int (caps.getD j 0)):=fun j hj=>by rw [List.getElem?_map,N5 0 hj];rfl
 refine Ct.of Dp4 rfl fun h r=>Tr.eq (Dp8 ..) ?_;refine Je ?_
 (refine Jb ?_;unhygienic intros)
 refine Tr.orG (c:=decide (rc.index≥U7 caps.length rc.kind)) (fun hb=>?_) ?_
 ·(refine Ja ?_;unhygienic intros)
  refine Tr.pcall (Gv5 c k env caps bad rc.kind hs) ?_;refine Je ?_;exact Jz
 by_cases hi:rc.index<0∨rc.index≥U7 caps.length rc.kind
 ·refine Yt (by simp only [Bool.or_eq_true,decide_eq_true_eq];exact hi) ?_
  have e:H7 caps.length rc=none:=by unfold H7;rw [if_pos hi]
  rw [e]
  (refine Ja ?_;unhygienic intros)
  refine Ys fun o=>?_
  exact ⟨rfl,o.sub⟩
 refine Yf (by simp only [Bool.or_eq_false_iff,decide_eq_false_iff_not];omega) ?_
 refine B7 (V7 c k env caps bad) fun ⟨a,n,mb⟩=>?_;refine Je ?_
 (refine Ja ?_;unhygienic intros;repeat(refine Gw ?_;rintro px rfl;refine Ja ?_;unhygienic intros))
 refine Tr.xIntS (v:=caps.getD 0 0) (hg 0 hn) ?_
 (refine Ja ?_;unhygienic intros)
 by_cases h1:rc.kind=1
 ·refine Yt (by simpa using h1) ?_
  have e:H7 caps.length rc=some (0,24*rc.index.toNat,24):=by unfold H7;rw [if_neg hi,if_pos h1]
  have hm:U7 caps.length rc.kind=8:=by unfold U7;rw [if_pos h1]
  have e1:IntKind.wrap .i64 (24*rc.index)=((24*rc.index.toNat:Nat):Int):=by rw [A7];omega
  rw [e,e1]
  (refine Ja ?_;unhygienic intros)
  refine B0 (V7 c k env caps bad) ⟨some px,n,mb⟩ ?_;refine Je ?_
  refine Ys fun o=>?_
  exact ⟨rfl,o.sub⟩
 refine Yf (by simpa using h1) ?_
 by_cases h2:rc.kind=2
 ·(refine Ja ?_;unhygienic intros)
  refine Yt (by simpa using h2) ?_
  have e:H7 caps.length rc=some (0,192+8*rc.index.toNat,8):=by unfold H7;rw [if_neg hi,if_neg h1,if_pos h2]
  have hm:U7 caps.length rc.kind=12:=by unfold U7;rw [if_neg h1,if_pos h2]
  have e1:IntKind.wrap .i64 (192+IntKind.wrap .i64 (8*rc.index))=((192+8*rc.index.toNat:Nat):Int):=by rw [A7,A7];omega
  rw [e,e1]
  (refine Ja ?_;unhygienic intros)
  refine B0 (V7 c k env caps bad) ⟨some px,n,mb⟩ ?_;refine Je ?_
  refine Ys fun o=>?_
  exact ⟨rfl,o.sub⟩
 (refine Ja ?_;unhygienic intros)
 refine Yf (by simpa using h2) ?_
 (refine Jb ?_;unhygienic intros)
 refine Tr.andG (c:=decide (rc.index<4)) (fun hb=>?_) ?_
 ·exact Jz
 by_cases h3:rc.kind=3
 ·have hm:U7 caps.length rc.kind=3+caps.length:=by unfold U7;rw [if_neg h1,if_neg h2,if_pos h3]
  by_cases h4:rc.index<4
  ·refine Yt (by simp [h3,h4]) ?_
   have e:H7 caps.length rc=some (0,288+40*rc.index.toNat,40):=by unfold H7;rw [if_neg hi,if_neg h1,if_neg h2,if_pos h3,if_pos h4]
   have e1:IntKind.wrap .i64 (288+IntKind.wrap .i64 (40*rc.index))=((288+40*rc.index.toNat:Nat):Int):=by rw [A7,A7];omega
   rw [e,e1]
   (refine Ja ?_;unhygienic intros)
   refine B0 (V7 c k env caps bad) ⟨some px,n,mb⟩ ?_;refine Je ?_
   refine Ys fun o=>?_
   exact ⟨rfl,o.sub⟩
  ·refine Yf (by simp [h4]) ?_
   have e:H7 caps.length rc=some (rc.index.toNat-3,0,40):=by unfold H7;rw [if_neg hi,if_neg h1,if_neg h2,if_pos h3,if_neg h4]
   have e1:IntKind.wrap .i64 (IntKind.wrap .i64 (rc.index-4)+1)=((rc.index.toNat-3:Nat):Int):=by rw [A7,A7];omega
   rw [e,e1]
   (refine Ja ?_;unhygienic intros)
   refine Yt (by simpa using h3) ?_
   (refine Ja ?_;unhygienic intros)
   rw [Int.toNat_natCast]
   refine Je ?_
   refine Tr.xIntS (v:=caps.getD (rc.index.toNat-3) 0) (hg _ (by omega)) ?_
   (refine Ja ?_;unhygienic intros)
   refine B0 (V7 c k env caps bad) ⟨some px,n,mb⟩ ?_;refine Je ?_
   refine Ys fun o=>?_
   exact ⟨rfl,o.sub⟩
 refine Yf (by simp [h3]) ?_
 (refine Ja ?_;unhygienic intros)
 refine Yf (by simpa using h3) ?_
 (refine Ja ?_;unhygienic intros)
 by_cases h4:rc.kind=4
 ·refine Yt (by simpa using h4) ?_
  have e:H7 caps.length rc=some (0,448,40):=by unfold H7;rw [if_neg hi,if_neg h1,if_neg h2,if_neg h3,if_pos h4]
  rw [e]
  (refine Ja ?_;unhygienic intros)
  refine B0 (V7 c k env caps bad) ⟨some px,n,mb⟩ ?_;refine Je ?_
  refine Ys fun o=>?_
  exact ⟨rfl,o.sub⟩
 refine Yf (by simpa using h4) ?_
 have e:H7 caps.length rc=some (0,488,4):=by unfold H7;rw [if_neg hi,if_neg h1,if_neg h2,if_neg h3,if_neg h4]
 rw [e]
 (refine Ja ?_;unhygienic intros)
 refine B0 (V7 c k env caps bad) ⟨some px,n,mb⟩ ?_;refine Je ?_
 refine Ys fun o=>?_
 exact ⟨rfl,o.sub⟩
theorem Hs3:Ai9 PR 8 E1=some [TypeDesc.int .i64,TypeDesc.int .i64]:=by kernel_rfl
theorem H99:D65 PR E1=some true:=by kernel_rfl
instance {a b:Int}:KeyC PR E1 (.agg ⟨[.int .i64 a,.int .i64 b]⟩):=⟨fun x=>by
 unfold NN.keyN;rw [Hs3,H99];rfl⟩
theorem Ej6 (r:RecS):∀ (l:List RecS) (i j:Nat),Ag6 (.agg ⟨Aa5 r⟩) (Af9 j l) i=some (if r ∈ l then some (i+l.idxOf r) else none)
 | [],i,j=>by simp [Af9,Ag6]
 | q::l,i,j=>by
  have ih:=Ej6 r l (i+1) (j+1)
  obtain ⟨qk,qi⟩:=q
  obtain ⟨rk,ri⟩:=r
  simp only [Af9,Ag6,Bd5,Aa5,eqs,eq1,decide_true,List.mem_cons] at ih ⊢
  by_cases h:rk=qk∧ri=qi
  ·obtain ⟨rfl,rfl⟩:=h
   simp
  ·have e:(rk==qk && (ri==qi && true))=false:=by
    rw [Bool.and_eq_false_iff]
    by_cases h1:rk=qk
    ·right;simp;intro h2;exact h ⟨h1,h2⟩
    ·left;simpa using h1
   have hne:¬ (({ kind:=rk,index:=ri }:RecS)={ kind:=qk,index:=qi }):=fun e=>by
    rw [RecS.mk.injEq] at e;exact h e
   rw [e]
   simp only [hne,false_or]
   rw [ih,List.idxOf_cons]
   have:(({ kind:=qk,index:=qi }:RecS)=={ kind:=rk,index:=ri })=false:=by
    rw [beq_eq_false_iff_ne];exact fun e=>hne e.symm
   rw [this,cond_false]
   split<;>simp;omega
theorem Dj0:∀ (l:List RecS) (j:Nat),(Af9 j l).length=l.length
 | [],_=>rfl
 | _::l,j=>by simp [Af9,Dj0 l]
theorem Gz5:∀ (l:List RecS) (j i:Nat) (r:RecS),l[i]?=some r→(Af9 j l)[i]?=some { key:=.agg ⟨Aa5 r⟩,val:=int 1,born:=j+i }
 | [],_,i,r,h=>by simp at h
 | q::l,j,0,r,h=>by simp at h;subst h;rfl
 | q::l,j,i+1,r,h=>by
  have:=Gz5 l (j+1) i r (by simpa using h)
  rw [Af9,List.getElem?_cons_succ,this];congr 2;omega
theorem Bs9 (r:RecS) (l:List RecS):Ak4 (int 0) (.agg ⟨Aa5 r⟩) (Af9 0 l)=some (if r ∈ l then (int 1,true) else (int 0,false)):=by
 unfold Ak4
 rw [Ej6]
 by_cases h:r ∈ l
 ·rw [if_pos h,if_pos h]
  have hi:=List.idxOf_lt_length_of_mem h
  have hg:l[l.idxOf r]?=some r:=by rw [List.getElem?_eq_getElem hi,List.getElem_idxOf]
  simp only [Nat.zero_add]
  rw [Gz5 l 0 _ r hg]
 ·rw [if_neg h,if_neg h]
theorem G20:∀ (l m:List RecS) (j:Nat),Af9 j (l++m)=Af9 j l++Af9 (j+l.length) m
 | [],m,j=>by simp [Af9]
 | q::l,m,j=>by simp only [List.cons_append,Af9,G20 l m (j+1),List.length_cons];congr 2;congr 1;omega
theorem D91 {r:RecS} {l:List RecS} (h:¬ r ∈ l):Dw4 (int 0) (.agg ⟨Aa5 r⟩) (Af9 0 l) l.length=some (int 0,l.length,.map (Af9 0 l++[{ key:=.agg ⟨Aa5 r⟩,val:=int 0,born:=l.length }]) (l.length+1)):=by
 unfold Dw4;rw [Ej6,if_neg h]
theorem Gm0 (r:RecS) (e:MapEntry):∀ (l:List RecS) (i j:Nat),¬ r ∈ l→Ag6 (.agg ⟨Aa5 r⟩) (Af9 j l++[e]) i=Ag6 (.agg ⟨Aa5 r⟩) [e] (i+l.length)
 | [],i,j,h=>by simp [Af9]
 | q::l,i,j,h=>by
  have ih:=Gm0 r e l (i+1) (j+1) (fun hm=>h (List.mem_cons_of_mem _ hm))
  have hq:Bd5 (.agg ⟨Aa5 r⟩) (.agg ⟨Aa5 q⟩)=some false:=by
   obtain ⟨qk,qi⟩:=q
   obtain ⟨rk,ri⟩:=r
   simp only [Bd5,Aa5,eqs,eq1,decide_true]
   congr 1
   rw [Bool.and_eq_false_iff]
   by_cases h1:rk=qk
   ·right;simp;intro h2;exact h (by subst h1 h2;exact List.mem_cons_self ..)
   ·left;simpa using h1
  show (match Bd5 (.agg ⟨Aa5 r⟩) (.agg ⟨Aa5 q⟩) with
   | some true=>some (some i)
   | some false=>Ag6 (.agg ⟨Aa5 r⟩) (Af9 (j+1) l++[e]) (i+1)
   | none=>none)=_
  rw [hq]
  simp only
  rw [ih];congr 1;simp;omega
theorem Dr8 {r:RecS} {l:List RecS} (h:¬ r ∈ l):Ak4 (int 0) (.agg ⟨Aa5 r⟩) (Af9 0 l++[{ key:=.agg ⟨Aa5 r⟩,val:=int 0,born:=l.length }])=some (int 0,true):=by
 unfold Ak4
 rw [Gm0 r _ l 0 0 h]
 obtain ⟨rk,ri⟩:=r
 simp only [Ag6,Bd5,Aa5,eqs,eq1,decide_true,BEq.rfl,Bool.and_self,Nat.zero_add]
 rw [List.getElem?_append_right (by rw [Dj0];exact Nat.le_refl _),Dj0];simp
theorem B98:∀ (l:List RecS) (j:Nat) (n:Nat) (e:MapEntry) (i:Nat),e.born=n→j+l.length≤n→Bh9 (n:Int) (Af9 j l++[e]) i=some (i+l.length)
 | [],j,n,e,i,h,hl=>by simp [Af9,Bh9,h]
 | q::l,j,n,e,i,h,hl=>by
  have ih:=B98 l (j+1) n e (i+1) h (by simp at hl;omega)
  simp only [Af9,List.cons_append,Bh9]
  have:(((j:Nat):Int)==(n:Int))=false:=by simp at hl ⊢;omega
  rw [this,cond_false,ih];congr 1;simp;omega
theorem Gi0 (f:MapEntry→MapEntry) (e:MapEntry):∀ (l:List MapEntry),modN f l.length (l++[e])=l++[f e]
 | []=>rfl
 | q::l=>by simp [modN,Gi0 f e l]
theorem D72 (r:RecS) (l:List RecS):modN (fun e=>{ e with val:=int (IntKind.wrap .i64 (0+1)) }) l.length (Af9 0 l++[{ key:=.agg ⟨Aa5 r⟩,val:=int 0,born:=l.length }])=Af9 0 (l++[r]):=by
 rw [show l.length=(Af9 0 l).length from (Dj0 l 0).symm,Gi0,G20]
 simp [Af9,Dj0];decide
theorem Fr.mem_at (F:Fr) (m:List (List UInt8)):(F.at m).mem=Ay5 F.S.mem F.rg m:=rfl
theorem Fr.at_ok {F:Fr} (k:FrOk F) {m:List (List UInt8)} (f:Fit F.S.mem.length F.rg m):KOk F.N (F.at m):=by
 have:=k.ok
 exact ⟨this.envs,this.tabs,this.space,this.quota,by rw [Fr.mem_at,Dm8 f];exact this.mem,this.regs,this.may,this.mayl,this.nsect,this.sects,this.now⟩
theorem H06 {F:Fr} (k:FrOk F) {r:RecS} {j a n:Nat} (h:H7 F.caps.length r=some (j,a,n)):∃ lo z,F.rg[j]?=some (lo,z)∧a+n≤z∧j<F.caps.length:=by
 obtain ⟨lo0,h0⟩:=k.own
 have hl:=k.len;have hn:=k.ne
 unfold H7 at h
 split at h;· cases h
 rename_i hi
 split at h
 ·rename_i h1
  have hm:U7 F.caps.length r.kind=8:=by unfold U7;rw [if_pos h1]
  cases h;exact ⟨lo0,492,h0,by omega,hn⟩
 rename_i h1
 split at h
 ·rename_i h2
  have hm:U7 F.caps.length r.kind=12:=by unfold U7;rw [if_neg h1,if_pos h2]
  cases h;exact ⟨lo0,492,h0,by omega,hn⟩
 rename_i h2
 split at h
 ·rename_i h3
  have hm:U7 F.caps.length r.kind=3+F.caps.length:=by unfold U7;rw [if_neg h1,if_neg h2,if_pos h3]
  split at h
  ·cases h;exact ⟨lo0,492,h0,by omega,hn⟩
  ·cases h
   have hlt:r.index.toNat-3<F.rg.length:=by omega
   have hg:=List.getElem?_eq_getElem hlt
   generalize hx:F.rg[r.index.toNat-3]=x at hg
   obtain ⟨lo,z⟩:=x
   have:=k.brs _ lo z (by omega) hg
   exact ⟨lo,z,hg,by omega,by omega⟩
 split at h<;>(cases h;exact ⟨lo0,492,h0,by omega,hn⟩)
def Ac6 (kind:Int):Nat:=if kind=1 then 24 else if kind=2 then 8 else if kind=3 then 40 else if kind=4 then 40 else 4
theorem D68 {nc:Nat} {r:RecS} {j a n:Nat} (h:H7 nc r=some (j,a,n)):n=Ac6 r.kind:=by
 unfold H7 at h;unfold Ac6
 split at h;· cases h
 split at h
 ·rename_i h1;cases h;rw [if_pos h1]
 rename_i h1
 rw [if_neg h1]
 split at h
 ·rename_i h2;cases h;rw [if_pos h2]
 rename_i h2
 rw [if_neg h2]
 split at h
 ·rename_i h3;rw [if_pos h3];split at h<;>(cases h;rfl)
 rename_i h3
 rw [if_neg h3]
 split at h
 ·rename_i h4;cases h;rw [if_pos h4]
 ·rename_i h4;cases h;rw [if_neg h4]
def rdX (X:CX) (r:RecS):Option (List UInt8) :=
 match H7 X.m.length r with
 | some (j,a,n)=>if r ∈ X.bad then none else some (slice (X.m.getD j []) a n)
 | none=>none
def wrX (X:CX) (r:RecS) (b:List UInt8) (ok:Bool):Bool × CX :=
 match H7 X.m.length r with
 | some (j,a,n)=>if ok=true∧¬ r ∈ X.bad then (true,{ X with m:=X.m.set j (L1 (X.m.getD j []) a b) }) else (false,X)
 | none=>(false,X)
theorem Fit.mlen {F:Fr} (k:FrOk F) {m:List (List UInt8)} (f:Fit F.S.mem.length F.rg m):m.length=F.caps.length:=by rw [f.len,k.len]
theorem D38 {F:Fr} (k:FrOk F) {m:List (List UInt8)} (f:Fit F.S.mem.length F.rg m) {r:RecS} {j a n:Nat} (h:H7 F.caps.length r=some (j,a,n)) :
  ∃ lo z cap,F.caps[j]?=some cap∧F.rg[j]?=some (lo,z)∧a+n≤z∧m[j]?=some (m.getD j [])∧(m.getD j []).length=z∧lo+z≤F.S.mem.length∧cap=F.caps.getD j 0:=by
 obtain ⟨lo,z,hr,ha,hj⟩:=H06 k h
 obtain ⟨h1,x,hx,hl⟩:=f.each j lo z hr
 have e:m.getD j []=x:=by rw [List.getD_eq_getElem?_getD,hx];rfl
 exact ⟨lo,z,F.caps.getD j 0,N5 0 hj,hr,ha,by rw [e];exact hx,by rw [e];exact hl,h1,rfl⟩
theorem Ib3 {F:Fr} (k:FrOk F) {X:CX} (f:Fit F.S.mem.length F.rg X.m) {r:RecS} {l:List UInt8} (h:rdX X r=some l):l.length=Ac6 r.kind:=by
 unfold rdX at h
 rw [f.mlen k] at h
 cases hp:H7 F.caps.length r with
 | none=>rw [hp] at h;cases h
 | some p =>
  obtain ⟨j,a,n⟩:=p
  rw [hp] at h
  obtain ⟨lo,z,cap,_,_,ha,hx,hl,_⟩:=D38 k f hp
  simp only at h
  split at h
  ·cases h
  ·cases h;rw [Gn1 (by omega),D68 hp]
theorem Ij6 {F:Fr} (k:FrOk F) {m:List (List UInt8)} (f:Fit F.S.mem.length F.rg m) {r:RecS} {j a n:Nat} (h:H7 F.caps.length r=some (j,a,n)) :
  Y7 (F.at m) F.env ⟨1,F.caps.getD j 0,(a:Int),(n:Int),0,0,[]⟩=((0,0,slice (m.getD j []) a n),F.at m):=by
 obtain ⟨lo,z,cap,hc,hr,ha,hx,hl,hz,rfl⟩:=D38 k f h
 have hp:=k.pl j _ lo z hc hr a n 1 (.inl rfl) ha
 have lp:=Dm8 f
 have hb:Dq9 (Ay5 F.S.mem F.rg m) ((lo+a:Nat):Int) (n:Int)=some (slice (m.getD j []) a n):=by
  unfold Dq9
  rw [if_pos (by rw [lp];omega),Int.toNat_natCast,Int.toNat_natCast]
  rw [← Hj8 f k.dj hr hx ha];rfl
 have e:Ao7 (F.at m).tabs (F.at m).regs (F.at m).mem F.env (F.caps.getD j 0) (a:Int) (n:Int)=(slice (m.getD j []) a n,0):=by
  unfold Ao7
  rw [show O9 (F.at m).tabs (F.at m).regs F.env (F.caps.getD j 0) 1 (a:Int) (n:Int)=(((lo+a:Nat):Int),0) from hp]
  rw [if_neg (by simp),show Dq9 (F.at m).mem _ _=_ from hb]
 unfold Y7
 rw [if_neg (show ¬ (F.env<0∨F.env≥((F.at m).envs.length:Int)) from k.env)]
 unfold kDo
 rw [if_pos rfl,e]
theorem Ig2 {F:Fr} (k:FrOk F) {m:List (List UInt8)} (f:Fit F.S.mem.length F.rg m) {r:RecS} {j a n:Nat} (h:H7 F.caps.length r=some (j,a,n)) {b:List UInt8} (hb:b.length=n) :
  Y7 (F.at m) F.env ⟨2,F.caps.getD j 0,(a:Int),0,0,0,b⟩=((0,0,[]),F.at (m.set j (L1 (m.getD j []) a b))):=by
 obtain ⟨lo,z,cap,hc,hr,ha,hx,hl,hz,rfl⟩:=D38 k f h
 have hp:=k.pl j _ lo z hc hr a n 2 (.inr rfl) ha
 have lp:=Dm8 f
 have hs:A99 (Ay5 F.S.mem F.rg m) ((lo+a:Nat):Int) b=some (Ay5 F.S.mem F.rg (m.set j (L1 (m.getD j []) a b))):=by
  unfold A99
  rw [if_pos (by rw [lp];omega),Int.toNat_natCast]
  rw [← G70 f k.dj hr hx (by omega)];rfl
 have e:Aj0 (F.at m).tabs (F.at m).regs (F.at m).mem F.env (F.caps.getD j 0) (a:Int) b=(0,Ay5 F.S.mem F.rg (m.set j (L1 (m.getD j []) a b))):=by
  unfold Aj0
  rw [hb,show O9 (F.at m).tabs (F.at m).regs F.env (F.caps.getD j 0) 2 (a:Int) (n:Int)=(((lo+a:Nat):Int),0) from hp]
  rw [if_neg (by simp),show A99 (F.at m).mem _ _=_ from hs]
 unfold Y7
 rw [if_neg (show ¬ (F.env<0∨F.env≥((F.at m).envs.length:Int)) from k.env)]
 unfold kDo
 rw [if_neg (show ¬ ((2:Int)=1) by decide),if_pos rfl,e];rfl
theorem H95 {F:Fr} (k:FrOk F) {X:CX} (f:Fit F.S.mem.length F.rg X.m) {r:RecS} {b:List UInt8} {ok:Bool} (hb:ok=true→b.length=Ac6 r.kind):Fit F.S.mem.length F.rg (wrX X r b ok).2.m:=by
 unfold wrX
 rw [f.mlen k]
 cases hp:H7 F.caps.length r with
 | none=>exact f
 | some p =>
  obtain ⟨j,a,n⟩:=p
  obtain ⟨lo,z,cap,hc,hr,ha,hx,hl,hz,_⟩:=D38 k f hp
  simp only
  split
  ·rename_i hk
   exact f.set hr (by rw [Ae3 (by rw [hb hk.1,← D68 hp];omega)];exact hl)
  ·exact f
instance {caps:List Int} {o:Option (Nat × Nat × Nat)}:LenC (G36 caps o) 3:=⟨by cases o<;>rfl⟩
theorem H48 (caps:List Int) (o:Option (Nat × Nat × Nat)):(G36 caps o).all Value.oneCell=true:=by cases o<;>rfl
instance {caps:List Int} {o:Option (Nat × Nat × Nat)} {cs:List Value} [k:LenC cs 3]:SetsC cs 0 (G36 caps o) (G36 caps o):=⟨Bd9 k.ok LenC.ok (H48 caps o)⟩
instance {rc:RecS}:PartC (Aa5 rc) 0 2 (Aa5 rc):=⟨rfl⟩
theorem Hg1 (r:RecS) (l:List RecS):(if r ∈ l then (int 1,true) else (int 0,false))=(int (if r ∈ l then 1 else 0),decide (r ∈ l)):=by split<;>simp [*]
theorem Hf1 (r:RecS) (l:List RecS):decide ((if r ∈ l then (1:Int) else 0)>0)=decide (r ∈ l):=by split<;>simp [*]
theorem Dz6 (k:Nat) (S:KS) (N:Nat) (ok:KOk N S) (hN:N+1<1000000000) (env:Int) (c:CallS) (ba:Option Addr) (bc:Nat) (ro:Bool) (h5:c.op≠5) :
  Ct A6 Q5 [P0 k,int env,.agg ⟨Bi4 c ba bc⟩] [E3 k S,slC ro A2 1 ba c.b.length bc (A0 c.b)] fun v own=>∃ x d,v=.agg ⟨[int (Y7 S env c).1.1,int (Y7 S env c).1.2.1,.slice x (Y7 S env c).1.2.2.length d]⟩ ∧
    own [slC false A2 1 x (Y7 S env c).1.2.2.length d (A0 (Y7 S env c).1.2.2),E3 k (Y7 S env c).2,slC ro A2 1 ba c.b.length bc (A0 c.b)]:=by
 intro h r o
 obtain ⟨pq,o1⟩:=Own.ex (f:=fun pq=>slX ro A2 1 ba c.b.length bc pq (A0 c.b)) (o.perm (.swap _ _ _))
 obtain ⟨v,h',e,x,d,rfl,o2⟩:=Hu4 k S N ok hN env c ba bc ro pq h5 h r (o1.perm (.swap _ _ _))
 refine ⟨_,h',e,x,d,rfl,?_⟩
 have o3:=o2.picks [2] rfl
 exact (Own.inex (f:=fun pq=>slX ro A2 1 ba c.b.length bc pq (A0 c.b)) pq o3).picks [1,1,0] rfl
theorem D22 (c k:Nat) (F:Fr) (X:CX) (rc:RecS) (ok:FrOk F):Ct A6 N6 [P0 c,.agg ⟨Aa5 rc⟩] [cmC c k F X] fun v own =>
  (∃ l a cp,rdX X rc=some l∧l.length=Ac6 rc.kind∧v=.tuple ⟨[.slice a l.length cp,.bool true]⟩∧own [slC false A2 1 a l.length cp (A0 l),cmC c k F X]) ∨
  (rdX X rc=none∧v=.tuple ⟨[.slice none 0 0,.bool false]⟩∧own [cmC c k F X]):=by
 refine Ct.of Dx7 rfl fun h r=>Tr.eq (Dx0 ..) ?_;refine Je ?_
 refine B7 (cmC c k F X) fun u=>?_;refine Je ?_
 refine P5 2 rfl fun f=>?_
 (refine Ja ?_;unhygienic intros)
 refine Yc (Gl2 c k F.env F.caps X.bad rc ok.small ok.ne) ?_;rintro _ h ⟨rfl,o⟩<;>(refine Jg o ?_;unhygienic intros)
 have em:=f.mlen ok
 cases hp:H7 F.caps.length rc with
 | none =>
  (refine Jb ?_;unhygienic intros)
  refine Yb (Yt rfl ?_)
  refine Ys fun o=>(?_:Tr _ _ _ _) o;refine Je ?_
  (refine Ja ?_;unhygienic intros)
  refine B0 (cmC c k F X) () ?_;refine Je ?_
  refine Ys fun o=>?_
  exact .inr ⟨by unfold rdX;rw [em,hp],rfl,o.sub⟩
 | some p =>
  obtain ⟨j,a,n⟩:=p
  refine B7 (V7 c k F.env F.caps X.bad) fun ⟨ca,cn,mb⟩=>?_;refine Je ?_
  (refine Jb ?_;unhygienic intros)
  refine Tr.orG (c:=decide (rc ∈ X.bad)) (fun _=>?_) ?_
  ·(refine Ja ?_;unhygienic intros)
   rw [Bs9,Hg1]
   (refine Ja ?_;unhygienic intros)
   refine Ys fun o=>?_
   rw [Hf1];exact ⟨by first|rfl|trivial,by first|rfl|trivial⟩
  by_cases hb:rc ∈ X.bad
  ·rw [decide_eq_true hb]
   (refine Ja ?_;unhygienic intros)
   refine B0 (V7 c k F.env F.caps X.bad) ⟨ca,cn,mb⟩ ?_;refine Je ?_
   refine B0 (cmC c k F X) () ?_;refine Je ?_
   refine Ys fun o=>?_
   exact .inr ⟨by unfold rdX;rw [em,hp];exact if_pos hb,rfl,o.sub⟩
  ·rw [decide_eq_false hb]
   refine Yf rfl ?_
   (refine Ja ?_;unhygienic intros)
   refine B0 (V7 c k F.env F.caps X.bad) ⟨ca,cn,mb⟩ ?_;refine Je ?_
   have J:=Ia9 k (F.at X.m) F.N (F.at_ok ok f) ok.hN F.env 1 (F.caps.getD j 0) (a:Int) (n:Int) 0 0 (by decide)
   rw [Ij6 ok f hp] at J
   refine Yc (J) ?_;rintro _ h ⟨y,d,rfl,o⟩<;>(refine Jf o ?_;unhygienic intros)
   refine Yf rfl ?_
   (refine Ja ?_;unhygienic intros)
   refine B0 (cmC c k F X) () ?_;refine Je ?_
   refine Ys fun o=>?_
   have e:rdX X rc=some (slice (X.m.getD j []) a n):=by unfold rdX;rw [em,hp];exact if_neg hb
   exact .inl ⟨_,y,d,e,Ib3 ok f e,rfl,o.sub⟩
theorem B81 (c k:Nat) (F:Fr) (X:CX) (rc:RecS) (ok:FrOk F) (bs:List UInt8) (g:Bool) (ba:Option Addr) (bc:Nat) (hb:g=true→bs.length=Ac6 rc.kind) :
  Ct A6 J7 [P0 c,.agg ⟨Aa5 rc⟩,.slice ba bs.length bc,.bool g] [cmC c k F X,slC false A2 1 ba bs.length bc (A0 bs)] fun v own =>
   v=.bool (wrX X rc bs g).1∧own [cmC c k F (wrX X rc bs g).2,slC false A2 1 ba bs.length bc (A0 bs)]:=by
 refine Ct.of Dp7 rfl fun h r=>Tr.eq (Dp6 ..) ?_;refine Je ?_
 refine B7 (cmC c k F X) fun u=>?_;refine Je ?_
 refine P5 2 rfl fun f=>?_
 (refine Ja ?_;unhygienic intros)
 refine Yc (Gl2 c k F.env F.caps X.bad rc ok.small ok.ne) ?_;rintro _ h ⟨rfl,o⟩<;>(refine Jg o ?_;unhygienic intros)
 have em:=f.mlen ok
 cases hp:H7 F.caps.length rc with
 | none =>
  (refine Jb ?_;unhygienic intros)
  refine Yb (Yt rfl ?_)
  refine Ys fun o=>(?_:Tr _ _ _ _) o;refine Je ?_
  refine Yb (Yt rfl ?_)
  refine Ys fun o=>(?_:Tr _ _ _ _) o;refine Je ?_
  (refine Ja ?_;unhygienic intros)
  refine B0 (cmC c k F X) () ?_;refine Je ?_
  refine Ys fun o=>?_
  have e:wrX X rc bs g=(false,X):=by unfold wrX;rw [em,hp]
  rw [e]
  exact ⟨by first|rfl|trivial,o.sub⟩
 | some p =>
  obtain ⟨j,a,n⟩:=p
  refine B7 (V7 c k F.env F.caps X.bad) fun ⟨ca,cn,mb⟩=>?_;refine Je ?_
  (refine Jb ?_;unhygienic intros)
  refine Yb (Yf rfl ?_)
  refine Ys fun o=>(?_:Tr _ _ _ _) o;refine Je ?_
  (refine Jb ?_;unhygienic intros)
  refine Tr.orG (c:=decide (rc ∈ X.bad)) (fun _=>?_) ?_
  ·(refine Ja ?_;unhygienic intros)
   rw [Bs9,Hg1]
   (refine Ja ?_;unhygienic intros)
   refine Ys fun o=>?_
   rw [Hf1];exact ⟨by first|rfl|trivial,by first|rfl|trivial⟩
  by_cases hg:g=true∧¬ rc ∈ X.bad
  ·have e:wrX X rc bs g=(true,{ X with m:=X.m.set j (L1 (X.m.getD j []) a bs) }):=by unfold wrX;rw [em,hp];exact if_pos hg
   have f2:=H95 (r:=rc) (b:=bs) (ok:=g) ok f hb
   rw [e] at f2
   obtain ⟨rfl,hg2⟩:=hg
   rw [e,decide_eq_false hg2]
   refine Yf rfl ?_
   (refine Ja ?_;unhygienic intros)
   refine B0 (V7 c k F.env F.caps X.bad) ⟨ca,cn,mb⟩ ?_;refine Je ?_
   have hl:bs.length=n:=by rw [hb rfl,D68 hp]
   have J:=Dz6 k (F.at X.m) F.N (F.at_ok ok f) ok.hN F.env ⟨2,F.caps.getD j 0,(a:Int),0,0,0,bs⟩ ba bc false (show ((2:Int)≠5) by decide)
   rw [Ig2 ok f hp hl] at J
   refine Yc (J) ?_;rintro _ h ⟨y,d,rfl,o⟩<;>(refine Jf o ?_;unhygienic intros)
   refine Am0 (show Fit F.S.mem.length F.rg (X.m.set j (L1 (X.m.getD j []) a bs)) from f2) ?_
   refine B0 (cmC c k F { X with m:=X.m.set j (L1 (X.m.getD j []) a bs) }) () ?_;refine Je ?_
   refine Ys fun o=>?_
   exact ⟨rfl,o.sub⟩
  ·have e:wrX X rc bs g=(false,X):=by unfold wrX;rw [em,hp];exact if_neg hg
   rw [e]
   refine Yt ?_ ?_
   ·cases g with
    | false=>rfl
    | true=>simpa using hg
   refine B0 (V7 c k F.env F.caps X.bad) ⟨ca,cn,mb⟩ ?_;refine Je ?_
   refine B0 (cmC c k F X) () ?_;refine Je ?_
   refine Ys fun o=>?_
   exact ⟨by first|rfl|trivial,o.sub⟩
def W0 {α:Type} (dec:List UInt8→α × Int) (z:α) (X:CX) (rc:RecS):(α × Int) × CX :=
 match rdX X rc with
 | some l=>(dec l,if (dec l).2=2 then { X with bad:=X.bad++[rc] } else X)
 | none=>((z,2),X)
theorem D30 {X:CX} {rc:RecS} {l:List UInt8} (h:rdX X rc=some l):¬ rc ∈ X.bad:=by
 unfold rdX at h
 split at h
 ·split at h
  ·cases h
  ·assumption
 ·cases h
theorem Hr2 (l:List UInt8) (h:(Y4 l).2≠1):(Y4 l).1=.zero:=by
 unfold Y4 at *;split<;>first|rfl|(split<;>first|rfl|(simp_all;done))
theorem Hw6 (l:List UInt8) (h:(Aa3 l).2≠1):(Aa3 l).1=.zero:=by
 unfold Aa3 at *;split<;>first|rfl|(split<;>first|rfl|(simp_all;done))
theorem Hr0 (l:List UInt8) (h:(Q0 l).2≠1):(Q0 l).1=.zero:=by
 unfold Q0 at *;split<;>first|rfl|(split<;>first|rfl|(simp_all;done))
theorem Ia1 (c k:Nat) (F:Fr) (X:CX) (rc:RecS) (ok:FrOk F) (hk:Ac6 rc.kind=24):Ct A6 J9 [P0 c,.agg ⟨Aa5 rc⟩,.func (.func A34) ⟨[]⟩ ⟨[]⟩] [cmC c k F X] fun v own =>
  v=.tuple ⟨[.agg ⟨E2 (W0 Y4 .zero X rc).1.1⟩,int (W0 Y4 .zero X rc).1.2]⟩∧own [cmC c k F (W0 Y4 .zero X rc).2]:=by
 refine Ct.of An3 rfl fun h r=>Tr.eq (Dd6 ..) ?_;refine Je ?_
 (refine Ja ?_;unhygienic intros)
 refine Yc (D22 c k F X rc ok) ?_
 rintro v h (⟨l,a,cp,hr,hl,rfl,o⟩|⟨hr,rfl,o⟩)
 ·refine (?_:Tr _ _ _ _) o
  refine Je ?_
  have e:W0 Y4 .zero X rc=(Y4 l,if (Y4 l).2=2 then { X with bad:=X.bad++[rc] } else X):=by unfold W0;rw [hr]
  have hb:=D30 hr
  rw [e]
  rw [hk] at hl
  rw [hl]
  (refine Ja ?_;unhygienic intros)
  refine Yc (Hi5 a cp l hl) ?_;rintro _ h ⟨rfl,o⟩<;>(refine Jf o ?_;unhygienic intros)
  by_cases h2:(Y4 l).2=2
  ·refine Yt (by simpa using h2) ?_
   have hz:=Hr2 l (by omega)
   simp only [if_pos h2]
   refine B7 (cmC c k F X) fun u=>?_;refine Je ?_
   refine B7 (V7 c k F.env F.caps X.bad) fun ⟨ca,cn,mb⟩=>?_;refine Je ?_
   (refine Ja ?_;unhygienic intros)
   rw [Bs9,if_neg hb]
   (refine Ja ?_;unhygienic intros)
   rw [D91 hb]
   (refine Ja ?_;unhygienic intros)
   rw [Dr8 hb]
   (refine Ja ?_;unhygienic intros)
   rw [B98 X.bad 0 X.bad.length _ 0 rfl (by omega),Nat.zero_add]
   (refine Ja ?_;unhygienic intros)
   rw [D72]
   refine Tr.jmp An3 (Tr.eq (A36 ..) ?_);(try simp only[Nr,Nl,wl,Nat.reduceAdd,Nat.reduceMul,Int.reduceToNat])
   refine Yt (by rw [bne_iff_ne];omega) ?_
   (refine Ja ?_;unhygienic intros)
   rw [show X.bad.length+1=(X.bad++[rc]).length by simp]
   refine B0 (V7 c k F.env F.caps (X.bad++[rc])) ⟨ca,cn,mb⟩ ?_;refine Je ?_
   refine B0 (cmC c k F { X with bad:=X.bad++[rc] }) () ?_;refine Je ?_
   refine Ys fun o=>?_
   exact ⟨by rw [hz]<;>rfl,o.sub⟩
  ·refine Yf (by simpa using h2) ?_
   simp only [if_neg h2]
   refine Tr.jmp An3 (Tr.eq (A36 ..) ?_);(try simp only[Nr,Nl,wl,Nat.reduceAdd,Nat.reduceMul,Int.reduceToNat])
   by_cases h1:(Y4 l).2=1
   ·refine Yf (by simpa using h1) ?_
    (refine Ja ?_;unhygienic intros)
    refine Ys fun o=>?_
    exact ⟨rfl,o.sub⟩
   ·refine Yt (by simpa using h1) ?_
    (refine Ja ?_;unhygienic intros)
    refine Ys fun o=>?_
    exact ⟨by rw [Hr2 l h1]<;>rfl,o.sub⟩
 ·refine (?_:Tr _ _ _ _) o
  refine Je ?_
  have e:W0 Y4 .zero X rc=((.zero,2),X):=by unfold W0;rw [hr]
  rw [e]
  (refine Ja ?_;unhygienic intros)
  refine Ys fun o=>?_
  exact ⟨rfl,o.sub⟩
theorem H94 (c k:Nat) (F:Fr) (X:CX) (rc:RecS) (ok:FrOk F) (hk:Ac6 rc.kind=8):Ct A6 J8 [P0 c,.agg ⟨Aa5 rc⟩,.func (.func A15) ⟨[]⟩ ⟨[]⟩] [cmC c k F X] fun v own =>
  v=.tuple ⟨[.agg ⟨Ae6 (W0 Aa3 .zero X rc).1.1⟩,int (W0 Aa3 .zero X rc).1.2]⟩∧own [cmC c k F (W0 Aa3 .zero X rc).2]:=by
 refine Ct.of Ao0 rfl fun h r=>Tr.eq (Dh3 ..) ?_;refine Je ?_
 (refine Ja ?_;unhygienic intros)
 refine Yc (D22 c k F X rc ok) ?_
 rintro v h (⟨l,a,cp,hr,hl,rfl,o⟩|⟨hr,rfl,o⟩)
 ·refine (?_:Tr _ _ _ _) o
  refine Je ?_
  have e:W0 Aa3 .zero X rc=(Aa3 l,if (Aa3 l).2=2 then { X with bad:=X.bad++[rc] } else X):=by unfold W0;rw [hr]
  have hb:=D30 hr
  rw [e]
  rw [hk] at hl
  rw [hl]
  (refine Ja ?_;unhygienic intros)
  refine Yc (Hg6 a cp l hl) ?_;rintro _ h ⟨rfl,o⟩<;>(refine Jf o ?_;unhygienic intros)
  by_cases h2:(Aa3 l).2=2
  ·refine Yt (by simpa using h2) ?_
   have hz:=Hw6 l (by omega)
   simp only [if_pos h2]
   refine B7 (cmC c k F X) fun u=>?_;refine Je ?_
   refine B7 (V7 c k F.env F.caps X.bad) fun ⟨ca,cn,mb⟩=>?_;refine Je ?_
   (refine Ja ?_;unhygienic intros)
   rw [Bs9,if_neg hb]
   (refine Ja ?_;unhygienic intros)
   rw [D91 hb]
   (refine Ja ?_;unhygienic intros)
   rw [Dr8 hb]
   (refine Ja ?_;unhygienic intros)
   rw [B98 X.bad 0 X.bad.length _ 0 rfl (by omega),Nat.zero_add]
   (refine Ja ?_;unhygienic intros)
   rw [D72]
   refine Tr.jmp Ao0 (Tr.eq (A23 ..) ?_);(try simp only[Nr,Nl,wl,Nat.reduceAdd,Nat.reduceMul,Int.reduceToNat])
   refine Yt (by rw [bne_iff_ne];omega) ?_
   (refine Ja ?_;unhygienic intros)
   rw [show X.bad.length+1=(X.bad++[rc]).length by simp]
   refine B0 (V7 c k F.env F.caps (X.bad++[rc])) ⟨ca,cn,mb⟩ ?_;refine Je ?_
   refine B0 (cmC c k F { X with bad:=X.bad++[rc] }) () ?_;refine Je ?_
   refine Ys fun o=>?_
   exact ⟨by rw [hz]<;>rfl,o.sub⟩
  ·refine Yf (by simpa using h2) ?_
   simp only [if_neg h2]
   refine Tr.jmp Ao0 (Tr.eq (A23 ..) ?_);(try simp only[Nr,Nl,wl,Nat.reduceAdd,Nat.reduceMul,Int.reduceToNat])
   by_cases h1:(Aa3 l).2=1
   ·refine Yf (by simpa using h1) ?_
    (refine Ja ?_;unhygienic intros)
    refine Ys fun o=>?_
    exact ⟨rfl,o.sub⟩
   ·refine Yt (by simpa using h1) ?_
    (refine Ja ?_;unhygienic intros)
    refine Ys fun o=>?_
    exact ⟨by rw [Hw6 l h1]<;>rfl,o.sub⟩
 ·refine (?_:Tr _ _ _ _) o
  refine Je ?_
  have e:W0 Aa3 .zero X rc=((.zero,2),X):=by unfold W0;rw [hr]
  rw [e]
  (refine Ja ?_;unhygienic intros)
  refine Ys fun o=>?_
  exact ⟨rfl,o.sub⟩
theorem Hd5 (c k:Nat) (F:Fr) (X:CX) (rc:RecS) (ok:FrOk F) (hk:Ac6 rc.kind=40):Ct A6 I0 [P0 c,.agg ⟨Aa5 rc⟩,.func (.func Au1) ⟨[]⟩ ⟨[]⟩] [cmC c k F X] fun v own =>
  v=.tuple ⟨[.agg ⟨E6 (W0 Q0 .zero X rc).1.1⟩,int (W0 Q0 .zero X rc).1.2]⟩∧own [cmC c k F (W0 Q0 .zero X rc).2]:=by
 refine Ct.of Ao8 rfl fun h r=>Tr.eq (De8 ..) ?_;refine Je ?_
 (refine Ja ?_;unhygienic intros)
 refine Yc (D22 c k F X rc ok) ?_
 rintro v h (⟨l,a,cp,hr,hl,rfl,o⟩|⟨hr,rfl,o⟩)
 ·refine (?_:Tr _ _ _ _) o
  refine Je ?_
  have e:W0 Q0 .zero X rc=(Q0 l,if (Q0 l).2=2 then { X with bad:=X.bad++[rc] } else X):=by unfold W0;rw [hr]
  have hb:=D30 hr
  rw [e]
  rw [hk] at hl
  rw [hl]
  (refine Ja ?_;unhygienic intros)
  refine Yc (Hh8 a cp l hl) ?_;rintro _ h ⟨rfl,o⟩<;>(refine Jf o ?_;unhygienic intros)
  by_cases h2:(Q0 l).2=2
  ·refine Yt (by simpa using h2) ?_
   have hz:=Hr0 l (by omega)
   simp only [if_pos h2]
   refine B7 (cmC c k F X) fun u=>?_;refine Je ?_
   refine B7 (V7 c k F.env F.caps X.bad) fun ⟨ca,cn,mb⟩=>?_;refine Je ?_
   (refine Ja ?_;unhygienic intros)
   rw [Bs9,if_neg hb]
   (refine Ja ?_;unhygienic intros)
   rw [D91 hb]
   (refine Ja ?_;unhygienic intros)
   rw [Dr8 hb]
   (refine Ja ?_;unhygienic intros)
   rw [B98 X.bad 0 X.bad.length _ 0 rfl (by omega),Nat.zero_add]
   (refine Ja ?_;unhygienic intros)
   rw [D72]
   refine Tr.jmp Ao8 (Tr.eq (A49 ..) ?_);(try simp only[Nr,Nl,wl,Nat.reduceAdd,Nat.reduceMul,Int.reduceToNat])
   refine Yt (by rw [bne_iff_ne];omega) ?_
   (refine Ja ?_;unhygienic intros)
   rw [show X.bad.length+1=(X.bad++[rc]).length by simp]
   refine B0 (V7 c k F.env F.caps (X.bad++[rc])) ⟨ca,cn,mb⟩ ?_;refine Je ?_
   refine B0 (cmC c k F { X with bad:=X.bad++[rc] }) () ?_;refine Je ?_
   refine Ys fun o=>?_
   exact ⟨by rw [hz]<;>rfl,o.sub⟩
  ·refine Yf (by simpa using h2) ?_
   simp only [if_neg h2]
   refine Tr.jmp Ao8 (Tr.eq (A49 ..) ?_);(try simp only[Nr,Nl,wl,Nat.reduceAdd,Nat.reduceMul,Int.reduceToNat])
   by_cases h1:(Q0 l).2=1
   ·refine Yf (by simpa using h1) ?_
    (refine Ja ?_;unhygienic intros)
    refine Ys fun o=>?_
    exact ⟨rfl,o.sub⟩
   ·refine Yt (by simpa using h1) ?_
    (refine Ja ?_;unhygienic intros)
    refine Ys fun o=>?_
    exact ⟨by rw [Hr0 l h1]<;>rfl,o.sub⟩
 ·refine (?_:Tr _ _ _ _) o
  refine Je ?_
  have e:W0 Q0 .zero X rc=((.zero,2),X):=by unfold W0;rw [hr]
  rw [e]
  (refine Ja ?_;unhygienic intros)
  refine Ys fun o=>?_
  exact ⟨rfl,o.sub⟩
def E50 (g:Int):List UInt8:=[b8 g,211,Bp2 [b8 g,211],0]
def Ar0 (l:List UInt8):Int × Int:=if byI l 0<8∧E50 (byI l 0)=l then (byI l 0,1) else (0,2)
theorem Go7 (g:Int):Ct A6 An5 [int g] [] fun v own =>
  (0≤g∧g<8∧∃ a c,v=.tuple ⟨[.slice a 4 c,.bool true]⟩∧own [slC false A2 1 a 4 c (A0 (E50 g))])∨(¬ (0≤g∧g<8)∧v=.tuple ⟨[.slice none 0 0,.bool false]⟩∧own []):=by
 refine Ct.of D26 rfl fun h r=>Tr.eq (D21 ..) ?_;refine Je ?_
 (refine Ja ?_;unhygienic intros)
 by_cases hg:0≤g∧g<8
 ·refine Yf (by simp;omega) ?_
  rw [Bf0]
  refine Yn fun b h=>?_
  rw [show ([.int .u8 ((b8 g).toNat:Int),.int .u8 211]:List Value)=A0 [b8 g,211] from rfl]
  refine W6 0 rfl 1 2 rfl (by omega) ?_
  refine Je ?_
  refine Tr.pcall (E42 (slC false A2 1 (some ⟨b,0,none⟩) 2 2 (A0 [b8 g,211])) (some ⟨b,0,none⟩) false 2 2 2 [b8 g,211] 2 (by simp) (by simp [A8])) ?_
  (refine Ja ?_;unhygienic intros)
  rw [show List.take 2 [b8 g,211]=[b8 g,211] from rfl,Dj4]
  refine Tr.xApd ⟨rfl,rfl,by simp [A8]⟩ fun a' c' h'=>?_
  refine Je ?_
  refine Ys fun o=>?_
  exact .inl ⟨hg.1,hg.2,a',c',rfl,(show Own h' (_::slC false A2 1 a' 4 c' (A0 (E50 g))::_) from o).sub⟩
 ·refine Yt (by simp;omega) ?_
  refine Ys fun o=>?_
  exact .inr ⟨hg,rfl,o.sub⟩
theorem Ie0 (l:List UInt8):∀ (m i:Nat) (r:List UInt8),l.length-i=m→ByteArray.toList.loop ⟨⟨l⟩⟩ i r=r.reverse++l.drop i:=by
 intro m
 induction m with
 | zero =>
  intro i r hm
  unfold ByteArray.toList.loop
  rw [if_neg (show ¬ i<(ByteArray.mk ⟨l⟩).size by show ¬ i<l.length;omega),List.drop_eq_nil_of_le (by omega)];simp
 | succ m ih =>
  intro i r hm
  have hlt:i<l.length:=by omega
  unfold ByteArray.toList.loop
  rw [if_pos (show i<(ByteArray.mk ⟨l⟩).size from hlt),ih (i+1) _ (by omega),List.drop_eq_getElem_cons hlt]
  have:(ByteArray.mk ⟨l⟩).get! i=l[i]:=by
   show (Array.mk l)[i]! = l[i]
   simp [hlt]
  rw [this];simp
theorem Gk1 (l:List UInt8):(ByteArray.mk ⟨l⟩).toList=l:=by
 unfold ByteArray.toList
 rw [Ie0 l _ 0 [] rfl];simp
theorem Hn4 (a:Option Addr) (c:Nat) (l:List UInt8) (hl:l.length=4):Ct A6 Al6 [.slice a 4 c] [slC false A2 1 a 4 c (A0 l)] fun v own=>v=.tuple ⟨[int (Ar0 l).1,int (Ar0 l).2]⟩∧own [slC false A2 1 a 4 c (A0 l)]:=by
 refine Ct.of Et8 rfl fun h r=>Tr.eq (Es7 ..) ?_;refine Je ?_
 refine Yf rfl ?_
 (refine Ja ?_;unhygienic intros;repeat(refine Gw ?_;rintro px rfl;refine Ja ?_;unhygienic intros))
 refine Tr.xIntS (v:=byI l 0) (Ac5 (by omega)) ?_
 simp only [byI,Al2]
 refine Yc (Go7 (byI l 0)) ?_
 rintro v h (⟨h1,h2,a1,c1,rfl,o⟩|⟨hn,rfl,o⟩)
 ·refine (?_:Tr _ _ _ _) o
  refine Je ?_
  (refine Ja ?_;unhygienic intros)
  rw [Gk1,Gk1]
  by_cases he:E50 (byI l 0)=l
  ·have e:Ar0 l=(byI l 0,1):=by unfold Ar0;rw [if_pos ⟨h2,he⟩]
   refine Yf (by simp [he]) ?_
   (refine Ja ?_;unhygienic intros)
   refine Tr.xIntS (v:=byI l 0) (Ac5 (by omega)) ?_
   refine Ys fun o=>?_
   rw [e];exact ⟨by simp only [byI,Al2],o.sub⟩
  ·have e:Ar0 l=(0,2):=by unfold Ar0;rw [if_neg (fun hh=>he hh.2)]
   refine Yt (by simp [he]) ?_
   refine Ys fun o=>?_
   rw [e];exact ⟨rfl,o.sub⟩
 ·refine (?_:Tr _ _ _ _) o
  refine Je ?_
  (refine Jb ?_;unhygienic intros)
  refine Yb (Yt rfl ?_)
  refine Ys fun o=>(?_:Tr _ _ _ _) o;refine Je ?_
  (refine Ja ?_;unhygienic intros)
  refine Ys fun o=>?_
  exact ⟨by unfold Ar0;rw [if_neg (by simp only [byI] at *;omega)],o.sub⟩
theorem Hs8 (l:List UInt8) (h:(Ar0 l).2≠1):(Ar0 l).1=0:=by
 unfold Ar0 at *;split<;>simp_all
theorem Ie2 (c k:Nat) (F:Fr) (X:CX) (rc:RecS) (ok:FrOk F) (hk:Ac6 rc.kind=4):Ct A6 P8 [P0 c,.agg ⟨Aa5 rc⟩,.func (.func Al6) ⟨[]⟩ ⟨[]⟩] [cmC c k F X] fun v own =>
  v=.tuple ⟨[int (W0 Ar0 0 X rc).1.1,int (W0 Ar0 0 X rc).1.2]⟩∧own [cmC c k F (W0 Ar0 0 X rc).2]:=by
 refine Ct.of A53 rfl fun h r=>Tr.eq (D57 ..) ?_;refine Je ?_
 (refine Ja ?_;unhygienic intros)
 refine Yc (D22 c k F X rc ok) ?_
 rintro v h (⟨l,a,cp,hr,hl,rfl,o⟩|⟨hr,rfl,o⟩)
 ·refine (?_:Tr _ _ _ _) o
  refine Je ?_
  have e:W0 Ar0 0 X rc=(Ar0 l,if (Ar0 l).2=2 then { X with bad:=X.bad++[rc] } else X):=by unfold W0;rw [hr]
  have hb:=D30 hr
  rw [e]
  rw [hk] at hl
  rw [hl]
  (refine Ja ?_;unhygienic intros)
  refine Yc (Hn4 a cp l hl) ?_;rintro _ h ⟨rfl,o⟩<;>(refine Jf o ?_;unhygienic intros)
  by_cases h2:(Ar0 l).2=2
  ·refine Yt (by simpa using h2) ?_
   have hz:=Hs8 l (by omega)
   simp only [if_pos h2]
   refine B7 (cmC c k F X) fun u=>?_;refine Je ?_
   refine B7 (V7 c k F.env F.caps X.bad) fun ⟨ca,cn,mb⟩=>?_;refine Je ?_
   (refine Ja ?_;unhygienic intros)
   rw [Bs9,if_neg hb]
   (refine Ja ?_;unhygienic intros)
   rw [D91 hb]
   (refine Ja ?_;unhygienic intros)
   rw [Dr8 hb]
   (refine Ja ?_;unhygienic intros)
   rw [B98 X.bad 0 X.bad.length _ 0 rfl (by omega),Nat.zero_add]
   (refine Ja ?_;unhygienic intros)
   rw [D72]
   refine Tr.jmp A53 (Tr.eq (Bj2 ..) ?_);(try simp only[Nr,Nl,wl,Nat.reduceAdd,Nat.reduceMul,Int.reduceToNat])
   refine Yt (by rw [bne_iff_ne];omega) ?_
   rw [show X.bad.length+1=(X.bad++[rc]).length by simp]
   refine B0 (V7 c k F.env F.caps (X.bad++[rc])) ⟨ca,cn,mb⟩ ?_;refine Je ?_
   refine B0 (cmC c k F { X with bad:=X.bad++[rc] }) () ?_;refine Je ?_
   refine Ys fun o=>?_
   exact ⟨by rw [hz],o.sub⟩
  ·refine Yf (by simpa using h2) ?_
   simp only [if_neg h2]
   refine Tr.jmp A53 (Tr.eq (Bj2 ..) ?_);(try simp only[Nr,Nl,wl,Nat.reduceAdd,Nat.reduceMul,Int.reduceToNat])
   by_cases h1:(Ar0 l).2=1
   ·refine Yf (by simpa using h1) ?_
    refine Ys fun o=>?_
    exact ⟨rfl,o.sub⟩
   ·refine Yt (by simpa using h1) ?_
    refine Ys fun o=>?_
    exact ⟨by rw [Hs8 l h1],o.sub⟩
 ·refine (?_:Tr _ _ _ _) o
  refine Je ?_
  have e:W0 Ar0 0 X rc=((0,2),X):=by unfold W0;rw [hr]
  rw [e]
  (refine Ja ?_;unhygienic intros)
  refine Ys fun o=>?_
  exact ⟨rfl,o.sub⟩
abbrev D64 (X:CX) (i:Int):(ProcS × Int) × CX:=W0 Y4 .zero X ⟨1,i⟩
abbrev D78 (X:CX) (i:Int):(FileS × Int) × CX:=W0 Aa3 .zero X ⟨2,i⟩
abbrev D61 (X:CX) (i:Int):(PipeS × Int) × CX:=W0 Q0 .zero X ⟨3,i⟩
abbrev D51 (X:CX):(PipeS × Int) × CX:=W0 Q0 .zero X ⟨4,0⟩
abbrev Eg0 (X:CX):(Int × Int) × CX:=W0 Ar0 0 X ⟨5,0⟩
abbrev Bq4 (X:CX) (i:Int) (p:ProcS):Bool × CX:=wrX X ⟨1,i⟩ (Au0 p) (okS p)
abbrev Be6 (X:CX) (i:Int) (p:FileS):Bool × CX:=wrX X ⟨2,i⟩ (Ah4 p) (okF p)
abbrev A78 (X:CX) (i:Int) (p:PipeS):Bool × CX:=wrX X ⟨3,i⟩ (I3 p) (okP p)
abbrev B23 (X:CX) (p:PipeS):Bool × CX:=wrX X ⟨4,0⟩ (I3 p) (okP p)
abbrev H77 (X:CX) (rc:RecS):Bool × CX:=wrX X rc (List.replicate (Ac6 rc.kind) 0) true
theorem Ei7 (X:CX) (rc:RecS) (b:List UInt8):wrX X rc b false=(false,X):=by
 unfold wrX;split<;>simp
theorem Df7 (c k:Nat) (F:Fr) (X:CX) (rc:RecS) (ok:FrOk F):Ct A6 J7 [P0 c,.agg ⟨Aa5 rc⟩,.slice none 0 0,.bool false] [cmC c k F X] fun v own=>v=.bool false∧own [cmC c k F X]:=by
 intro h r o
 have o1:Own h (slC false A2 1 none 0 0 (A0 [])::cmC c k F X::r):=o.slNil false A2 (by omega)
 obtain ⟨v,h',e,rfl,o2⟩:=B81 c k F X rc ok [] false none 0 (by simp) h r (o1.perm (.swap _ _ _))
 rw [Ei7] at e o2
 exact ⟨_,h',e,rfl,o2.sub⟩
theorem Ez9 (i:Int):Ct A6 A26 [int i] [] fun v own=>v=.agg ⟨Aa5 ⟨1,i⟩⟩∧own []:=by
 refine Ct.of Gd1 rfl fun h r=>Tr.eq (Gd4 ..) ?_;refine Je ?_
 (refine Ja ?_;unhygienic intros)
 refine Ys fun o=>?_
 exact ⟨rfl,o.sub⟩
theorem E31 (i:Int):Ct A6 A28 [int i] [] fun v own=>v=.agg ⟨Aa5 ⟨2,i⟩⟩∧own []:=by
 refine Ct.of Gc6 rfl fun h r=>Tr.eq (Gd8 ..) ?_;refine Je ?_
 (refine Ja ?_;unhygienic intros)
 refine Ys fun o=>?_
 exact ⟨rfl,o.sub⟩
theorem E27 (i:Int):Ct A6 A29 [int i] [] fun v own=>v=.agg ⟨Aa5 ⟨3,i⟩⟩∧own []:=by
 refine Ct.of Gh7 rfl fun h r=>Tr.eq (Gg6 ..) ?_;refine Je ?_
 (refine Ja ?_;unhygienic intros)
 refine Ys fun o=>?_
 exact ⟨rfl,o.sub⟩
theorem G55 (c k:Nat) (F:Fr) (X:CX) (ok:FrOk F) (i:Int):Ct A6 Aa0 [P0 c,int i] [cmC c k F X] fun v own=>v=.tuple ⟨[.agg ⟨E2 (D64 X i).1.1⟩,int (D64 X i).1.2]⟩∧own [cmC c k F (D64 X i).2]:=by
 refine Ct.of Dw8 rfl fun h r=>Tr.eq (Dv9 ..) ?_;refine Je ?_
 (refine Ja ?_;unhygienic intros)
 refine Yc (Ez9 i) ?_;rintro _ h ⟨rfl,o⟩<;>(refine Jf o ?_;unhygienic intros)
 refine Yc (Ia1 c k F X ⟨1,i⟩ ok rfl) ?_;rintro _ h ⟨rfl,o⟩<;>(refine Jf o ?_;unhygienic intros)
 refine Ys fun o=>?_
 exact ⟨rfl,o.sub⟩
theorem E25 (c k:Nat) (F:Fr) (X:CX) (ok:FrOk F) (i:Int):Ct A6 Q6 [P0 c,int i] [cmC c k F X] fun v own=>v=.tuple ⟨[.agg ⟨Ae6 (D78 X i).1.1⟩,int (D78 X i).1.2]⟩∧own [cmC c k F (D78 X i).2]:=by
 refine Ct.of Dv3 rfl fun h r=>Tr.eq (Dw0 ..) ?_;refine Je ?_
 (refine Ja ?_;unhygienic intros)
 refine Yc (E31 i) ?_;rintro _ h ⟨rfl,o⟩<;>(refine Jf o ?_;unhygienic intros)
 refine Yc (H94 c k F X ⟨2,i⟩ ok rfl) ?_;rintro _ h ⟨rfl,o⟩<;>(refine Jf o ?_;unhygienic intros)
 refine Ys fun o=>?_
 exact ⟨rfl,o.sub⟩
theorem Ex8 (c k:Nat) (F:Fr) (X:CX) (ok:FrOk F) (i:Int):Ct A6 Q7 [P0 c,int i] [cmC c k F X] fun v own=>v=.tuple ⟨[.agg ⟨E6 (D61 X i).1.1⟩,int (D61 X i).1.2]⟩∧own [cmC c k F (D61 X i).2]:=by
 refine Ct.of Dx9 rfl fun h r=>Tr.eq (Dv4 ..) ?_;refine Je ?_
 (refine Ja ?_;unhygienic intros)
 refine Yc (E27 i) ?_;rintro _ h ⟨rfl,o⟩<;>(refine Jf o ?_;unhygienic intros)
 refine Yc (Hd5 c k F X ⟨3,i⟩ ok rfl) ?_;rintro _ h ⟨rfl,o⟩<;>(refine Jf o ?_;unhygienic intros)
 refine Ys fun o=>?_
 exact ⟨rfl,o.sub⟩
theorem G40 (c k:Nat) (F:Fr) (X:CX) (ok:FrOk F):Ct A6 Q3 [P0 c] [cmC c k F X] fun v own=>v=.tuple ⟨[.agg ⟨E6 (D51 X).1.1⟩,int (D51 X).1.2]⟩∧own [cmC c k F (D51 X).2]:=by
 refine Ct.of Dw6 rfl fun h r=>Tr.eq (Du3 ..) ?_;refine Je ?_
 (refine Ja ?_;unhygienic intros)
 refine Yc (Hd5 c k F X ⟨4,0⟩ ok rfl) ?_;rintro _ h ⟨rfl,o⟩<;>(refine Jf o ?_;unhygienic intros)
 refine Ys fun o=>?_
 exact ⟨rfl,o.sub⟩
theorem Hr8 (c k:Nat) (F:Fr) (X:CX) (ok:FrOk F):Ct A6 Ag5 [P0 c] [cmC c k F X] fun v own=>v=.tuple ⟨[int (Eg0 X).1.1,.bool ((Eg0 X).1.2==1)]⟩∧own [cmC c k F (Eg0 X).2]:=by
 refine Ct.of Dp3 rfl fun h r=>Tr.eq (Dp5 ..) ?_;refine Je ?_
 (refine Ja ?_;unhygienic intros)
 refine Yc (Ie2 c k F X ⟨5,0⟩ ok rfl) ?_;rintro _ h ⟨rfl,o⟩<;>(refine Jf o ?_;unhygienic intros)
 refine Ys fun o=>?_
 exact ⟨rfl,o.sub⟩
theorem Dn2 (f:FileS):(Ah4 f).length=8:=rfl
theorem Ew3 (c k:Nat) (F:Fr) (X:CX) (ok:FrOk F) (i:Int) (p:ProcS):Ct A6 S6 [P0 c,int i,.agg ⟨E2 p⟩] [cmC c k F X] fun v own=>v=.bool (Bq4 X i p).1∧own [cmC c k F (Bq4 X i p).2]:=by
 refine Ct.of Df6 rfl fun h r=>Tr.eq (De0 ..) ?_;refine Je ?_
 (refine Ja ?_;unhygienic intros)
 refine Yc (E52 p) ?_
 rintro v h (⟨hk,a,rfl,o⟩|⟨hk,rfl,o⟩)
 ·refine (?_:Tr _ _ _ _) o
  refine Je ?_
  (refine Ja ?_;unhygienic intros)
  refine Yc (Ez9 i) ?_;rintro _ h ⟨rfl,o⟩<;>(refine Jf o ?_;unhygienic intros)
  have J:=B81 c k F X ⟨1,i⟩ ok (Au0 p) true a 24 (fun _=>D71 p)
  rw [D71] at J
  refine Yc (J) ?_;rintro _ h ⟨rfl,o⟩<;>(refine Jf o ?_;unhygienic intros)
  refine Ys fun o=>?_
  unfold Bq4;rw [hk]
  exact ⟨rfl,o.sub⟩
 ·refine (?_:Tr _ _ _ _) o
  refine Je ?_
  (refine Ja ?_;unhygienic intros)
  refine Yc (Ez9 i) ?_;rintro _ h ⟨rfl,o⟩<;>(refine Jf o ?_;unhygienic intros)
  refine Yc (Df7 c k F X ⟨1,i⟩ ok) ?_;rintro _ h ⟨rfl,o⟩<;>(refine Jf o ?_;unhygienic intros)
  refine Ys fun o=>?_
  unfold Bq4;rw [hk,Ei7]
  exact ⟨rfl,o.sub⟩
theorem B53 (c k:Nat) (F:Fr) (X:CX) (ok:FrOk F) (i:Int) (p:FileS):Ct A6 H9 [P0 c,int i,.agg ⟨Ae6 p⟩] [cmC c k F X] fun v own=>v=.bool (Be6 X i p).1∧own [cmC c k F (Be6 X i p).2]:=by
 refine Ct.of Dg8 rfl fun h r=>Tr.eq (De6 ..) ?_;refine Je ?_
 (refine Ja ?_;unhygienic intros)
 refine Yc (E90 p) ?_
 rintro v h (⟨hk,a,rfl,o⟩|⟨hk,rfl,o⟩)
 ·refine (?_:Tr _ _ _ _) o
  refine Je ?_
  (refine Ja ?_;unhygienic intros)
  refine Yc (E31 i) ?_;rintro _ h ⟨rfl,o⟩<;>(refine Jf o ?_;unhygienic intros)
  have J:=B81 c k F X ⟨2,i⟩ ok (Ah4 p) true a 8 (fun _=>Dn2 p)
  rw [Dn2] at J
  refine Yc (J) ?_;rintro _ h ⟨rfl,o⟩<;>(refine Jf o ?_;unhygienic intros)
  refine Ys fun o=>?_
  unfold Be6;rw [hk]
  exact ⟨rfl,o.sub⟩
 ·refine (?_:Tr _ _ _ _) o
  refine Je ?_
  (refine Ja ?_;unhygienic intros)
  refine Yc (E31 i) ?_;rintro _ h ⟨rfl,o⟩<;>(refine Jf o ?_;unhygienic intros)
  refine Yc (Df7 c k F X ⟨2,i⟩ ok) ?_;rintro _ h ⟨rfl,o⟩<;>(refine Jf o ?_;unhygienic intros)
  refine Ys fun o=>?_
  unfold Be6;rw [hk,Ei7]
  exact ⟨rfl,o.sub⟩
theorem Ew9 (c k:Nat) (F:Fr) (X:CX) (ok:FrOk F) (i:Int) (p:PipeS):Ct A6 U4 [P0 c,int i,.agg ⟨E6 p⟩] [cmC c k F X] fun v own=>v=.bool (A78 X i p).1∧own [cmC c k F (A78 X i p).2]:=by
 refine Ct.of Dd4 rfl fun h r=>Tr.eq (Df1 ..) ?_;refine Je ?_
 (refine Ja ?_;unhygienic intros)
 refine Yc (D75 p) ?_
 rintro v h (⟨hk,a,rfl,o⟩|⟨hk,rfl,o⟩)
 ·refine (?_:Tr _ _ _ _) o
  refine Je ?_
  (refine Ja ?_;unhygienic intros)
  refine Yc (E27 i) ?_;rintro _ h ⟨rfl,o⟩<;>(refine Jf o ?_;unhygienic intros)
  have J:=B81 c k F X ⟨3,i⟩ ok (I3 p) true a 40 (fun _=>Ax8 p.len)
  rw [Ax8 p.len] at J
  refine Yc (J) ?_;rintro _ h ⟨rfl,o⟩<;>(refine Jf o ?_;unhygienic intros)
  refine Ys fun o=>?_
  unfold A78;rw [hk]
  exact ⟨rfl,o.sub⟩
 ·refine (?_:Tr _ _ _ _) o
  refine Je ?_
  (refine Ja ?_;unhygienic intros)
  refine Yc (E27 i) ?_;rintro _ h ⟨rfl,o⟩<;>(refine Jf o ?_;unhygienic intros)
  refine Yc (Df7 c k F X ⟨3,i⟩ ok) ?_;rintro _ h ⟨rfl,o⟩<;>(refine Jf o ?_;unhygienic intros)
  refine Ys fun o=>?_
  unfold A78;rw [hk,Ei7]
  exact ⟨rfl,o.sub⟩
def De9 (f:CX→Int→CX):Nat→Int→CX→CX
 | 0,_,X=>X
 | m+1,i,X=>De9 f m (i+1) (f X i)
def E89 (X:CX):CX:=(Eg0 (D51 X).2).2
def G44 (nc:Nat) (X:CX):CX:=E89 (De9 (fun X i=>(D61 X i).2) (3+nc) 0 X)
def Gw0 (nc:Nat) (X:CX):CX:=G44 nc (De9 (fun X i=>(D78 X i).2) 12 0 X)
def lookN (nc:Nat) (X:CX):CX:=Gw0 nc (De9 (fun X i=>(D64 X i).2) 8 0 X)
def E49 (X:CX):CX:=lookN X.m.length X
theorem Hm9 (c k:Nat) (F:Fr) (ok:FrOk F):∀ (m:Nat) (i:Int) (X:CX),0≤i→i+m=3+F.caps.length →
  CtJ I8 D1 Ac1 [(0,P0 c),(20,int (3+F.caps.length)),(21,int i)] [cmC c k F X] fun v own=>v=.tuple ⟨[]⟩∧own [cmC c k F (E89 (De9 (fun X i=>(D61 X i).2) m i X))]:=by
 have hs:=ok.small
 intro m
 induction m with
 | zero =>
  intro i X h0 hi
  refine CtJ.of N9 fun h r=>Tr.eq (Bc2 ..) ?_;refine Je ?_
  refine Yf (by simp;omega) ?_
  refine Yc (G40 c k F X ok) ?_;rintro _ h ⟨rfl,o⟩<;>(refine Jf o ?_;unhygienic intros)
  refine Yc (Hr8 c k F (D51 X).2 ok) ?_;rintro _ h ⟨rfl,o⟩<;>(refine Jf o ?_;unhygienic intros)
  refine Ys fun o=>?_
  exact ⟨rfl,o⟩
 | succ m ih =>
  intro i X h0 hi
  have e1:IntKind.wrap .i64 (i+1)=i+1:=by rw [A7];omega
  refine CtJ.of N9 fun h r=>Tr.eq (Bc2 ..) ?_;refine Je ?_
  refine Yt (by simp;omega) ?_
  refine Yc (Ex8 c k F X ok i) ?_;rintro _ h ⟨rfl,o⟩<;>(refine Jf o ?_;unhygienic intros)
  rw [e1]
  refine Yr (ih (i+1) (D61 X i).2 (by omega) (by omega)) ?_
  rintro _ h ⟨rfl,o⟩
  exact ⟨rfl,o⟩
theorem Hi7 (c k:Nat) (F:Fr) (ok:FrOk F):∀ (m:Nat) (i:Int) (X:CX),0≤i→i+m=12 →
  CtJ I8 D1 Ac0 [(0,P0 c),(12,int i)] [cmC c k F X] fun v own=>v=.tuple ⟨[]⟩∧own [cmC c k F (G44 F.caps.length (De9 (fun X i=>(D78 X i).2) m i X))]:=by
 have hs:=ok.small
 intro m
 induction m with
 | zero =>
  intro i X h0 hi
  refine CtJ.of N9 fun h r=>Tr.eq (Bd7 ..) ?_;refine Je ?_
  refine Yf (by simp;omega) ?_
  refine B7 (cmC c k F X) fun u=>?_;refine Je ?_
  refine Tr.pcall (Gv5 c k F.env F.caps X.bad 3 ok.small) ?_;refine Je ?_;(refine Ja ?_;unhygienic intros)
  refine B0 (cmC c k F X) () ?_;refine Je ?_
  refine Yr (Hm9 c k F ok (3+F.caps.length) 0 X (by omega) (by omega)) ?_
  rintro _ h ⟨rfl,o⟩
  exact ⟨rfl,o⟩
 | succ m ih =>
  intro i X h0 hi
  have e1:IntKind.wrap .i64 (i+1)=i+1:=by rw [A7];omega
  refine CtJ.of N9 fun h r=>Tr.eq (Bd7 ..) ?_;refine Je ?_
  refine Yt (by simp;omega) ?_
  refine Yc (E25 c k F X ok i) ?_;rintro _ h ⟨rfl,o⟩<;>(refine Jf o ?_;unhygienic intros)
  rw [e1]
  refine Yr (ih (i+1) (D78 X i).2 (by omega) (by omega)) ?_
  rintro _ h ⟨rfl,o⟩
  exact ⟨rfl,o⟩
theorem Hk1 (c k:Nat) (F:Fr) (ok:FrOk F):∀ (m:Nat) (i:Int) (X:CX),0≤i→i+m=8 →
  CtJ I8 D1 Ac7 [(0,P0 c),(5,int i)] [cmC c k F X] fun v own=>v=.tuple ⟨[]⟩∧own [cmC c k F (Gw0 F.caps.length (De9 (fun X i=>(D64 X i).2) m i X))]:=by
 intro m
 induction m with
 | zero =>
  intro i X h0 hi
  refine CtJ.of N9 fun h r=>Tr.eq (Bc6 ..) ?_;refine Je ?_
  refine Yf (by simp;omega) ?_
  refine Yr (Hi7 c k F ok 12 0 X (by omega) (by omega)) ?_
  rintro _ h ⟨rfl,o⟩
  exact ⟨rfl,o⟩
 | succ m ih =>
  intro i X h0 hi
  have e1:IntKind.wrap .i64 (i+1)=i+1:=by rw [A7];omega
  refine CtJ.of N9 fun h r=>Tr.eq (Bc6 ..) ?_;refine Je ?_
  refine Yt (by simp;omega) ?_
  refine Yc (G55 c k F X ok i) ?_;rintro _ h ⟨rfl,o⟩<;>(refine Jf o ?_;unhygienic intros)
  rw [e1]
  refine Yr (ih (i+1) (D64 X i).2 (by omega) (by omega)) ?_
  rintro _ h ⟨rfl,o⟩
  exact ⟨rfl,o⟩
theorem Hf6 (c k:Nat) (F:Fr) (X:CX) (ok:FrOk F):Ct A6 D1 [P0 c] [cmC c k F X] fun v own=>v=.tuple ⟨[]⟩∧own [cmC c k F (E49 X)]:=by
 refine Ct.of N9 rfl fun h r=>Tr.eq (Dv2 ..) ?_;refine Je ?_
 intro o
 obtain ⟨u,o1⟩:=Own.unfold (cmC c k F X) o
 have f:=(Own.front o1 (i:=2) rfl).pure
 have e:E49 X=lookN F.caps.length X:=by unfold E49;rw [f.mlen ok]
 rw [e]
 refine (?_:Tr _ _ _ _) o
 refine Yr (Hk1 c k F ok 8 0 X (by omega) (by omega)) ?_
 rintro _ h ⟨rfl,o⟩
 exact ⟨rfl,o⟩
end Go.EQ
