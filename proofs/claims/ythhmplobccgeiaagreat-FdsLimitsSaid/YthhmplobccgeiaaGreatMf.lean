/- As many pipes, files and descriptors may be as there is room for: what finds none changes nothing; closed ones make room; no conditions. -/
import Derived.Test.YthhmplobccgeiaaGreatMe
set_option linter.all false
set_option maxRecDepth 10000
namespace Go.EQ
open Go Go.NN
theorem S4 (l:List UInt8):(A0 l).length=l.length:=by simp [A0]
theorem D13 {l:List UInt8} {i:Nat} {x:UInt8} (h:l[i]?=some x):(A0 l)[i]?=some (.int .u8 x.toNat):=by
 unfold A0;rw [List.getElem?_map,h];rfl
def D39 (n:Int) (l:List UInt8):Int:=l.foldl (fun n c=>IntKind.wrap .u8 (n+c.toNat)) n
def Gg4 (l:List UInt8):Int:=D39 (IntKind.wrap .u8 l.length) l
theorem Hw0 (p:HP) (a:Option Addr) (ro:Bool) (n c d:Nat) (l:List UInt8) [ks:IsSl p a ro A6 1 n c (A0 l)] (x:Nat) (hx:x≤l.length) (hl:l.length≤B1):∀ (m i:Nat) (acc:Int),x-i=m→i≤x →
  S7 G6 Z7 Bi6 [(3,.int .u8 acc),(9,.slice a x d),(10,int x),(11,int i)] [p] (.int .u8 (D39 acc ((l.take x).drop i))):=by
 intro m
 induction m with
 | zero =>
  intro i acc hm hi
  refine S7.of Dw3 fun h r=>Tr.eq (Dz8 ..) ?_;refine Je ?_
  refine Yf (by simp;omega) ?_
  refine Ys fun o=>?_
  rw [List.drop_eq_nil_of_le (by simp;omega)];exact ⟨rfl,rfl⟩
 | succ m ih =>
  intro i acc hm hi
  have hlt:i<(l.take x).length:=by rw [List.length_take];omega
  have hp:l[i]?=some (l.take x)[i]:=by
   rw [List.getElem_take];exact List.getElem?_eq_getElem (by omega)
  have hd:(l.take x).drop i=(l.take x)[i]::(l.take x).drop (i+1):=List.drop_eq_getElem_cons hlt
  generalize (l.take x)[i]=y at hp hd
  have e1:IntKind.wrap .i64 ((i:Int)+1)=((i+1:Nat):Int):=by rw [A9];simp only [B1] at hl;omega
  refine S7.of Dw3 fun h r=>Tr.eq (Dz8 ..) ?_;refine Je ?_
  refine Yt (by simp;omega) ?_
  refine Aa7 0 rfl fun h1 h2 h3=>?_
  rw [S4] at h1
  (refine Ja ?_;unhygienic intros;repeat(refine Gw ?_;rintro px rfl;refine Ja ?_;unhygienic intros))
  refine Tr.xIntS (v:=y.toNat) (by simpa using D13 hp) ?_
  rw [e1,hd]
  exact Y0 (ih (i+1) _ (by omega) (by omega)) (r:=r) (by simp) fun o=>⟨rfl,rfl⟩
theorem Ga6 (p:HP) (a:Option Addr) (ro:Bool) (n c d:Nat) (l:List UInt8) [ks:IsSl p a ro A6 1 n c (A0 l)] (x:Nat) (hx:x≤l.length) (hl:l.length≤B1) :
  CtP B0 Z7 [.slice a x d] [p] (.int .u8 (Gg4 (l.take x))):=by
 refine CtP.of Dw3 rfl fun h r=>Tr.eq (G69 ..) ?_;refine Je ?_
 have e:(l.take x).length=x:=by rw [List.length_take];omega
 have J:=Hw0 p a ro n c d l x hx hl _ 0 (IntKind.wrap .u8 x) rfl (by omega)
 rw [List.drop_zero] at J
 refine Y0 J (r:=r) (by simp) fun o=>⟨?_,rfl⟩
 unfold Gg4;rw [e]
def Dt2:Nat→List UInt8→Int
 | _,[]=>-1
 | i,x::l=>if x≠0 then i else Dt2 (i+1) l
theorem Gm2:∀ (l:List UInt8) (i:Nat),decide (Dt2 i l≥0)=!l.all (·==0)
 | [],i=>by simp [Dt2]
 | x::l,i=>by
  unfold Dt2
  by_cases h:x=0
  ·rw [if_neg (by simp [h]),Gm2 l (i+1)];simp [h]
  ·rw [if_pos h];simp [h]
theorem Ig1 (x:UInt8):CtP B0 Ac7 [.int .u8 x.toNat] [] (.bool (x != 0)):=by
 refine CtP.of E74 rfl fun h r=>Tr.eq (Ga3 ..) ?_;refine Je ?_
 refine Ys fun o=>?_
 refine ⟨?_,rfl⟩
 congr 1
 have:((x.toNat:Int)=0)↔x=0:=by
  constructor
  ·intro h;exact UInt8.toNat.inj (by simpa using (show x.toNat=0 by omega))
  ·rintro rfl;rfl
 by_cases h:x=0
 ·subst h;rfl
 ·rw [bne_iff_ne.2 h,bne_iff_ne];intro h2;exact h (this.1 h2)
theorem E35 (p:HP) (a:Option Addr) (ro:Bool) (c:Nat) (l:List UInt8) [ks:IsSl p a ro A6 1 l.length c (A0 l)] (hl:l.length≤B1):∀ (m i:Nat),l.length-i=m→i≤l.length →
  S7 G6 E6 O7 [(0,.slice a l.length c),(1,.func (.func Ac7) ⟨[]⟩ ⟨[]⟩),(7,int l.length),(8,int i)] [p] (int (Dt2 i (l.drop i))):=by
 intro m
 induction m with
 | zero =>
  intro i hm hi
  refine S7.of Ae4 fun h r=>Tr.eq (Ap6 ..) ?_;refine Je ?_
  refine Yf (by simp;omega) ?_
  refine Ys fun o=>?_
  rw [List.drop_eq_nil_of_le (by omega)];exact ⟨rfl,rfl⟩
 | succ m ih =>
  intro i hm hi
  have hlt:i<l.length:=by omega
  have hp:l[i]?=some l[i]:=List.getElem?_eq_getElem hlt
  have hd:l.drop i=l[i]::l.drop (i+1):=List.drop_eq_getElem_cons hlt
  generalize l[i]=x at hp hd
  have e1:IntKind.wrap .i64 ((i:Int)+1)=((i+1:Nat):Int):=by rw [A9];simp only [B1] at hl;omega
  refine S7.of Ae4 fun h r=>Tr.eq (Ap6 ..) ?_;refine Je ?_
  refine Yt (by simp;omega) ?_
  (refine Ja ?_;unhygienic intros;repeat(refine Gw ?_;rintro px rfl;refine Ja ?_;unhygienic intros))
  refine Tr.xIntS (v:=x.toNat) (by simpa using D13 hp) ?_
  (refine Ja ?_;unhygienic intros)
  refine Bu2 (Ig1 x) (r:=p::r) (by simp) ?_
  by_cases hx:x=0
  ·have:(x != 0)=false:=by simp [hx]
   rw [this]
   (refine Ja ?_;unhygienic intros)
   rw [e1]
   refine Y0 (ih (i+1) (by omega) (by omega)) (r:=r) (by simp) fun o=>?_
   rw [hd,Dt2,if_neg (by simp [hx])];exact ⟨by first|rfl|trivial,by first|rfl|trivial⟩
  ·have:(x != 0)=true:=by simp [hx]
   rw [this]
   (refine Ja ?_;unhygienic intros)
   refine Ys fun o=>?_
   rw [hd,Dt2,if_pos hx];exact ⟨by first|rfl|trivial,by first|rfl|trivial⟩
theorem Hx6 (p:HP) (a:Option Addr) (ro:Bool) (c:Nat) (l:List UInt8) [ks:IsSl p a ro A6 1 l.length c (A0 l)] (hl:l.length≤B1) :
  CtP B0 Al1 [.slice a l.length c] [p] (.bool (l.all (·==0))):=by
 have j:CtP B0 E6 [.slice a l.length c,.func (.func Ac7) ⟨[]⟩ ⟨[]⟩] [p] (int (Dt2 0 l)):=by
  refine CtP.of Ae4 rfl fun h r=>Tr.eq (Bv1 ..) ?_;refine Je ?_
  exact Y0 (E35 p a ro c l hl _ 0 rfl (by omega)) (r:=r) (by simp) fun o=>⟨rfl,rfl⟩
 have j2:CtP B0 O9 [.slice a l.length c,.func (.func Ac7) ⟨[]⟩ ⟨[]⟩] [p] (.bool (!l.all (·==0))):=by
  refine CtP.of Bm2 rfl fun h r=>Tr.eq (Bo5 ..) ?_;refine Je ?_
  refine Bu2 j (r:=r) (by simp) ?_
  (refine Ja ?_;unhygienic intros)
  refine Ys fun o=>?_
  rw [Gm2];exact ⟨by first|rfl|trivial,by first|rfl|trivial⟩
 refine CtP.of Gr1 rfl fun h r=>Tr.eq (Go3 ..) ?_;refine Je ?_
 refine Bu2 j2 (r:=r) (by simp) ?_
 (refine Ja ?_;unhygienic intros)
 refine Ys fun o=>?_
 exact ⟨by simp,rfl⟩
theorem G38 (p q:HP) (a:Option Addr) (ro:Bool) (c:Nat) (a2:Option Addr) (ro2:Bool) (c2:Nat) (l m:List UInt8) [ks:IsSl p a ro A6 1 l.length c (A0 l)] [ks2:IsSl q a2 ro2 A6 1 m.length c2 (A0 m)] (hl:l.length≤B1) (hlm:m.length=l.length):∀ (k i:Nat),l.length-i=k→i≤l.length →
  S7 G6 D0 U2 [(0,.slice a l.length c),(1,.slice a2 m.length c2),(12,int l.length),(13,int i)] [p,q] (.bool (decide (l.drop i=m.drop i))):=by
 intro k
 induction k with
 | zero =>
  intro i hm hi
  refine S7.of Ak9 fun h r=>Tr.eq (Az8 ..) ?_;refine Je ?_
  refine Yf (by simp;omega) ?_
  refine Ys fun o=>?_
  rw [List.drop_eq_nil_of_le (by omega),List.drop_eq_nil_of_le (by omega)];exact ⟨rfl,rfl⟩
 | succ k ih =>
  intro i hm hi
  have hlt:i<l.length:=by omega
  have hp:l[i]?=some l[i]:=List.getElem?_eq_getElem hlt
  have hd:l.drop i=l[i]::l.drop (i+1):=List.drop_eq_getElem_cons hlt
  have hlt2:i<m.length:=by omega
  have hp2:m[i]?=some m[i]:=List.getElem?_eq_getElem hlt2
  have hd2:m.drop i=m[i]::m.drop (i+1):=List.drop_eq_getElem_cons hlt2
  generalize l[i]=x at hp hd
  generalize m[i]=y at hp2 hd2
  have e1:IntKind.wrap .i64 ((i:Int)+1)=((i+1:Nat):Int):=by rw [A9];simp only [B1] at hl;omega
  refine S7.of Ak9 fun h r=>Tr.eq (Az8 ..) ?_;refine Je ?_
  refine Yt (by simp;omega) ?_
  (refine Ja ?_;unhygienic intros;repeat(refine Gw ?_;rintro px rfl;refine Ja ?_;unhygienic intros))
  refine Tr.xIntS (v:=x.toNat) (by simpa using D13 hp) ?_
  (refine Ja ?_;unhygienic intros;repeat(refine Gw ?_;rintro px rfl;refine Ja ?_;unhygienic intros))
  refine Tr.xIntS (v:=y.toNat) (by simpa using D13 hp2) ?_
  by_cases hx:x=y
  ·subst hx
   refine Yf (by simp) ?_
   rw [e1]
   refine Y0 (ih (i+1) (by omega) (by omega)) (r:=r) (by simp) fun o=>?_
   rw [hd,hd2];exact ⟨by simp,rfl⟩
  ·refine Yt (by rw [bne_iff_ne];intro h2;exact hx (UInt8.toNat.inj (by omega))) ?_
   refine Ys fun o=>?_
   rw [hd,hd2];exact ⟨by simp [hx],rfl⟩
theorem Ep2 (p q:HP) (a:Option Addr) (ro:Bool) (c:Nat) (a2:Option Addr) (ro2:Bool) (c2:Nat) (l m:List UInt8) [ks:IsSl p a ro A6 1 l.length c (A0 l)] [ks2:IsSl q a2 ro2 A6 1 m.length c2 (A0 m)] (hl:l.length≤B1) :
  CtP B0 D0 [.slice a l.length c,.slice a2 m.length c2] [p,q] (.bool (decide (l=m))):=by
 refine CtP.of Ak9 rfl fun h r=>Tr.eq (Db9 ..) ?_;refine Je ?_
 by_cases h:m.length=l.length
 ·refine Yf (by simp [h]) ?_
  have J:=G38 p q a ro c a2 ro2 c2 l m hl h _ 0 rfl (by omega)
  simp only [List.drop_zero] at J
  exact Y0 J (r:=r) (by simp) fun o=>⟨rfl,rfl⟩
 ·refine Yt (by rw [bne_iff_ne];omega) ?_
  refine Ys fun o=>?_
  exact ⟨by rw [decide_eq_false (fun e=>h (by rw [e]))],rfl⟩
theorem Hr3 (p:HP) (ro:Bool) (a:Option Addr) (c:Nat) (l:List UInt8) [ks:IsSl p a ro A6 1 l.length c (A0 l)] (hn:l.length≤B1) :
  Ct B0 G0 [.slice a l.length c] [p] fun v own=>∃ a' c',v=.slice a' l.length c'∧own [slC false A6 1 a' l.length c' (A0 l),p]:=by
 refine Ct.of A95 rfl fun h r=>Tr.eq (A92 ..) ?_;refine Je ?_
 refine Aa7 0 rfl fun hl hc _=>?_
 refine Tr.cond (fun hb=>?_) fun hb=>?_
 ·obtain rfl:a=none:=by simpa using hb
  refine G9 false A6 1 (by omega) ?_
  intro o
  have o1:=(o.tail.head ks.en).slNone
  obtain rfl:l=[]:=by
   have:=o1.2.2.1
   cases l with
   | nil=>rfl
   | cons x l=>simp [A0] at this
  obtain rfl:c=0:=o1.2.1
  exact ⟨_,_,rfl,none,0,rfl,o⟩
 ·(refine Ja ?_;unhygienic intros)
  refine Ai0 0 rfl 1 0 rfl (by omega) ?_;refine Je ?_
  (refine Ja ?_;unhygienic intros)
  refine Tr.xApd ⟨by simp [A0],by simp [A0,Value.oneCell],by omega⟩ fun a' c' h'=>?_
  refine Je ?_
  refine Ys fun o=>⟨a',c',by simp,by simpa using o⟩
end Go.EQ
namespace Go.NN
section
variable {l:List HP} {h:H} {α:Type} {Q:α→H→Prop} {ro:Bool} {e:TypeId} {cs:List Value}
instance {f:Fn} {a c:Array Value} {k:Option α}:Dx (one (.func f a c) k) k:=⟨rfl⟩
theorem Hu9 {x:Option (α × H)} {p:HP} (i:Nat) {a:Option Addr} {sz n c:Nat} (hi:l[i]?=some p) [k:IsSl p a ro e sz n c cs] (hn:0<n) (t:∀ y,a=some y→Tr l h x Q):Tr l h x Q:=fun ow=>by
 obtain ⟨y,hy⟩:=((ow.front hi).head k.en).slSome hn
 exact t y hy ow
theorem Tr.xPCells {a:Option Addr} {n c sz:Nat} {vs cs':List Value} {l':List HP} {k:H→Option (α × H)} [k1:LkO l a false e sz n c cs] (hn:0<n) (hj:vs≠[]∧vs.length≤cs.length∧vs.all Value.oneCell=true∧vs++cs.drop vs.length=cs') [k2:UpO l a (slC false e sz a n c cs') e sz n c cs l'] (t:∀ h',Tr l' h' (k h') Q):Tr l h (NN.pCells a vs h k) Q:=fun ow=>by
 obtain ⟨i,p,hi,hp⟩:=k1.ix
 obtain ⟨y,rfl⟩:=((ow.front hi).head hp).slSome hn
 have:NN.pCells (Option.some y) vs h k=NN.pAgg ((B3 y).add 0) vs h k:=by
  show NN.pAgg (B3 y) vs h k=_
  congr 1
 rw [this]
 exact Tr.xPAggS (k1:=k1) ⟨hj.1,by omega,hj.2.2.1,by simpa using hj.2.2.2⟩ (k2:=k2) t ow
end
end Go.NN

set_option maxRecDepth 10000
namespace Go.EQ
open Go Go.NN
def b8 (x:Int):UInt8:=UInt8.ofNat (x%256).toNat
theorem Dh7 (x:Int):IntKind.wrap .u8 x=x%256:=H19 x
theorem Bg1 (x:Int):IntKind.wrap .u8 x=((b8 x).toNat:Int):=by
 rw [Dh7,b8,UInt8.toNat_ofNat']
 omega
def Bs8 (l:List UInt8):UInt8:=b8 (Gg4 l)
theorem G19:∀ (l:List UInt8) (n:Int),0≤n∧n<256→0≤D39 n l∧D39 n l<256
 | [],n,h=>h
 | x::l,n,h=>G19 l _ (by show 0≤IntKind.wrap .u8 (n+x.toNat)∧IntKind.wrap .u8 (n+x.toNat)<256;rw [Dh7];omega)
theorem Dk5 (l:List UInt8):Gg4 l=((Bs8 l).toNat:Int):=by
 have:=G19 l (IntKind.wrap .u8 l.length) (by rw [Dh7];omega)
 unfold Bs8
 rw [← Bg1,Dh7]
 unfold Gg4 at *;omega
structure FileS where
 kind:Int
 pipe:Int
 refs:Int
 flags:Int
abbrev FileS.zero:FileS:=⟨0,0,0,0⟩
abbrev Bj4 (f:FileS):List Value:=[int f.kind,int f.pipe,int f.refs,int f.flags]
def okF (f:FileS):Bool:=decide (f.kind≥1) && decide (f.kind≤3) && decide (f.pipe≥0) && decide (f.pipe≤7) && (f.kind != 3 || f.pipe==0) && decide (f.refs≥1) && decide (f.refs≤64) && (f.flags==0 || f.flags==1)
def A61 (f:FileS):List UInt8:=[b8 f.kind,b8 f.pipe,b8 f.refs,b8 f.flags,179]
def Ah7 (f:FileS):List UInt8:=A61 f++[Bs8 (A61 f),0,0]
theorem Id1 (f:FileS):Ct B0 De9 [.agg ⟨Bj4 f⟩] [] fun v own=>v=.bool (okF f)∧own []:=by
 refine Ct.of Hi2 rfl fun h r=>Tr.eq (Hj2 ..) ?_;refine Je ?_
 (refine Ja ?_;unhygienic intros)
 refine Ys fun o=>?_
 refine ⟨?_,o.sub⟩
 rfl
theorem H72 (a:Option Addr) (c:Nat) (f:FileS):Ct B0 Aq1 [.agg ⟨Bj4 f⟩,.slice a 8 c] [slC false A6 1 a 8 c (A0 (List.replicate 8 0))] fun v own=>v=.bool (okF f)∧own [slC false A6 1 a 8 c (A0 (if okF f then Ah7 f else List.replicate 8 0))]:=by
 refine Ct.of G89 rfl fun h r=>Tr.eq (Hb6 ..) ?_;refine Je ?_
 (refine Ja ?_;unhygienic intros)
 refine Yc (Id1 f) ?_;rintro _ h ⟨rfl,o⟩<;>(refine Jf o ?_;unhygienic intros)
 cases hk:okF f with
 | false =>
  (refine Ja ?_;unhygienic intros)
  refine Ys fun o=>?_
  rw [if_neg (by simp)]
  exact ⟨rfl,o.sub⟩
 | true =>
  (refine Ja ?_;unhygienic intros)
  simp only [Bg1,List.drop_zero,List.take]
  refine Aa7 2 rfl fun hl hc _=>?_
  refine Tr.xPCells (cs':=A0 (A61 f++[0,0,0])) (by omega) ⟨by simp,by simp [A0],by simp [Value.oneCell],rfl⟩ fun h=>?_
  (refine Ja ?_;unhygienic intros)
  refine Tr.pcall (Ga6 (slC false A6 1 a 8 c (A0 (A61 f++[0,0,0]))) a false 8 c c (A61 f++[0,0,0]) 5 (by simp [A61]) (by simp [A61,B1])) ?_
  refine Je ?_
  (refine Ja ?_;unhygienic intros;repeat(refine Gw ?_;rintro px rfl;refine Ja ?_;unhygienic intros))
  rw [show List.take 5 (A61 f++[0,0,0]:List UInt8)=A61 f from rfl,Dk5]
  refine Tr.xVS (cs':=A0 (Ah7 f)) ⟨by simp [A0,A61],rfl,rfl⟩ fun h=>?_
  refine Ys fun o=>?_
  simp only [if_true]
  exact ⟨trivial,o.sub⟩
theorem Dr4 {l:List Value} (h:l.all (fun v=>match v with|.int _ _=>true|_=>false)=true):An8 (.agg ⟨l⟩) (.agg ⟨l⟩)=true:=by
 show Bp9 l l=true
 induction l with
 | nil=>rfl
 | cons v l ih =>
  simp only [List.all_cons,Bool.and_eq_true] at h
  show (A14 v v && Bp9 l l)=true
  rw [ih h.2,Bool.and_true]
  cases v<;>first|(simp [A14];done)|exact absurd h.1 (by simp)
abbrev G02 (k:Nat):HP:=pt k (.cells Ai5 false [int 8,.func (.func Aq1) ⟨[]⟩ ⟨[]⟩,.func (.func Ap5) ⟨[]⟩ ⟨[]⟩])
theorem Ha0 (k:Nat) (f:FileS):Ct B0 U3 [P0 k,.agg ⟨Bj4 f⟩] [G02 k] fun v own=>(okF f=true∧∃ a,v=.tuple ⟨[.slice a 8 8,.bool true]⟩∧own [G02 k,slC false A6 1 a 8 8 (A0 (Ah7 f))])∨(okF f=false∧v=.tuple ⟨[.slice none 0 0,.bool false]⟩∧own [G02 k]):=by
 refine Ct.of B08 rfl fun h r=>Tr.eq (B10 ..) ?_;refine Je ?_
 (refine Ja ?_;unhygienic intros)
 refine Tr.ck ⟨by omega,by omega,by simp [B1]⟩ ?_
 refine Yn fun b1 h=>?_
 rw [show G8 (Int.toNat 8) [.int .u8 0]=A0 (List.replicate 8 0) from rfl]
 refine Ai0 0 rfl 1 8 rfl (by omega) ?_
 simp only [List.set_cons_zero]
 refine Je ?_
 (refine Jb ?_;unhygienic intros)
 refine Yb (Yf rfl ?_)
 (refine Jb ?_;unhygienic intros)
 refine Yc (H72 (some ⟨b1,0,none⟩) 8 f) ?_;rintro _ h ⟨rfl,o⟩<;>(refine Jg o ?_;unhygienic intros)
 refine Ys fun o=>(?_:Tr _ _ _ _) o;refine Je ?_
 cases hk:okF f with
 | false =>
  (refine Ja ?_;unhygienic intros)
  refine Ys fun o=>?_
  exact .inr ⟨rfl,rfl,o.sub⟩
 | true =>
  (refine Ja ?_;unhygienic intros)
  refine Ys fun o=>?_
  simp only [if_true] at o
  exact .inl ⟨rfl,_,rfl,o.sub⟩
theorem H76:Ct B0 Am7 [int 8,.func (.func Aq1) ⟨[]⟩ ⟨[]⟩,.func (.func Ap5) ⟨[]⟩ ⟨[]⟩] [] fun v own=>∃ k,v=P0 k∧own [pt k (.cells Ai5 false [int 8,.func (.func Aq1) ⟨[]⟩ ⟨[]⟩,.func (.func Ap5) ⟨[]⟩ ⟨[]⟩])]:=by
 refine Ct.of D34 rfl fun h r=>Tr.eq (D46 ..) ?_;refine Je ?_
 rw [show mm2 false (mm2 true 8 0) 64=8 from rfl]
 (refine Ja ?_;unhygienic intros)
 refine Ys fun o=>?_
 exact ⟨_,rfl,o.sub⟩
theorem Gl6:Ct B0 Ba3 [] [] fun v own=>∃ k,v=P0 k∧own [pt k (.cells Ai5 false [int 8,.func (.func Aq1) ⟨[]⟩ ⟨[]⟩,.func (.func Ap5) ⟨[]⟩ ⟨[]⟩])]:=by
 refine Ct.of Go4 rfl fun h r=>Tr.eq (Gq4 ..) ?_;refine Je ?_
 refine Yc (H76) ?_;rintro _ h ⟨k,rfl,o⟩<;>(refine Jf o ?_;unhygienic intros)
 refine Ys fun o=>?_
 exact ⟨_,rfl,o.sub⟩
theorem E64 (f:FileS):Ct B0 A41 [.agg ⟨Bj4 f⟩] [] fun v own=>(okF f=true∧∃ a,v=.tuple ⟨[.slice a 8 8,.bool true]⟩∧own [slC false A6 1 a 8 8 (A0 (Ah7 f))])∨(okF f=false∧v=.tuple ⟨[.slice none 0 0,.bool false]⟩∧own []):=by
 refine Ct.of Gf8 rfl fun h r=>Tr.eq (Gf5 ..) ?_;refine Je ?_
 (refine Ja ?_;unhygienic intros)
 refine Yc (Gl6) ?_;rintro _ h ⟨k,rfl,o⟩<;>(refine Jf o ?_;unhygienic intros)
 refine Tr.same (Dr4 rfl) ?_
 refine Yc (Ha0 k f) ?_
 rintro v h (⟨hk,a,rfl,o⟩|⟨hk,rfl,o⟩)
 ·refine (?_:Tr _ _ _ _) o
  refine Je ?_
  (refine Ja ?_;unhygienic intros)
  refine Ys fun o=>?_
  exact .inl ⟨hk,a,rfl,o.sub⟩
 ·refine (?_:Tr _ _ _ _) o
  refine Je ?_
  (refine Ja ?_;unhygienic intros)
  refine Ys fun o=>?_
  exact .inr ⟨hk,rfl,o.sub⟩
theorem Ac0 {l:List UInt8} {i:Nat} (h:i<l.length):(A0 l)[i]?=some (.int .u8 ((l.getD i 0).toNat:Int)):=by
 rw [List.getD_eq_getElem?_getD,List.getElem?_eq_getElem h];exact D13 (List.getElem?_eq_getElem h)
theorem Al5 (x:UInt8):IntKind.wrap .i64 (x.toNat:Int)=(x.toNat:Int):=by
 have:=x.toNat_lt;rw [A9];omega
abbrev byI (l:List UInt8) (i:Nat):Int:=((l.getD i 0).toNat:Int)
def B37 (l:List UInt8):FileS:=⟨byI l 0,byI l 1,byI l 2,byI l 3⟩
def isF (l:List UInt8):Bool:=okF (B37 l) && decide (Ah7 (B37 l)=l)
theorem H91 (a:Option Addr) (c:Nat) (l:List UInt8) (hl:l.length=8):Ct B0 Ap5 [.slice a 8 c] [slC false A6 1 a 8 c (A0 l)] fun v own=>v=.tuple ⟨[.agg ⟨Bj4 (B37 l)⟩,.bool (isF l)]⟩∧own [slC false A6 1 a 8 c (A0 l)]:=by
 have key:∀ a1:Option Addr,CtP B0 D0 [.slice a1 8 8,.slice a 8 c] [slC false A6 1 a1 8 8 (A0 (Ah7 (B37 l))),slC false A6 1 a 8 c (A0 l)] (.bool (decide (Ah7 (B37 l)=l))):=fun a1=>by
  have J:=Ep2 (slC false A6 1 a1 8 8 (A0 (Ah7 (B37 l)))) (slC false A6 1 a l.length c (A0 l)) a1 false 8 a false c (Ah7 (B37 l)) l (by simp [Ah7,A61,B1])
  rwa [hl,show (Ah7 (B37 l)).length=8 from rfl] at J
 refine Ct.of G92 rfl fun h r=>Tr.eq (G76 ..) ?_;refine Je ?_
 refine Yn fun b1 h=>?_
 (refine Ja ?_;unhygienic intros;repeat(refine Gw ?_;rintro px rfl;refine Ja ?_;unhygienic intros))
 refine Tr.xIntS (v:=byI l 0) (Ac0 (by omega)) ?_
 (refine Ja ?_;unhygienic intros)
 refine Tr.xIntS (v:=byI l 1) (Ac0 (by omega)) ?_
 (refine Ja ?_;unhygienic intros)
 refine Tr.xIntS (v:=byI l 2) (Ac0 (by omega)) ?_
 (refine Ja ?_;unhygienic intros)
 refine Tr.xIntS (v:=byI l 3) (Ac0 (by omega)) ?_
 simp only [byI,Al5]
 refine Yn fun b2 h=>?_
 (refine Jb ?_;unhygienic intros)
 refine Yc (E64 (B37 l)) ?_
 rintro v h (⟨hk,a1,rfl,o⟩|⟨hk,rfl,o⟩)
 ·refine (?_:Tr _ _ _ _) o
  refine Je ?_
  (refine Jb ?_;unhygienic intros)
  refine Yb (Yt rfl ?_)
  refine Tr.pcall (key a1) ?_;refine Je ?_;(refine Jb ?_;unhygienic intros)
  refine Tr.same (Dr4 rfl) ?_
  refine Ys fun o=>(?_:Tr _ _ _ _) o;refine Je ?_
  (refine Ja ?_;unhygienic intros)
  refine Ys fun o=>?_
  exact ⟨by unfold isF;rw [hk,Bool.true_and];rfl,o.sub⟩
 ·refine (?_:Tr _ _ _ _) o
  refine Je ?_
  (refine Ja ?_;unhygienic intros)
  refine Ys fun o=>?_
  exact ⟨by unfold isF;rw [hk];rfl,o.sub⟩
theorem Ek4 (n:Nat) (a:Option Addr) (c:Nat) (l:List UInt8) (hl:l.length=n) (hn:n≤B1):Ct B0 G0 [.slice a n c] [slC false A6 1 a n c (A0 l)] fun v own=>∃ a' c',v=.slice a' n c'∧own [slC false A6 1 a' n c' (A0 l),slC false A6 1 a n c (A0 l)]:=by
 subst hl;exact Hr3 (slC false A6 1 a l.length c (A0 l)) false a c l hn
theorem Em8 (n:Nat) (a:Option Addr) (c:Nat) (l:List UInt8) (hl:l.length=n) (hn:n≤B1):CtP B0 Al1 [.slice a n c] [slC false A6 1 a n c (A0 l)] (.bool (l.all (·==0))):=by
 subst hl;exact Hx6 (slC false A6 1 a l.length c (A0 l)) a false c l hn
theorem G98 (k:Nat) (a:Option Addr) (c:Nat) (l:List UInt8) (hl:l.length=8):Ct B0 U4 [P0 k,.slice a 8 c] [G02 k,slC false A6 1 a 8 c (A0 l)] fun v own=>v=.tuple ⟨[.agg ⟨Bj4 (if isF l then B37 l else .zero)⟩,.bool (isF l)]⟩∧own [G02 k,slC false A6 1 a 8 c (A0 l)]:=by
 refine Ct.of B11 rfl fun h r=>Tr.eq (B09 ..) ?_;refine Je ?_
 (refine Ja ?_;unhygienic intros)
 refine Yf rfl ?_
 (refine Jb ?_;unhygienic intros)
 refine Yc (Ek4 8 a c l hl (by simp [B1])) ?_;rintro _ h ⟨a1,c1,rfl,o⟩<;>(refine Jg o ?_;unhygienic intros)
 refine Yc (H91 a1 c1 l hl) ?_;rintro _ h ⟨rfl,o⟩<;>(refine Jg o ?_;unhygienic intros)
 cases hk:isF l with
 | false =>
  (refine Ja ?_;unhygienic intros)
  refine Ys fun o=>?_
  exact ⟨rfl,o.sub⟩
 | true =>
  (refine Ja ?_;unhygienic intros)
  refine Ys fun o=>?_
  exact ⟨rfl,o.sub⟩
def Z3 (l:List UInt8):FileS × Int:=if l.all (·==0) then (.zero,0) else if isF l then (B37 l,1) else (.zero,2)
theorem Hi0 (a:Option Addr) (c:Nat) (l:List UInt8) (hl:l.length=8):Ct B0 A25 [.slice a 8 c] [slC false A6 1 a 8 c (A0 l)] fun v own=>v=.tuple ⟨[.agg ⟨Bj4 (Z3 l).1⟩,int (Z3 l).2]⟩∧own [slC false A6 1 a 8 c (A0 l)]:=by
 refine Ct.of Gg8 rfl fun h r=>Tr.eq (Gf1 ..) ?_;refine Je ?_
 refine Yn fun b1 h=>?_
 refine Yb (Yt rfl ?_)
 refine Tr.pcall (Em8 8 a c l hl (by simp [B1])) ?_;refine Je ?_;(refine Jb ?_;unhygienic intros)
 refine Ys fun o=>(?_:Tr _ _ _ _) o;refine Je ?_
 cases hb:l.all (·==0) with
 | true =>
  (refine Ja ?_;unhygienic intros)
  refine Ys fun o=>?_
  exact ⟨by unfold Z3;rw [hb];rfl,o.sub⟩
 | false =>
  (refine Jb ?_;unhygienic intros)
  refine Yc (Gl6) ?_;rintro _ h ⟨k,rfl,o⟩<;>(refine Jg o ?_;unhygienic intros)
  refine Yc (G98 k a c l hl) ?_;rintro _ h ⟨rfl,o⟩<;>(refine Jg o ?_;unhygienic intros)
  cases hk:isF l with
  | false =>
   (refine Ja ?_;unhygienic intros)
   refine Ys fun o=>?_
   exact ⟨by unfold Z3;rw [hb,hk];rfl,o.sub⟩
  | true =>
   (refine Ja ?_;unhygienic intros)
   refine Ys fun o=>?_
   exact ⟨by unfold Z3;rw [hb,hk];rfl,o.sub⟩
structure PipeS where
 head:Int
 count:Int
 readers:Int
 writers:Int
 data:List UInt8
 len:data.length=32
abbrev PipeS.zero:PipeS:=⟨0,0,0,0,List.replicate 32 0,rfl⟩
abbrev L8 (p:PipeS):List Value:=int p.head::int p.count::int p.readers::int p.writers::A0 p.data
theorem Dr8 {p:PipeS} (hd:p.data.length=32):(L8 p).length=36:=by simp [L8,S4,hd]
theorem Hk2 {p:PipeS} (hd:p.data.length=32):4+32≤(L8 p).length∧((L8 p).drop 4).take 32=A0 p.data:=⟨by rw [Dr8 hd];exact Nat.le_refl _,by
 rw [show (L8 p).drop 4=A0 p.data from rfl,List.take_of_length_le (by rw [S4,hd];exact Nat.le_refl _)]⟩
theorem Hv5 (p:PipeS):(L8 p).all Value.oneCell=true:=by simp [L8,Af0,Value.oneCell]
theorem Hk4 (p:PipeS):An8 (.agg ⟨L8 p⟩) (.agg ⟨L8 p⟩)=true:=Dr4 (by simp [L8,A0])
instance {p:PipeS}:LenC (L8 p) 36:=⟨Dr8 p.len⟩
instance {p:PipeS}:PartC (L8 p) 0 36 (L8 p):=⟨Da2 (Dr8 p.len)⟩
instance {p:PipeS} {cs:List Value} [k:LenC cs 36]:SetsC cs 0 (L8 p) (L8 p):=⟨Bu6 k.ok (Dr8 p.len) (Hv5 p)⟩
instance {p:PipeS}:SameC (.agg ⟨L8 p⟩):=⟨Hk4 p⟩
def okP (p:PipeS):Bool:=decide (0≤p.head∧p.head≤31) && decide (0≤p.count∧p.count≤32) && decide (0≤p.readers∧p.readers≤8) && decide (0≤p.writers∧p.writers≤8)
def Ag4 (p:PipeS):List UInt8:=[1,b8 p.head,b8 p.count,b8 p.readers,b8 p.writers,197]
def I6 (p:PipeS):List UInt8:=Ag4 p++Bs8 (Ag4 p)::0::p.data
theorem Bt1 {p:PipeS} (hd:p.data.length=32):(I6 p).length=40:=by simp [I6,Ag4,hd]
theorem Id3 (n m:Int):CtP B0 Ap8 [int n,int m] [] (.bool (decide (0≤n∧n≤m))):=by
 refine CtP.of Hb3 rfl fun h r=>Tr.eq (G72 ..) ?_;refine Je ?_
 (refine Ja ?_;unhygienic intros)
 refine Ys fun o=>?_
 refine ⟨?_,rfl⟩
 refine congrArg Value.bool ?_;rw [Bool.eq_iff_iff];simp only [Bool.and_eq_true,Bool.or_eq_true,Bool.not_eq_true',Bool.not_eq_false',decide_eq_true_eq,decide_eq_false_iff_not,bne_iff_ne,beq_iff_eq,ne_eq,A9,V6,Aa9,ge_iff_le,gt_iff_lt];first|done|omega
instance {n m:Int} {l:List HP}:PCi B0 Ap8 [.int .i64 n,.int .i64 m] l (.bool (decide (0≤n∧n≤m))):=PCi.of (Id3 n m)
theorem Ie6 (p:PipeS):Ct B0 Dt8 [.agg ⟨L8 p⟩] [] fun v own=>v=.bool (okP p)∧own []:=by
 refine Ct.of Hx4 rfl fun h r=>Tr.eq (Hr5 ..) ?_;refine Je ?_
 (refine Ja ?_;unhygienic intros)
 refine Ys fun o=>?_
 exact ⟨rfl,o.sub⟩
theorem H78 (a:Option Addr) (c:Nat) (p:PipeS):Ct B0 Bi4 [.agg ⟨L8 p⟩,.slice a 40 c] [slC false A6 1 a 40 c (A0 (List.replicate 40 0))] fun v own=>v=.bool (okP p)∧own [slC false A6 1 a 40 c (A0 (if okP p then I6 p else List.replicate 40 0))]:=by
 have hd:=p.len
 refine Ct.of Hh5 rfl fun h r=>Tr.eq (Hf8 ..) ?_;refine Je ?_
 refine Yn fun b1 h=>?_
 (refine Ja ?_;unhygienic intros)
 refine Yc (Ie6 p) ?_;rintro _ h ⟨rfl,o⟩<;>(refine Jg o ?_;unhygienic intros)
 cases hk:okP p with
 | false =>
  (refine Ja ?_;unhygienic intros)
  refine Ys fun o=>?_
  rw [if_neg (by simp)]
  exact ⟨rfl,o.sub⟩
 | true =>
  (refine Ja ?_;unhygienic intros)
  simp only [Bg1,List.drop_zero,List.take]
  refine Aa7 2 rfl fun hl hc _=>?_
  refine Tr.xPCells (cs':=A0 (Ag4 p++List.replicate 34 0)) (by omega) ⟨by simp,by simp [A0],by simp [Value.oneCell],rfl⟩ fun h=>?_
  (refine Ja ?_;unhygienic intros)
  refine Tr.pcall (Ga6 (slC false A6 1 a 40 c (A0 (Ag4 p++List.replicate 34 0))) a false 40 c c (Ag4 p++List.replicate 34 0) 6 (by simp [Ag4]) (by simp [Ag4,B1])) ?_
  refine Je ?_
  (refine Ja ?_;unhygienic intros;repeat(refine Gw ?_;rintro px rfl;refine Ja ?_;unhygienic intros))
  rw [show List.take 6 (Ag4 p++List.replicate 34 0:List UInt8)=Ag4 p from rfl,Dk5]
  refine Tr.xVS (cs':=A0 (Ag4 p++Bs8 (Ag4 p)::List.replicate 33 0)) ⟨by simp [A0,Ag4],rfl,rfl⟩ fun h=>?_
  (refine Ja ?_;unhygienic intros)
  refine Tr.xCellsB (xs:=A0 p.data) (Hk2 p.len) ?_
  rw [Ge9 (by omega),Eh8]
  refine Tr.xPAggS (cs':=A0 (I6 p)) ⟨?_,?_,Af0 _,?_⟩ fun h=>?_
  ·intro e;have:=congrArg List.length e;simp [A0,hd] at this
  ·simp [A0,hd,Ag4]
  ·rw [S4,hd]
   simp [A0,I6,Ag4]
  refine Ys fun o=>?_
  simp only [if_true]
  exact ⟨trivial,o.sub⟩
abbrev E38 (k:Nat):HP:=pt k (.cells Bn1 false [int 40,.func (.func Bi4) ⟨[]⟩ ⟨[]⟩,.func (.func Bi8) ⟨[]⟩ ⟨[]⟩])
theorem G68 (k:Nat) (f:PipeS):Ct B0 S9 [P0 k,.agg ⟨L8 f⟩] [E38 k] fun v own=>(okP f=true∧∃ a,v=.tuple ⟨[.slice a 40 40,.bool true]⟩∧own [E38 k,slC false A6 1 a 40 40 (A0 (I6 f))])∨(okP f=false∧v=.tuple ⟨[.slice none 0 0,.bool false]⟩∧own [E38 k]):=by
 refine Ct.of B15 rfl fun h r=>Tr.eq (B16 ..) ?_;refine Je ?_
 (refine Ja ?_;unhygienic intros)
 refine Tr.ck ⟨by omega,by omega,by simp [B1]⟩ ?_
 refine Yn fun b1 h=>?_
 rw [show G8 (Int.toNat 40) [.int .u8 0]=A0 (List.replicate 40 0) from rfl]
 refine Ai0 0 rfl 1 40 rfl (by omega) ?_
 simp only [List.set_cons_zero]
 refine Je ?_
 (refine Jb ?_;unhygienic intros)
 refine Yb (Yf rfl ?_)
 (refine Jb ?_;unhygienic intros)
 refine Yc (H78 (some ⟨b1,0,none⟩) 40 f) ?_;rintro _ h ⟨rfl,o⟩<;>(refine Jg o ?_;unhygienic intros)
 refine Ys fun o=>(?_:Tr _ _ _ _) o;refine Je ?_
 cases hk:okP f with
 | false =>
  (refine Ja ?_;unhygienic intros)
  refine Ys fun o=>?_
  exact .inr ⟨rfl,rfl,o.sub⟩
 | true =>
  (refine Ja ?_;unhygienic intros)
  refine Ys fun o=>?_
  simp only [if_true] at o
  exact .inl ⟨rfl,_,rfl,o.sub⟩
theorem H86:Ct B0 Ao8 [int 40,.func (.func Bi4) ⟨[]⟩ ⟨[]⟩,.func (.func Bi8) ⟨[]⟩ ⟨[]⟩] [] fun v own=>∃ k,v=P0 k∧own [E38 k]:=by
 refine Ct.of D94 rfl fun h r=>Tr.eq (D87 ..) ?_;refine Je ?_
 rw [show mm2 false (mm2 true 40 0) 64=40 from rfl]
 (refine Ja ?_;unhygienic intros)
 refine Ys fun o=>?_
 exact ⟨_,rfl,o.sub⟩
theorem Gl3:Ct B0 Be8 [] [] fun v own=>∃ k,v=P0 k∧own [E38 k]:=by
 refine Ct.of G46 rfl fun h r=>Tr.eq (G11 ..) ?_;refine Je ?_
 refine Yc (H86) ?_;rintro _ h ⟨k,rfl,o⟩<;>(refine Jf o ?_;unhygienic intros)
 refine Ys fun o=>?_
 exact ⟨_,rfl,o.sub⟩
theorem Ga2 (f:PipeS):Ct B0 Ba6 [.agg ⟨L8 f⟩] [] fun v own=>(okP f=true∧∃ a,v=.tuple ⟨[.slice a 40 40,.bool true]⟩∧own [slC false A6 1 a 40 40 (A0 (I6 f))])∨(okP f=false∧v=.tuple ⟨[.slice none 0 0,.bool false]⟩∧own []):=by
 refine Ct.of Gr0 rfl fun h r=>Tr.eq (Gp3 ..) ?_;refine Je ?_
 refine Yn fun b1 h=>?_
 (refine Ja ?_;unhygienic intros)
 refine Yc (Gl3) ?_;rintro _ h ⟨k,rfl,o⟩<;>(refine Jg o ?_;unhygienic intros)
 (refine Ja ?_;unhygienic intros)
 refine Yc (G68 k f) ?_
 rintro v h (⟨hk,a,rfl,o⟩|⟨hk,rfl,o⟩)
 ·refine (?_:Tr _ _ _ _) o
  refine Je ?_
  (refine Ja ?_;unhygienic intros)
  refine Ys fun o=>?_
  exact .inl ⟨hk,a,rfl,o.sub⟩
 ·refine (?_:Tr _ _ _ _) o
  refine Je ?_
  (refine Ja ?_;unhygienic intros)
  refine Ys fun o=>?_
  exact .inr ⟨hk,rfl,o.sub⟩
def Dq8 (l:List UInt8):List UInt8:=(l++List.replicate 32 0).take 32
theorem Hv1 (l:List UInt8):(Dq8 l).length=32:=by simp [Dq8]
theorem D36 {l:List UInt8} (h:l.length=32):Dq8 l=l:=by simp [Dq8,← h]
def Bb5 (l:List UInt8):PipeS:=⟨byI l 1,byI l 2,byI l 3,byI l 4,Dq8 (l.drop 8),Hv1 _⟩
def isP (l:List UInt8):Bool:=okP (Bb5 l) && decide (I6 (Bb5 l)=l)
theorem H82 (a:Option Addr) (c:Nat) (l:List UInt8) (hl:l.length=40):Ct B0 Bi8 [.slice a 40 c] [slC false A6 1 a 40 c (A0 l)] fun v own=>v=.tuple ⟨[.agg ⟨L8 (Bb5 l)⟩,.bool (isP l)]⟩∧own [slC false A6 1 a 40 c (A0 l)]:=by
 have hd:=(Bb5 l).len
 have hp:Dq8 (l.drop 8)=l.drop 8:=D36 (by simp [hl])
 have key:∀ a1:Option Addr,CtP B0 D0 [.slice a1 40 40,.slice a 40 c] [slC false A6 1 a1 40 40 (A0 (I6 (Bb5 l))),slC false A6 1 a 40 c (A0 l)] (.bool (decide (I6 (Bb5 l)=l))):=fun a1=>by
  have e:=Bt1 hd
  have J:=Ep2 (slC false A6 1 a1 (I6 (Bb5 l)).length 40 (A0 (I6 (Bb5 l)))) (slC false A6 1 a l.length c (A0 l)) a1 false 40 a false c (I6 (Bb5 l)) l (by rw [e];simp [B1])
  rwa [hl,e] at J
 refine Ct.of Hk7 rfl fun h r=>Tr.eq (Hi4 ..) ?_;refine Je ?_
 refine Yn fun b1 h=>?_
 refine Aa7 1 rfl fun hl2 hc2 _=>?_
 (refine Ja ?_;unhygienic intros;repeat(refine Gw ?_;rintro px rfl;refine Ja ?_;unhygienic intros))
 refine Tr.xIntS (v:=byI l 1) (Ac0 (by omega)) ?_
 (refine Ja ?_;unhygienic intros)
 refine Tr.xIntS (v:=byI l 2) (Ac0 (by omega)) ?_
 (refine Ja ?_;unhygienic intros)
 refine Tr.xIntS (v:=byI l 3) (Ac0 (by omega)) ?_
 (refine Ja ?_;unhygienic intros)
 refine Tr.xIntS (v:=byI l 4) (Ac0 (by omega)) ?_
 simp only [byI,Al5]
 refine Yn fun b2 h=>?_
 (refine Jb ?_;unhygienic intros)
 rw [Ge9 (show 8<c by omega),Gz8]
 refine Tr.xAggS (xs:=A0 (l.drop 8)) ⟨by omega,by simp [S4,hl],?_⟩ ?_
 ·rw [B52,List.take_of_length_le (by simp [S4,hl])]
 rw [show pCells (some (⟨b2,4,none⟩:Addr))=pAgg ⟨b2,4,none⟩ from rfl]
 refine Tr.xPAgg (cs':=L8 (Bb5 l)) ⟨by simp [S4,hl],Af0 _,by simp [L8,Bb5,byI,S4,hl,hp]⟩ fun h=>?_
 (refine Ja ?_;unhygienic intros)
 refine Yc (Ga2 (Bb5 l)) ?_
 rintro v h (⟨hk,a1,rfl,o⟩|⟨hk,rfl,o⟩)
 ·refine (?_:Tr _ _ _ _) o
  refine Je ?_
  (refine Jb ?_;unhygienic intros)
  refine Yb (Yt rfl ?_)
  refine Tr.pcall (key a1) ?_;refine Je ?_;(refine Jb ?_;unhygienic intros)
  refine Ys fun o=>(?_:Tr _ _ _ _) o;refine Je ?_
  (refine Ja ?_;unhygienic intros)
  refine Ys fun o=>?_
  exact ⟨by unfold isP;rw [hk,Bool.true_and],o.sub⟩
 ·refine (?_:Tr _ _ _ _) o
  refine Je ?_
  (refine Ja ?_;unhygienic intros)
  refine Ys fun o=>?_
  exact ⟨by unfold isP;rw [hk];rfl,o.sub⟩
theorem G57 (k:Nat) (a:Option Addr) (c:Nat) (l:List UInt8) (hl:l.length=40):Ct B0 U1 [P0 k,.slice a 40 c] [E38 k,slC false A6 1 a 40 c (A0 l)] fun v own=>v=.tuple ⟨[.agg ⟨L8 (if isP l then Bb5 l else .zero)⟩,.bool (isP l)]⟩∧own [E38 k,slC false A6 1 a 40 c (A0 l)]:=by
 have hd:=(Bb5 l).len
 have hp:Dq8 (l.drop 8)=l.drop 8:=D36 (by simp [hl])
 refine Ct.of B17 rfl fun h r=>Tr.eq (B18 ..) ?_;refine Je ?_
 (refine Ja ?_;unhygienic intros)
 refine Yf rfl ?_
 (refine Jb ?_;unhygienic intros)
 refine Yc (Ek4 40 a c l hl (by simp [B1])) ?_;rintro _ h ⟨a1,c1,rfl,o⟩<;>(refine Jg o ?_;unhygienic intros)
 refine Yc (H82 a1 c1 l hl) ?_;rintro _ h ⟨rfl,o⟩<;>(refine Jg o ?_;unhygienic intros)
 cases hk:isP l with
 | false =>
  (refine Ja ?_;unhygienic intros)
  refine Ys fun o=>?_
  exact ⟨rfl,o.sub⟩
 | true =>
  (refine Ja ?_;unhygienic intros)
  refine Ys fun o=>?_
  exact ⟨rfl,o.sub⟩
def U5 (l:List UInt8):PipeS × Int:=if l.all (·==0) then (.zero,0) else if isP l then (Bb5 l,1) else (.zero,2)
theorem Hk5 (a:Option Addr) (c:Nat) (l:List UInt8) (hl:l.length=40):Ct B0 Au6 [.slice a 40 c] [slC false A6 1 a 40 c (A0 l)] fun v own=>v=.tuple ⟨[.agg ⟨L8 (U5 l).1⟩,int (U5 l).2]⟩∧own [slC false A6 1 a 40 c (A0 l)]:=by
 have hd:=(Bb5 l).len
 have hp:Dq8 (l.drop 8)=l.drop 8:=D36 (by simp [hl])
 refine Ct.of Go8 rfl fun h r=>Tr.eq (Gp8 ..) ?_;refine Je ?_
 refine Yn fun b1 h=>?_
 refine Yb (Yt rfl ?_)
 refine Tr.pcall (Em8 40 a c l hl (by simp [B1])) ?_;refine Je ?_;(refine Jb ?_;unhygienic intros)
 refine Ys fun o=>(?_:Tr _ _ _ _) o;refine Je ?_
 cases hb:l.all (·==0) with
 | true =>
  (refine Ja ?_;unhygienic intros)
  refine Ys fun o=>?_
  exact ⟨by unfold U5;rw [hb];rfl,o.sub⟩
 | false =>
  (refine Jb ?_;unhygienic intros)
  refine Yc (Gl3) ?_;rintro _ h ⟨k,rfl,o⟩<;>(refine Jg o ?_;unhygienic intros)
  refine Yc (G57 k a c l hl) ?_;rintro _ h ⟨rfl,o⟩<;>(refine Jg o ?_;unhygienic intros)
  cases hk:isP l with
  | false =>
   (refine Ja ?_;unhygienic intros)
   refine Ys fun o=>?_
   exact ⟨by unfold U5;rw [hb,hk];rfl,o.sub⟩
  | true =>
   (refine Ja ?_;unhygienic intros)
   refine Ys fun o=>?_
   exact ⟨by unfold U5;rw [hb,hk];rfl,o.sub⟩
structure ProcS where
 state:Int
 parent:Int
 group:Int
 code:Int
 pending:Int
 mask:Int
 ignored:Int
 caught:Int
 fds:List Int
 len:fds.length=8
abbrev Gr7:List Int:=[0,0,0,0,0,0,0,0]
abbrev ProcS.zero:ProcS:=⟨0,0,0,0,0,0,0,0,Gr7,rfl⟩
abbrev D4 (p:ProcS):List Value:=int p.state::int p.parent::int p.group::int p.code::int p.pending::int p.mask::int p.ignored::int p.caught::p.fds.map int
theorem Bt8 (p:ProcS):(D4 p).length=16:=by simp [D4,p.len]
theorem Hp1 (p:ProcS):(D4 p).all Value.oneCell=true:=by simp [D4,Value.oneCell]
instance {p:ProcS}:LenC (D4 p) 16:=⟨Bt8 p⟩
instance {p:ProcS}:PartC (D4 p) 0 16 (D4 p):=⟨Da2 (Bt8 p)⟩
instance {p:ProcS}:PartC (D4 p) 8 8 (p.fds.map int):=⟨by
 have h:Nat.ble (8+8) (D4 p).length=true:=by rw [Bt8];rfl
 have e:((D4 p).drop 8).take 8=p.fds.map int:=by rw [show (D4 p).drop 8=p.fds.map int from rfl,List.take_of_length_le (by simp [p.len])]
 rw [Dg6,h,e];rfl⟩
instance {p:ProcS} {cs:List Value} [k:LenC cs 16]:SetsC cs 0 (D4 p) (D4 p):=⟨Bu6 k.ok (Bt8 p) (Hp1 p)⟩
instance {p:ProcS}:SameC (.agg ⟨D4 p⟩):=⟨Dr4 (by simp [D4])⟩
def D83 (n w:Int):Bool:=Em2 .i64 n 65534==0 && O5 .i64 n w==0
def okS (p:ProcS):Bool :=
 !(decide (p.state<1) || decide (p.state>3) || decide (p.parent<0) || decide (p.parent>8) || decide (p.group<0) || decide (p.group≥8) || decide (p.code<0) || decide (p.code>255)) &&
 (!(!D83 p.pending 0 || !D83 p.mask 16896 || !D83 p.ignored 16896 || !D83 p.caught 16896 || O5 .i64 p.ignored p.caught != 0) &&
 (!(p.fds.any fun f=>decide (f<0) || decide (f>12)) &&
 (if p.state=2 then p.pending==0 && decide (p.fds=Gr7) else p.code==0)))
def hi2 (n:Int):UInt8:=if 0≤n∧n≤65535 then b8 (n / 256) else 0
def lo2 (n:Int):UInt8:=if 0≤n∧n≤65535 then b8 n else 0
abbrev put2 (n:Int):List UInt8:=[hi2 n,lo2 n]
def D35 (p:ProcS):List UInt8:=[b8 p.state,b8 p.parent,b8 p.group,b8 p.code]++(put2 p.pending++(put2 p.mask++(put2 p.ignored++(put2 p.caught++(p.fds.map b8++[167])))))
theorem Hy6 (n:Int):(put2 n).length=2:=rfl
theorem Hv2 (p:ProcS):(D35 p).length=21:=by simp [D35,Hy6,p.len]
def Au0 (p:ProcS):List UInt8:=D35 p++[Bs8 (D35 p),0,0]
theorem D96 (p:ProcS):(Au0 p).length=24:=by simp [Au0,Hv2]
theorem H95 (n w:Int):CtP B0 Aj4 [int n,int w] [] (.bool (D83 n w)):=by
 refine CtP.of Gu2 rfl fun h r=>Tr.eq (G50 ..) ?_;refine Je ?_
 exact Jz
instance {n w:Int} {l:List HP}:PCi B0 Aj4 [.int .i64 n,.int .i64 w] l (.bool (D83 n w)):=PCi.of (H95 n w)
theorem H81 (f:Int):CtP B0 Bg9 [int f] [] (.bool (decide (f<0) || decide (f>12))):=by
 refine CtP.of G20 rfl fun h r=>Tr.eq (G45 ..) ?_;refine Je ?_
 exact Jz
theorem E43 (p:HP) (a:Option Addr) (ro:Bool) (c:Nat) (l:List Int) (g:FuncId) (f:Int→Bool) {e:TypeId} [ks:IsSl p a ro e 1 l.length c (l.map int)] (hl:l.length≤B1) (hf:∀ x,CtP B0 g [int x] [] (.bool (f x))):∀ (m i:Nat),l.length-i=m→i≤l.length →
  S7 G6 D5 L7 [(0,.slice a l.length c),(1,.func (.func g) ⟨[]⟩ ⟨[]⟩),(7,int l.length),(8,int i)] [p] (int (Bp3 f i (l.drop i))):=by
 intro m
 induction m with
 | zero =>
  intro i hm hi
  refine S7.of J6 fun h r=>Tr.eq (P9 ..) ?_;refine Je ?_
  refine Yf (by simp;omega) ?_
  refine Ys fun o=>?_
  rw [List.drop_eq_nil_of_le (by omega)];exact ⟨rfl,rfl⟩
 | succ m ih =>
  intro i hm hi
  have hlt:i<l.length:=by omega
  have hp:l[i]?=some l[i]:=List.getElem?_eq_getElem hlt
  have hd:l.drop i=l[i]::l.drop (i+1):=List.drop_eq_getElem_cons hlt
  generalize l[i]=x at hp hd
  have e1:IntKind.wrap .i64 ((i:Int)+1)=((i+1:Nat):Int):=by rw [A9];simp only [B1] at hl;omega
  refine S7.of J6 fun h r=>Tr.eq (P9 ..) ?_;refine Je ?_
  refine Yt (by simp;omega) ?_
  (refine Ja ?_;unhygienic intros;repeat(refine Gw ?_;rintro px rfl;refine Ja ?_;unhygienic intros))
  refine Tr.xIntS (v:=x) (by simp [hp]) ?_
  (refine Ja ?_;unhygienic intros)
  refine Tr.pcall (hf x) ?_
  cases hx:f x with
  | true =>
   (refine Ja ?_;unhygienic intros)
   refine Ys fun o=>?_
   rw [hd,Bp3,if_pos hx];exact ⟨by first|rfl|trivial,by first|rfl|trivial⟩
  | false =>
   (refine Ja ?_;unhygienic intros)
   rw [e1]
   refine Y0 (ih (i+1) (by omega) (by omega)) (r:=r) (by simp) fun o=>?_
   rw [hd,Bp3,if_neg (by simp [hx])];exact ⟨by first|rfl|trivial,by first|rfl|trivial⟩
theorem E12 (p:HP) (a:Option Addr) (ro:Bool) (c:Nat) (l:List Int) (g:FuncId) (f:Int→Bool) {e:TypeId} [ks:IsSl p a ro e 1 l.length c (l.map int)] (hl:l.length≤B1) (hf:∀ x,CtP B0 g [int x] [] (.bool (f x))) :
  CtP B0 E2 [.slice a l.length c,.func (.func g) ⟨[]⟩ ⟨[]⟩] [p] (.bool (l.any f)):=by
 have j:CtP B0 D5 [.slice a l.length c,.func (.func g) ⟨[]⟩ ⟨[]⟩] [p] (int (Bp3 f 0 l)):=by
  refine CtP.of J6 rfl fun h r=>Tr.eq (A47 ..) ?_;refine Je ?_
  exact Y0 (E43 p a ro c l g f hl hf _ 0 rfl (by omega)) (r:=r) (by simp) fun o=>⟨rfl,rfl⟩
 refine CtP.of At5 rfl fun h r=>Tr.eq (At3 ..) ?_;refine Je ?_
 refine Bu2 j (r:=r) (by simp) ?_
 (refine Ja ?_;unhygienic intros)
 refine Ys fun o=>?_
 rw [El3];exact ⟨by first|rfl|trivial,by first|rfl|trivial⟩
theorem Gw4:∀ (l m:List Int),l.length=m.length→eqs (l.map int) (m.map int)=some (decide (l=m))
 | [],[],_=>rfl
 | [],_::_,h=>by simp at h
 | _::_,[],h=>by simp at h
 | a::l,b::m,h=>by
  have ih:=Gw4 l m (by simpa using h)
  simp only [List.map_cons,eqs,eq1,decide_true,ih]
  by_cases h1:a=b<;>by_cases h2:l=m<;>simp [h1,h2]
theorem E29:∀ (l:List Int),G3 (List.replicate l.length (TypeDesc.int .i64)) (l.map int)=true
 | []=>rfl
 | a::l=>by
  have:=E29 l
  simp only [List.length_cons,List.replicate_succ,List.map_cons,G3,decide_true,this,Bool.and_self]
theorem eq8 {α:Type} (l m:List Int) (hl:l.length=8) (hm:m.length=8) (k:Bool→Option α):Bj6 PR Ge6 (l.map int) (m.map int) k=k (decide (l=m)):=by
 have e:Ai7 PR 8 Ge6=some (List.replicate 8 (TypeDesc.int .i64)):=by kernel_rfl
 have f1:=E29 l;have f2:=E29 m
 rw [hl] at f1;rw [hm] at f2
 rw [Bj6,e]
 simp only [f1,f2,Gw4 l m (by omega),Bool.and_self,ckB,cond_true,eqK]
theorem Ic0 (p:ProcS):Ct B0 Di0 [.agg ⟨D4 p⟩] [] fun v own=>v=.bool (okS p)∧own []:=by
 have h8:=p.len
 refine Ct.of Hl3 rfl fun h r=>Tr.eq (Hl8 ..) ?_;refine Je ?_
 (refine Ja ?_;unhygienic intros)
 refine Tr.cond (fun h1=>?_) fun h1=>?_
 ·refine Ys fun o=>?_
  refine ⟨?_,o.sub⟩
  unfold okS;rw [h1];rfl
 (refine Ja ?_;unhygienic intros)
 refine Tr.cond (fun h2=>?_) fun h2=>?_
 ·refine Ys fun o=>?_
  refine ⟨?_,o.sub⟩
  unfold okS;rw [h1,h2];rfl
 (refine Ja ?_;unhygienic intros)
 refine Gg5 0 rfl [int p.state,int p.parent,int p.group,int p.code,int p.pending,int p.mask,int p.ignored,int p.caught] (p.fds.map int) [] (by simp [D4]) 1 8 8 8 ⟨by simp [h8],by omega,by simp,by simp [D4],by omega,by omega⟩ ?_
 refine Je ?_
 have J:=E12 (e:=D1) (slX false D1 1 (some ⟨b,8,none⟩) p.fds.length 8 ([int p.state,int p.parent,int p.group,int p.code,int p.pending,int p.mask,int p.ignored,int p.caught],[]) (p.fds.map int)) (some ⟨b,8,none⟩) false 8 p.fds Bg9 (fun f=>decide (f<0) || decide (f>12)) (by rw [h8];simp [B1]) H81
 rw [h8] at J
 refine Tr.pcall (J) ?_;refine Je ?_;(refine Ja ?_;unhygienic intros)
 refine En4 0 rfl (D4 p) (by simp [D4]) ?_
 refine Je ?_
 cases h3:p.fds.any fun f=>decide (f<0) || decide (f>12) with
 | true =>
  (refine Ja ?_;unhygienic intros)
  refine Ys fun o=>?_
  refine ⟨?_,o.sub⟩
  unfold okS;rw [h1,h2,h3];rfl
 | false =>
  (refine Ja ?_;unhygienic intros)
  have e:okS p=if p.state=2 then p.pending==0 && decide (p.fds=Gr7) else p.code==0:=by unfold okS;rw [h1,h2,h3];rfl
  rw [e]
  by_cases h4:p.state=2
  ·refine Yt (by simpa using h4) ?_
   rw [if_pos h4]
   (repeat' first|refine Gu ?_|(with_reducible first|refine Gn fun b h=>?_|apply Gx|apply Gy|rintro px rfl|apply Gw|refine fun(h:H)=>?_|intro hb)|refine Gs ?_|refine Gt ?_|exact Gz rfl|fail)
   rw [show ([int 0,int 0,int 0,int 0,int 0,int 0,int 0,int 0]:List Value)=Gr7.map int from rfl,eq8 _ _ h8 rfl]
   (repeat' first|refine Gu ?_|(with_reducible first|refine Gn fun b h=>?_|apply Gx|apply Gy|rintro px rfl|apply Gw|refine fun(h:H)=>?_|intro hb)|refine Gs ?_|refine Gt ?_|exact Gz rfl|fail)
   refine Ys fun o=>?_
   exact ⟨rfl,o.sub⟩
  ·refine Yf (by simpa using h4) ?_
   rw [if_neg h4]
   (refine Ja ?_;unhygienic intros)
   refine Ys fun o=>?_
   exact ⟨rfl,o.sub⟩
theorem H88 (a:Option Addr) (c:Nat) (cs:List Value) (j:Nat) (n:Int) (hj:j+2≤cs.length) (hm:cs.length≤B1):Ct B0 Bf0 [.slice a cs.length c,int j,int n] [slC false A6 1 a cs.length c cs] fun v own =>
  (∃ ok,v=.bool ok)∧own [slC false A6 1 a cs.length c (if 0≤n∧n≤65535 then (cs.set j (.int .u8 ((b8 (n / 256)).toNat:Int))).set (j+1) (.int .u8 ((b8 n).toNat:Int)) else cs)]:=by
 simp only [B1] at hm
 have e1:IntKind.wrap .i64 ((cs.length:Int)-2)=(cs.length:Int)-2:=by rw [A9];omega
 have e2:IntKind.wrap .i64 ((j:Int)+1)=((j+1:Nat):Int):=by rw [A9];omega
 refine Ct.of G01 rfl fun h r=>Tr.eq (G14 ..) ?_;refine Je ?_
 rw [e1,e2]
 (refine Ja ?_;unhygienic intros)
 by_cases h:0≤n∧n≤65535
 ·refine Yf (by simp;omega) ?_
  rw [if_pos h]
  (refine Ja ?_;unhygienic intros;repeat(refine Gw ?_;rintro px rfl;refine Ja ?_;unhygienic intros))
  rw [Int.toNat_natCast,show Int.fdiv n (2 ^ 8)=n / 256 by rw [Int.fdiv_eq_ediv_of_nonneg _ (by omega)];rfl,Bg1,Bg1]
  refine Je ?_
  refine Tr.xVS (cs':=cs.set j (.int .u8 ((b8 (n / 256)).toNat:Int))) ⟨by omega,rfl,rfl⟩ fun h=>?_
  (refine Ja ?_;unhygienic intros)
  rw [Int.toNat_natCast]
  refine Je ?_
  refine Tr.xVS (cs':=(cs.set j (.int .u8 ((b8 (n / 256)).toNat:Int))).set (j+1) (.int .u8 ((b8 n).toNat:Int))) ⟨by simp;omega,rfl,rfl⟩ fun h=>?_
  refine Ys fun o=>?_
  exact ⟨⟨_,rfl⟩,o.sub⟩
 ·refine Yt (by simp;omega) ?_
  rw [if_neg h]
  refine Ys fun o=>?_
  exact ⟨⟨_,rfl⟩,o.sub⟩
theorem Dz3 (l:List UInt8) (j:Nat) (x:UInt8):(A0 l).set j (.int .u8 (x.toNat:Int))=A0 (l.set j x):=by simp [A0,List.map_set]
theorem D72 (a:Option Addr) (c m:Nat) (l:List UInt8) (j:Nat) (n:Int) (hm:l.length=m) (hj:j+2≤m) (h1:l[j]?=some 0) (h2:l[j+1]?=some 0) (hl:m≤B1):Ct B0 Bf0 [.slice a m c,int j,int n] [slC false A6 1 a m c (A0 l)] fun v own =>
  (∃ ok,v=.bool ok)∧own [slC false A6 1 a m c (A0 ((l.set j (hi2 n)).set (j+1) (lo2 n)))]:=by
 subst hm
 have J:=H88 a c (A0 l) j n (by rw [S4];omega) (by rw [S4];omega)
 rw [S4] at J
 have e:(if 0≤n∧n≤65535 then ((A0 l).set j (.int .u8 ((b8 (n / 256)).toNat:Int))).set (j+1) (.int .u8 ((b8 n).toNat:Int)) else A0 l)=A0 ((l.set j (hi2 n)).set (j+1) (lo2 n)):=by
  unfold hi2 lo2
  split
  ·rw [Dz3,Dz3]
  ·rw [Eo1 h1,Eo1 h2]
 rw [e] at J
 exact J
def two (l:List UInt8) (j:Nat):Int:=byI l j*256+byI l (j+1)
theorem Ic1 (x y:UInt8):Hg7 .i64 (IntKind.wrap .i64 (IntKind.wrap .i64 (x.toNat:Int)*2 ^ 8)) (IntKind.wrap .i64 (y.toNat:Int))=(x.toNat:Int)*256+y.toNat:=by
 have hx:=x.toNat_lt;have hy:=y.toNat_lt
 have e1:IntKind.wrap .i64 (IntKind.wrap .i64 (x.toNat:Int)*2 ^ 8)=((x.toNat*256:Nat):Int):=by rw [Al5,A9];omega
 rw [e1,Al5]
 unfold Hg7
 have e0:IntKind.bits .i64=64:=rfl
 rw [e0,BitVec.ofInt_natCast,BitVec.ofInt_natCast,BitVec.toNat_or,BitVec.toNat_ofNat,BitVec.toNat_ofNat,Nat.mod_eq_of_lt (by omega),Nat.mod_eq_of_lt (by omega)]
 have e2:x.toNat*256 ||| y.toNat=x.toNat*256+y.toNat:=by
  have:=Nat.two_pow_add_eq_or_of_lt (i:=8) (b:=y.toNat) (by omega) x.toNat
  rw [show 2 ^ 8*x.toNat=x.toNat*256 by omega] at this
  exact this.symm
 rw [e2,A9];omega
theorem Er3 (a:Option Addr) (c n:Nat) (l:List UInt8) (j:Nat) (hn:l.length=n) (hj:j+2≤n) (hm:n≤B1):CtP B0 Bz8 [.slice a n c,int j] [slC false A6 1 a n c (A0 l)] (.tuple ⟨[int (two l j),.bool true]⟩):=by
 simp only [B1] at hm
 have e1:IntKind.wrap .i64 ((n:Int)-2)=(n:Int)-2:=by rw [A9];omega
 have e2:IntKind.wrap .i64 ((j:Int)+1)=((j+1:Nat):Int):=by rw [A9];omega
 refine CtP.of Gy6 rfl fun h r=>Tr.eq (G32 ..) ?_;refine Je ?_
 rw [e1,e2]
 (refine Ja ?_;unhygienic intros)
 refine Yf (by simp;omega) ?_
 (refine Ja ?_;unhygienic intros;repeat(refine Gw ?_;rintro px rfl;refine Ja ?_;unhygienic intros))
 rw [Int.toNat_natCast]
 refine Je ?_
 refine Tr.xIntS (v:=byI l j) (Ac0 (by omega)) ?_
 (refine Ja ?_;unhygienic intros)
 rw [Int.toNat_natCast]
 refine Je ?_
 refine Tr.xIntS (v:=byI l (j+1)) (Ac0 (by omega)) ?_
 refine Ys fun o=>?_
 rw [Ic1];exact ⟨rfl,rfl⟩
theorem H99 (a:Option Addr) (c:Nat) (p:ProcS):Ct B0 N5 [.agg ⟨D4 p⟩,.slice a 24 c] [slC false A6 1 a 24 c (A0 (List.replicate 24 0))] fun v own=>v=.bool (okS p)∧own [slC false A6 1 a 24 c (A0 (if okS p then Au0 p else List.replicate 24 0))]:=by
 refine Ct.of H0 rfl fun h r=>Tr.eq (G62 ..) ?_;refine Je ?_
 refine Yn fun b1 h=>?_
 (refine Ja ?_;unhygienic intros)
 refine Yc (Ic0 p) ?_;rintro _ h ⟨rfl,o⟩<;>(refine Jf o ?_;unhygienic intros)
 cases hk:okS p with
 | false =>
  (refine Ja ?_;unhygienic intros)
  refine Ys fun o=>?_
  rw [if_neg (by simp)]
  exact ⟨rfl,o.sub⟩
 | true =>
  simp only [if_true]
  obtain ⟨st,pa,gr,co,pe,ma,ig,ca,fds,len⟩:=p
  match fds,len with
  | [f0,f1,f2,f3,f4,f5,f6,f7],len =>
  (refine Ja ?_;unhygienic intros)
  rename_i b2 h2
  refine Aa7 2 rfl fun hl hc _=>?_
  simp only [List.map]
  refine Tr.jmp H0 (Tr.eq (A40 ..) ?_);(try simp only[Nr,Nl,wl,Nat.reduceAdd,Nat.reduceMul,Int.reduceToNat])
  (refine Jd ?_;unhygienic intros;repeat(refine Gw ?_;rintro px rfl;refine Jd ?_;unhygienic intros))
  refine Tr.jmp H0 (Tr.eq (A40 ..) ?_);(try simp only[Nr,Nl,wl,Nat.reduceAdd,Nat.reduceMul,Int.reduceToNat])
  (refine Jd ?_;unhygienic intros)
  refine Tr.jmp H0 (Tr.eq (A40 ..) ?_);(try simp only[Nr,Nl,wl,Nat.reduceAdd,Nat.reduceMul,Int.reduceToNat])
  (refine Jd ?_;unhygienic intros)
  refine Tr.jmp H0 (Tr.eq (A40 ..) ?_);(try simp only[Nr,Nl,wl,Nat.reduceAdd,Nat.reduceMul,Int.reduceToNat])
  (refine Jd ?_;unhygienic intros)
  refine Tr.jmp H0 (Tr.eq (A40 ..) ?_);(try simp only[Nr,Nl,wl,Nat.reduceAdd,Nat.reduceMul,Int.reduceToNat])
  (refine Jd ?_;unhygienic intros)
  simp only [Bg1,Dz3,List.replicate,List.set_cons_zero,List.set_cons_succ,Nat.mul_one]
  refine Tr.jmp H0 (Tr.eq (A34 ..) ?_);(try simp only[Nr,Nl,wl,Nat.reduceAdd,Nat.reduceMul,Int.reduceToNat])
  (refine Jd ?_;unhygienic intros)
  refine Yc (D72 (some px) c 24 [b8 st,b8 pa,b8 gr,b8 co,0,0,0,0,0,0,0,0,0,0,0,0,0,0,0,0,0,0,0,0] 4 pe rfl (by omega) rfl rfl (by simp [B1])) ?_;rintro _ h ⟨⟨_,rfl⟩,o⟩<;>(refine Jf o ?_;unhygienic intros)
  refine Tr.jmp H0 (Tr.eq (A34 ..) ?_);(try simp only[Nr,Nl,wl,Nat.reduceAdd,Nat.reduceMul,Int.reduceToNat])
  (refine Jd ?_;unhygienic intros)
  refine Yc (D72 (some px) c 24 [b8 st,b8 pa,b8 gr,b8 co,hi2 pe,lo2 pe,0,0,0,0,0,0,0,0,0,0,0,0,0,0,0,0,0,0] 6 ma rfl (by omega) rfl rfl (by simp [B1])) ?_;rintro _ h ⟨⟨_,rfl⟩,o⟩<;>(refine Jf o ?_;unhygienic intros)
  refine Tr.jmp H0 (Tr.eq (A34 ..) ?_);(try simp only[Nr,Nl,wl,Nat.reduceAdd,Nat.reduceMul,Int.reduceToNat])
  (refine Jd ?_;unhygienic intros)
  refine Yc (D72 (some px) c 24 [b8 st,b8 pa,b8 gr,b8 co,hi2 pe,lo2 pe,hi2 ma,lo2 ma,0,0,0,0,0,0,0,0,0,0,0,0,0,0,0,0] 8 ig rfl (by omega) rfl rfl (by simp [B1])) ?_;rintro _ h ⟨⟨_,rfl⟩,o⟩<;>(refine Jf o ?_;unhygienic intros)
  refine Tr.jmp H0 (Tr.eq (A34 ..) ?_);(try simp only[Nr,Nl,wl,Nat.reduceAdd,Nat.reduceMul,Int.reduceToNat])
  (refine Jd ?_;unhygienic intros)
  refine Yc (D72 (some px) c 24 [b8 st,b8 pa,b8 gr,b8 co,hi2 pe,lo2 pe,hi2 ma,lo2 ma,hi2 ig,lo2 ig,0,0,0,0,0,0,0,0,0,0,0,0,0,0] 10 ca rfl (by omega) rfl rfl (by simp [B1])) ?_;rintro _ h ⟨⟨_,rfl⟩,o⟩<;>(refine Jf o ?_;unhygienic intros)
  refine Tr.jmp H0 (Tr.eq (A34 ..) ?_);(try simp only[Nr,Nl,wl,Nat.reduceAdd,Nat.reduceMul,Int.reduceToNat])
  (refine Jd ?_;unhygienic intros)
  refine Tr.jmp H0 (Tr.eq (V9 ..) ?_);(try simp only[Nr,Nl,wl,Nat.reduceAdd,Nat.reduceMul,Int.reduceToNat])
  (refine Jd ?_;unhygienic intros)
  refine Tr.jmp H0 (Tr.eq (V9 ..) ?_);(try simp only[Nr,Nl,wl,Nat.reduceAdd,Nat.reduceMul,Int.reduceToNat])
  (refine Jd ?_;unhygienic intros)
  refine Tr.jmp H0 (Tr.eq (V9 ..) ?_);(try simp only[Nr,Nl,wl,Nat.reduceAdd,Nat.reduceMul,Int.reduceToNat])
  (refine Jd ?_;unhygienic intros)
  refine Tr.jmp H0 (Tr.eq (V9 ..) ?_);(try simp only[Nr,Nl,wl,Nat.reduceAdd,Nat.reduceMul,Int.reduceToNat])
  (refine Jd ?_;unhygienic intros)
  refine Tr.jmp H0 (Tr.eq (V9 ..) ?_);(try simp only[Nr,Nl,wl,Nat.reduceAdd,Nat.reduceMul,Int.reduceToNat])
  (refine Jd ?_;unhygienic intros)
  refine Tr.jmp H0 (Tr.eq (V9 ..) ?_);(try simp only[Nr,Nl,wl,Nat.reduceAdd,Nat.reduceMul,Int.reduceToNat])
  (refine Jd ?_;unhygienic intros)
  refine Tr.jmp H0 (Tr.eq (V9 ..) ?_);(try simp only[Nr,Nl,wl,Nat.reduceAdd,Nat.reduceMul,Int.reduceToNat])
  (refine Jd ?_;unhygienic intros)
  refine Tr.jmp H0 (Tr.eq (V9 ..) ?_);(try simp only[Nr,Nl,wl,Nat.reduceAdd,Nat.reduceMul,Int.reduceToNat])
  (refine Jd ?_;unhygienic intros)
  refine Tr.jmp H0 (Tr.eq (V9 ..) ?_);(try simp only[Nr,Nl,wl,Nat.reduceAdd,Nat.reduceMul,Int.reduceToNat])
  (refine Jd ?_;unhygienic intros)
  simp only [Bg1,Dz3,List.set_cons_zero,List.set_cons_succ,Nat.mul_one]
  rw [show (.int .u8 167:Value)=.int .u8 ((167:UInt8).toNat:Int) from rfl,Dz3]
  simp only [List.set_cons_zero,List.set_cons_succ]
  refine Tr.pcall (Ga6 (slC false A6 1 (some px) 24 c (A0 [b8 st,b8 pa,b8 gr,b8 co,hi2 pe,lo2 pe,hi2 ma,lo2 ma,hi2 ig,lo2 ig,hi2 ca,lo2 ca,b8 f0,b8 f1,b8 f2,b8 f3,b8 f4,b8 f5,b8 f6,b8 f7,167,0,0,0])) (some px) false 24 c c [b8 st,b8 pa,b8 gr,b8 co,hi2 pe,lo2 pe,hi2 ma,lo2 ma,hi2 ig,lo2 ig,hi2 ca,lo2 ca,b8 f0,b8 f1,b8 f2,b8 f3,b8 f4,b8 f5,b8 f6,b8 f7,167,0,0,0] 21 (by simp) (by simp [B1])) ?_
  refine Je ?_
  (refine Ja ?_;unhygienic intros)
  rw [Dk5]
  (refine Jd ?_;unhygienic intros)
  refine Ys fun o=>?_
  rw [Dz3] at o
  simp only [List.set_cons_zero,List.set_cons_succ] at o
  simp only [Au0,D35,put2,List.map,List.cons_append,List.nil_append]
  exact ⟨trivial,o.sub⟩
abbrev E39 (k:Nat):HP:=pt k (.cells Bn8 false [int 24,.func (.func N5) ⟨[]⟩ ⟨[]⟩,.func (.func V5) ⟨[]⟩ ⟨[]⟩])
theorem Ha9 (k:Nat) (f:ProcS):Ct B0 S8 [P0 k,.agg ⟨D4 f⟩] [E39 k] fun v own=>(okS f=true∧∃ a,v=.tuple ⟨[.slice a 24 24,.bool true]⟩∧own [E39 k,slC false A6 1 a 24 24 (A0 (Au0 f))])∨(okS f=false∧v=.tuple ⟨[.slice none 0 0,.bool false]⟩∧own [E39 k]):=by
 refine Ct.of B13 rfl fun h r=>Tr.eq (B19 ..) ?_;refine Je ?_
 (refine Ja ?_;unhygienic intros)
 refine Tr.ck ⟨by omega,by omega,by simp [B1]⟩ ?_
 refine Yn fun b1 h=>?_
 rw [show G8 (Int.toNat 24) [.int .u8 0]=A0 (List.replicate 24 0) from rfl]
 refine Ai0 0 rfl 1 24 rfl (by omega) ?_
 simp only [List.set_cons_zero]
 refine Je ?_
 (refine Jb ?_;unhygienic intros)
 refine Yb (Yf rfl ?_)
 (refine Jb ?_;unhygienic intros)
 refine Yc (H99 (some ⟨b1,0,none⟩) 24 f) ?_;rintro _ h ⟨rfl,o⟩<;>(refine Jg o ?_;unhygienic intros)
 refine Ys fun o=>(?_:Tr _ _ _ _) o;refine Je ?_
 cases hk:okS f with
 | false =>
  (refine Ja ?_;unhygienic intros)
  refine Ys fun o=>?_
  exact .inr ⟨rfl,rfl,o.sub⟩
 | true =>
  (refine Ja ?_;unhygienic intros)
  refine Ys fun o=>?_
  simp only [if_true] at o
  exact .inl ⟨rfl,_,rfl,o.sub⟩
theorem H89:Ct B0 Ao4 [int 24,.func (.func N5) ⟨[]⟩ ⟨[]⟩,.func (.func V5) ⟨[]⟩ ⟨[]⟩] [] fun v own=>∃ k,v=P0 k∧own [E39 k]:=by
 refine Ct.of D78 rfl fun h r=>Tr.eq (D47 ..) ?_;refine Je ?_
 rw [show mm2 false (mm2 true 24 0) 64=24 from rfl]
 (refine Ja ?_;unhygienic intros)
 refine Ys fun o=>?_
 exact ⟨_,rfl,o.sub⟩
theorem Gm9:Ct B0 Ba2 [] [] fun v own=>∃ k,v=P0 k∧own [E39 k]:=by
 refine Ct.of Gp5 rfl fun h r=>Tr.eq (Gp9 ..) ?_;refine Je ?_
 refine Yc (H89) ?_;rintro _ h ⟨k,rfl,o⟩<;>(refine Jf o ?_;unhygienic intros)
 refine Ys fun o=>?_
 exact ⟨_,rfl,o.sub⟩
theorem Gb7 (f:ProcS):Ct B0 A16 [.agg ⟨D4 f⟩] [] fun v own=>(okS f=true∧∃ a,v=.tuple ⟨[.slice a 24 24,.bool true]⟩∧own [slC false A6 1 a 24 24 (A0 (Au0 f))])∨(okS f=false∧v=.tuple ⟨[.slice none 0 0,.bool false]⟩∧own []):=by
 refine Ct.of Gf0 rfl fun h r=>Tr.eq (Gi8 ..) ?_;refine Je ?_
 (refine Ja ?_;unhygienic intros)
 refine Yc (Gm9) ?_;rintro _ h ⟨k,rfl,o⟩<;>(refine Jg o ?_;unhygienic intros)
 refine Yc (Ha9 k f) ?_
 rintro v h (⟨hk,a,rfl,o⟩|⟨hk,rfl,o⟩)
 ·refine (?_:Tr _ _ _ _) o
  refine Je ?_
  (refine Ja ?_;unhygienic intros)
  refine Ys fun o=>?_
  exact .inl ⟨hk,a,rfl,o.sub⟩
 ·refine (?_:Tr _ _ _ _) o
  refine Je ?_
  (refine Ja ?_;unhygienic intros)
  refine Ys fun o=>?_
  exact .inr ⟨hk,rfl,o.sub⟩
def Bb6 (l:List UInt8):ProcS:=⟨byI l 0,byI l 1,byI l 2,byI l 3,two l 4,two l 6,two l 8,two l 10,[byI l 12,byI l 13,byI l 14,byI l 15,byI l 16,byI l 17,byI l 18,byI l 19],rfl⟩
def isS (l:List UInt8):Bool:=okS (Bb6 l) && decide (Au0 (Bb6 l)=l)
theorem Ia5 (a:Option Addr) (c:Nat) (l:List UInt8) (hl:l.length=24):Ct B0 V5 [.slice a 24 c] [slC false A6 1 a 24 c (A0 l)] fun v own=>v=.tuple ⟨[.agg ⟨D4 (Bb6 l)⟩,.bool (isS l)]⟩∧own [slC false A6 1 a 24 c (A0 l)]:=by
 have key:∀ a1:Option Addr,CtP B0 D0 [.slice a1 24 24,.slice a 24 c] [slC false A6 1 a1 24 24 (A0 (Au0 (Bb6 l))),slC false A6 1 a 24 c (A0 l)] (.bool (decide (Au0 (Bb6 l)=l))):=fun a1=>by
  have e:=D96 (Bb6 l)
  have J:=Ep2 (slC false A6 1 a1 (Au0 (Bb6 l)).length 24 (A0 (Au0 (Bb6 l)))) (slC false A6 1 a l.length c (A0 l)) a1 false 24 a false c (Au0 (Bb6 l)) l (by rw [e];simp [B1])
  rwa [hl,e] at J
 refine Ct.of N0 rfl fun h r=>Tr.eq (Hc5 ..) ?_;refine Je ?_
 refine Yn fun b1 h=>?_
 refine Aa7 1 rfl fun hl2 hc2 _=>?_
 (refine Ja ?_;unhygienic intros;repeat(refine Gw ?_;rintro px rfl;refine Ja ?_;unhygienic intros))
 refine Tr.xIntS (v:=byI l 0) (Ac0 (by omega)) ?_
 (refine Ja ?_;unhygienic intros)
 refine Tr.xIntS (v:=byI l 1) (Ac0 (by omega)) ?_
 (refine Ja ?_;unhygienic intros)
 refine Tr.xIntS (v:=byI l 2) (Ac0 (by omega)) ?_
 (refine Ja ?_;unhygienic intros)
 refine Tr.xIntS (v:=byI l 3) (Ac0 (by omega)) ?_
 (refine Ja ?_;unhygienic intros)
 simp only [byI,Al5]
 refine Tr.jmp N0 (Tr.eq (A45 ..) ?_);(try simp only[Nr,Nl,wl,Nat.reduceAdd,Nat.reduceMul,Int.reduceToNat])
 (refine Jd ?_;unhygienic intros)
 refine Tr.pcall (Er3 (some px) c 24 l 4 hl (by omega) (by simp [B1])) ?_;refine Je ?_;(refine Ja ?_;unhygienic intros)
 refine Tr.jmp N0 (Tr.eq (A45 ..) ?_);(try simp only[Nr,Nl,wl,Nat.reduceAdd,Nat.reduceMul,Int.reduceToNat])
 (refine Jd ?_;unhygienic intros)
 refine Tr.pcall (Er3 (some px) c 24 l 6 hl (by omega) (by simp [B1])) ?_;refine Je ?_;(refine Ja ?_;unhygienic intros)
 refine Tr.jmp N0 (Tr.eq (A45 ..) ?_);(try simp only[Nr,Nl,wl,Nat.reduceAdd,Nat.reduceMul,Int.reduceToNat])
 (refine Jd ?_;unhygienic intros)
 refine Tr.pcall (Er3 (some px) c 24 l 8 hl (by omega) (by simp [B1])) ?_;refine Je ?_;(refine Ja ?_;unhygienic intros)
 refine Tr.jmp N0 (Tr.eq (A45 ..) ?_);(try simp only[Nr,Nl,wl,Nat.reduceAdd,Nat.reduceMul,Int.reduceToNat])
 (refine Jd ?_;unhygienic intros)
 refine Tr.pcall (Er3 (some px) c 24 l 10 hl (by omega) (by simp [B1])) ?_;refine Je ?_;(refine Ja ?_;unhygienic intros)
 refine Tr.jmp N0 (Tr.eq (A45 ..) ?_);(try simp only[Nr,Nl,wl,Nat.reduceAdd,Nat.reduceMul,Int.reduceToNat])
 (refine Jd ?_;unhygienic intros)
 refine Tr.jmp N0 (Tr.eq (W4 ..) ?_);(try simp only[Nr,Nl,wl,Nat.reduceAdd,Nat.reduceMul,Int.reduceToNat])
 (refine Jd ?_;unhygienic intros)
 refine Tr.xIntS (v:=byI l 12) (Ac0 (by omega)) ?_
 (refine Jd ?_;unhygienic intros)
 simp only [byI,Al5]
 refine Tr.jmp N0 (Tr.eq (W4 ..) ?_);(try simp only[Nr,Nl,wl,Nat.reduceAdd,Nat.reduceMul,Int.reduceToNat])
 (refine Jd ?_;unhygienic intros)
 refine Tr.xIntS (v:=byI l 13) (Ac0 (by omega)) ?_
 (refine Jd ?_;unhygienic intros)
 simp only [byI,Al5]
 refine Tr.jmp N0 (Tr.eq (W4 ..) ?_);(try simp only[Nr,Nl,wl,Nat.reduceAdd,Nat.reduceMul,Int.reduceToNat])
 (refine Jd ?_;unhygienic intros)
 refine Tr.xIntS (v:=byI l 14) (Ac0 (by omega)) ?_
 (refine Jd ?_;unhygienic intros)
 simp only [byI,Al5]
 refine Tr.jmp N0 (Tr.eq (W4 ..) ?_);(try simp only[Nr,Nl,wl,Nat.reduceAdd,Nat.reduceMul,Int.reduceToNat])
 (refine Jd ?_;unhygienic intros)
 refine Tr.xIntS (v:=byI l 15) (Ac0 (by omega)) ?_
 (refine Jd ?_;unhygienic intros)
 simp only [byI,Al5]
 refine Tr.jmp N0 (Tr.eq (W4 ..) ?_);(try simp only[Nr,Nl,wl,Nat.reduceAdd,Nat.reduceMul,Int.reduceToNat])
 (refine Jd ?_;unhygienic intros)
 refine Tr.xIntS (v:=byI l 16) (Ac0 (by omega)) ?_
 (refine Jd ?_;unhygienic intros)
 simp only [byI,Al5]
 refine Tr.jmp N0 (Tr.eq (W4 ..) ?_);(try simp only[Nr,Nl,wl,Nat.reduceAdd,Nat.reduceMul,Int.reduceToNat])
 (refine Jd ?_;unhygienic intros)
 refine Tr.xIntS (v:=byI l 17) (Ac0 (by omega)) ?_
 (refine Jd ?_;unhygienic intros)
 simp only [byI,Al5]
 refine Tr.jmp N0 (Tr.eq (W4 ..) ?_);(try simp only[Nr,Nl,wl,Nat.reduceAdd,Nat.reduceMul,Int.reduceToNat])
 (refine Jd ?_;unhygienic intros)
 refine Tr.xIntS (v:=byI l 18) (Ac0 (by omega)) ?_
 (refine Jd ?_;unhygienic intros)
 simp only [byI,Al5]
 refine Tr.jmp N0 (Tr.eq (W4 ..) ?_);(try simp only[Nr,Nl,wl,Nat.reduceAdd,Nat.reduceMul,Int.reduceToNat])
 (refine Jd ?_;unhygienic intros)
 refine Tr.xIntS (v:=byI l 19) (Ac0 (by omega)) ?_
 (refine Jd ?_;unhygienic intros)
 simp only [byI,Al5]
 refine Tr.jmp N0 (Tr.eq (W4 ..) ?_);(try simp only[Nr,Nl,wl,Nat.reduceAdd,Nat.reduceMul,Int.reduceToNat])
 refine Yf rfl ?_
 refine Tr.xAgg (xs:=D4 (Bb6 l)) ⟨Nat.le_of_ble_eq_true rfl,rfl⟩ ?_
 refine Yc (Gb7 (Bb6 l)) ?_
 rintro v h (⟨hk,a1,rfl,o⟩|⟨hk,rfl,o⟩)
 ·refine (?_:Tr _ _ _ _) o
  refine Je ?_
  refine Tr.dx ?_
  refine Tr.dx ?_
  refine Tr.dx ?_
  refine Tr.xAgg (xs:=D4 (Bb6 l)) ⟨Nat.le_of_ble_eq_true rfl,rfl⟩ ?_
  refine Yb (Yt rfl ?_)
  refine Tr.pcall (key a1) ?_
  refine Tr.dx ?_
  refine Tr.xAgg (xs:=D4 (Bb6 l)) ⟨Nat.le_of_ble_eq_true rfl,rfl⟩ ?_
  (refine Ja ?_;unhygienic intros)
  refine Ys fun o=>(?_:Tr _ _ _ _) o;refine Je ?_
  (refine Ja ?_;unhygienic intros)
  refine Ys fun o=>?_
  exact ⟨by unfold isS;rw [hk,Bool.true_and],o.sub⟩
 ·refine (?_:Tr _ _ _ _) o
  refine Je ?_
  refine Tr.dx ?_
  refine Tr.dx ?_
  refine Tr.dx ?_
  refine Tr.xAgg (xs:=D4 (Bb6 l)) ⟨Nat.le_of_ble_eq_true rfl,rfl⟩ ?_
  (refine Ja ?_;unhygienic intros)
  refine Ys fun o=>?_
  exact ⟨by unfold isS;rw [hk];rfl,o.sub⟩
theorem G81 (k:Nat) (a:Option Addr) (c:Nat) (l:List UInt8) (hl:l.length=24):Ct B0 U0 [P0 k,.slice a 24 c] [E39 k,slC false A6 1 a 24 c (A0 l)] fun v own=>v=.tuple ⟨[.agg ⟨D4 (if isS l then Bb6 l else .zero)⟩,.bool (isS l)]⟩∧own [E39 k,slC false A6 1 a 24 c (A0 l)]:=by
 refine Ct.of B14 rfl fun h r=>Tr.eq (B12 ..) ?_;refine Je ?_
 (refine Ja ?_;unhygienic intros)
 refine Yf rfl ?_
 (refine Jb ?_;unhygienic intros)
 refine Yc (Ek4 24 a c l hl (by simp [B1])) ?_;rintro _ h ⟨a1,c1,rfl,o⟩<;>(refine Jg o ?_;unhygienic intros)
 refine Yc (Ia5 a1 c1 l hl) ?_;rintro _ h ⟨rfl,o⟩<;>(refine Jg o ?_;unhygienic intros)
 cases hk:isS l with
 | false =>
  (refine Ja ?_;unhygienic intros)
  refine Ys fun o=>?_
  exact ⟨rfl,o.sub⟩
 | true =>
  (refine Ja ?_;unhygienic intros)
  refine Ys fun o=>?_
  exact ⟨rfl,o.sub⟩
def Z6 (l:List UInt8):ProcS × Int:=if l.all (·==0) then (.zero,0) else if isS l then (Bb6 l,1) else (.zero,2)
theorem Hj4 (a:Option Addr) (c:Nat) (l:List UInt8) (hl:l.length=24):Ct B0 A22 [.slice a 24 c] [slC false A6 1 a 24 c (A0 l)] fun v own=>v=.tuple ⟨[.agg ⟨D4 (Z6 l).1⟩,int (Z6 l).2]⟩∧own [slC false A6 1 a 24 c (A0 l)]:=by
 refine Ct.of Ge3 rfl fun h r=>Tr.eq (Gi3 ..) ?_;refine Je ?_
 refine Yn fun b1 h=>?_
 refine Yb (Yt rfl ?_)
 refine Tr.pcall (Em8 24 a c l hl (by simp [B1])) ?_;refine Je ?_;(refine Jb ?_;unhygienic intros)
 refine Ys fun o=>(?_:Tr _ _ _ _) o;refine Je ?_
 cases hb:l.all (·==0) with
 | true =>
  (refine Ja ?_;unhygienic intros)
  refine Ys fun o=>?_
  exact ⟨by unfold Z6;rw [hb];rfl,o.sub⟩
 | false =>
  (refine Jb ?_;unhygienic intros)
  refine Yc (Gm9) ?_;rintro _ h ⟨k,rfl,o⟩<;>(refine Jg o ?_;unhygienic intros)
  refine Yc (G81 k a c l hl) ?_;rintro _ h ⟨rfl,o⟩<;>(refine Jg o ?_;unhygienic intros)
  cases hk:isS l with
  | false =>
   (refine Ja ?_;unhygienic intros)
   refine Ys fun o=>?_
   exact ⟨by unfold Z6;rw [hb,hk];rfl,o.sub⟩
  | true =>
   (refine Ja ?_;unhygienic intros)
   refine Ys fun o=>?_
   exact ⟨by unfold Z6;rw [hb,hk];rfl,o.sub⟩
def J4 (l:List UInt8) (a:Nat) (b:List UInt8):List UInt8:=l.take a++b++l.drop (a+b.length)
theorem Ad3 {l b:List UInt8} {a:Nat} (h:a+b.length≤l.length):(J4 l a b).length=l.length:=by simp [J4];omega
theorem Bj7 {l b:List UInt8} {a:Nat} (h:a+b.length≤l.length) (i:Nat):(J4 l a b)[i]?=if a≤i∧i<a+b.length then b[i-a]? else l[i]?:=by
 unfold J4
 by_cases h1:i<a
 ·rw [if_neg (by omega),List.append_assoc,List.getElem?_append_left (by simp;omega),List.getElem?_take,if_pos h1]
 ·rw [List.append_assoc,List.getElem?_append_right (by simp;omega),List.length_take,Nat.min_eq_left (by omega)]
  by_cases h2:i<a+b.length
  ·rw [if_pos ⟨by omega,h2⟩,List.getElem?_append_left (by omega)]
  ·rw [if_neg (by omega),List.getElem?_append_right (by omega),List.getElem?_drop];congr 1;omega
def slice (l:List UInt8) (a n:Nat):List UInt8:=(l.drop a).take n
theorem Bu0 (l:List UInt8) (a n i:Nat):(slice l a n)[i]?=if i<n then l[a+i]? else none:=by
 unfold slice;rw [List.getElem?_take];split
 ·rw [List.getElem?_drop]
 ·rfl
theorem Eg8 {l:List UInt8} {a n:Nat} (h:a+n≤l.length):(slice l a n).length=n:=by simp [slice];omega
abbrev Rg:=List (Nat × Nat)
def As4:List UInt8→Rg→List (List UInt8)→List UInt8
 | l,(lo,_)::rg,x::m=>As4 (J4 l lo x) rg m
 | l,_,_=>l
structure Fit (size:Nat) (rg:Rg) (m:List (List UInt8)):Prop where
 len:m.length=rg.length
 each:∀ (j lo n:Nat),rg[j]?=some (lo,n)→lo+n≤size∧∃ x,m[j]?=some x∧x.length=n
def RgOk (rg:Rg):Prop:=∀ (i j lo n lo' n':Nat),i≠j→rg[i]?=some (lo,n)→rg[j]?=some (lo',n')→lo+n≤lo'∨lo'+n'≤lo
theorem Fit.tail {size:Nat} {p:Nat × Nat} {rg:Rg} {x:List UInt8} {m:List (List UInt8)} (f:Fit size (p::rg) (x::m)):Fit size rg m:=⟨by simpa using f.len,fun j lo n h=>by simpa using f.each (j+1) lo n (by simpa using h)⟩
theorem Fit.head {size lo n:Nat} {rg:Rg} {x:List UInt8} {m:List (List UInt8)} (f:Fit size ((lo,n)::rg) (x::m)):lo+n≤size∧x.length=n:=by
 obtain ⟨h,y,hy,hl⟩:=f.each 0 lo n rfl
 simp at hy;subst hy;exact ⟨h,hl⟩
theorem RgOk.tail {p:Nat × Nat} {rg:Rg} (k:RgOk (p::rg)):RgOk rg:=fun i j lo n lo' n' hij hi hj=>k (i+1) (j+1) lo n lo' n' (by omega) (by simpa using hi) (by simpa using hj)
theorem B35:∀ {rg:Rg} {m:List (List UInt8)} {l:List UInt8},Fit l.length rg m→(As4 l rg m).length=l.length
 | [],m,l,f=>by simp [As4]
 | (lo,n)::rg,[],l,f=>by simp [As4]
 | (lo,n)::rg,x::m,l,f=>by
  have h:=f.head
  have e:=Ad3 (l:=l) (b:=x) (a:=lo) (by omega)
  unfold As4
  rw [B35 (by rw [e];exact f.tail),e]
theorem Do7:∀ {rg:Rg} {m:List (List UInt8)} {l:List UInt8},Fit l.length rg m→∀ i,(∀ (j lo n:Nat),rg[j]?=some (lo,n)→i<lo∨lo+n≤i)→(As4 l rg m)[i]?=l[i]?
 | [],m,l,f,i,h=>by simp [As4]
 | (lo,n)::rg,[],l,f,i,h=>by simp [As4]
 | (lo,n)::rg,x::m,l,f,i,h=>by
  have h0:=f.head
  have e:=Ad3 (l:=l) (b:=x) (a:=lo) (by omega)
  unfold As4
  rw [Do7 (by rw [e];exact f.tail) i (fun j lo' n' hj=>h (j+1) lo' n' (by simpa using hj)),Bj7 (by omega),if_neg]
  have:=h 0 lo n rfl;omega
theorem B45:∀ {rg:Rg} {m:List (List UInt8)} {l:List UInt8},Fit l.length rg m→RgOk rg→∀ (j lo n:Nat) (x:List UInt8),rg[j]?=some (lo,n)→m[j]?=some x→∀ i,i<n→(As4 l rg m)[lo+i]?=x[i]?
 | [],m,l,f,k,j,lo,n,x,h,hx,i,hi=>by simp at h
 | (lo0,n0)::rg,[],l,f,k,j,lo,n,x,h,hx,i,hi=>by simp at hx
 | (lo0,n0)::rg,x0::m,l,f,k,j,lo,n,x,h,hx,i,hi=>by
  have h0:=f.head
  have e:=Ad3 (l:=l) (b:=x0) (a:=lo0) (by omega)
  unfold As4
  cases j with
  | zero =>
   simp at h hx
   obtain ⟨rfl,rfl⟩:=h;subst hx
   rw [Do7 (by rw [e];exact f.tail) (lo0+i) (fun j lo' n' hj=>by
    have:=k 0 (j+1) lo0 n0 lo' n' (by omega) rfl (by simpa using hj)
    omega),Bj7 (by omega),if_pos (by omega)]
   congr 1;omega
  | succ j=>exact B45 (by rw [e];exact f.tail) k.tail j lo n x (by simpa using h) (by simpa using hx) i hi
theorem E69 {rg:Rg} {m:List (List UInt8)} {l:List UInt8} (f:Fit l.length rg m) (k:RgOk rg) {j lo n:Nat} {x:List UInt8} (h:rg[j]?=some (lo,n)) (hx:m[j]?=some x) {a c:Nat} (hc:a+c≤n):slice (As4 l rg m) (lo+a) c=slice x a c:=by
 refine List.ext_getElem? fun i=>?_
 rw [Bu0,Bu0]
 split
 ·rw [Nat.add_assoc,B45 f k j lo n x h hx (a+i) (by omega)]
 ·rfl
theorem Fit.set {size:Nat} {rg:Rg} {m:List (List UInt8)} (f:Fit size rg m) {j lo n:Nat} (h:rg[j]?=some (lo,n)) {y:List UInt8} (hy:y.length=n):Fit size rg (m.set j y):=⟨by simpa using f.len,fun i lo' n' hi=>by
 obtain ⟨h1,z,hz,hl⟩:=f.each i lo' n' hi
 refine ⟨h1,?_⟩
 by_cases hij:j=i
 ·subst hij
  rw [h] at hi;cases hi
  exact ⟨y,by simp [(List.getElem?_eq_some_iff.1 hz).1],hy⟩
 ·exact ⟨z,by rw [List.getElem?_set_ne hij];exact hz,hl⟩⟩
theorem G88 {rg:Rg} {m:List (List UInt8)} {l:List UInt8} (f:Fit l.length rg m) (k:RgOk rg) {j lo n:Nat} {x:List UInt8} (h:rg[j]?=some (lo,n)) (hx:m[j]?=some x) {a:Nat} {b:List UInt8} (hc:a+b.length≤n):J4 (As4 l rg m) (lo+a) b=As4 l rg (m.set j (J4 x a b)):=by
 obtain ⟨h1,y,hy,hl⟩:=f.each j lo n h
 rw [hx] at hy;cases hy
 have e:=Ad3 (l:=x) (b:=b) (a:=a) (by omega)
 have f2:=f.set h (y:=J4 x a b) (by omega)
 have lp:=B35 f
 refine List.ext_getElem? fun i=>?_
 rw [Bj7 (by omega)]
 by_cases hi:lo≤i∧i<lo+n
 ·obtain ⟨i',rfl⟩:∃ i',i=lo+i':=⟨i-lo,by omega⟩
  rw [B45 f2 k j lo n (J4 x a b) h (by simp [(List.getElem?_eq_some_iff.1 hx).1]) i' (by omega),Bj7 (by omega),B45 f k j lo n x h hx i' (by omega)]
  by_cases h2:a≤i'∧i'<a+b.length
  ·rw [if_pos (by omega),if_pos h2];congr 1;omega
  ·rw [if_neg (by omega),if_neg h2]
 ·rw [if_neg (by omega)]
  by_cases ho:∃ (j' lo' n':Nat),rg[j']?=some (lo',n')∧lo'≤i∧i<lo'+n'
  ·obtain ⟨j',lo',n',hj',h3,h4⟩:=ho
   have hne:j≠j':=fun e=>by subst e;rw [h] at hj';cases hj';omega
   obtain ⟨_,z,hz,_⟩:=f.each j' lo' n' hj'
   obtain ⟨i',rfl⟩:∃ i',i=lo'+i':=⟨i-lo',by omega⟩
   rw [B45 f k j' lo' n' z hj' hz i' (by omega),B45 f2 k j' lo' n' z hj' (by rw [List.getElem?_set_ne hne];exact hz) i' (by omega)]
  ·have hall:∀ (j' lo' n':Nat),rg[j']?=some (lo',n')→i<lo'∨lo'+n'≤i:=fun j' lo' n' hj'=>by
    by_cases hh:lo'≤i∧i<lo'+n'
    ·exact absurd ⟨j',lo',n',hj',hh.1,hh.2⟩ ho
    ·omega
   rw [Do7 f i hall,Do7 f2 i hall]
structure RecS where
 kind:Int
 index:Int
deriving DecidableEq
abbrev Y1 (r:RecS):List Value:=[int r.kind,int r.index]
structure Fr where
 S:KS
 N:Nat
 env:Int
 caps:List Int
 rg:Rg
structure FrOk (F:Fr):Prop where
 ok:KOk F.N F.S
 hN:F.N+1<1000000000
 ne:0<F.caps.length
 small:F.caps.length≤40
 len:F.rg.length=F.caps.length
 env:¬ (F.env<0∨F.env≥(F.S.envs.length:Int))
 pl:∀ (j:Nat) (cap:Int) (lo n:Nat),F.caps[j]?=some cap→F.rg[j]?=some (lo,n)→∀ (a m:Nat) (right:Int),right=1∨right=2→a+m≤n→O4 F.S.tabs F.S.regs F.env cap right a m=(((lo+a:Nat):Int),0)
 dj:RgOk F.rg
 own:∃ lo,F.rg[0]?=some (lo,492)
 brs:∀ (j lo n:Nat),0<j→F.rg[j]?=some (lo,n)→n=40
def Fr.at (F:Fr) (m:List (List UInt8)):KS:=Bm9 F.S (As4 F.S.mem F.rg m)
structure CX where
 m:List (List UInt8)
 bad:List RecS
def Af4:Nat→List RecS→List MapEntry
 | _,[]=>[]
 | i,r::l=>{ key:=.agg ⟨Y1 r⟩,val:=int 1,born:=i }::Af4 (i+1) l
abbrev Ib5 (c k:Nat) (env:Int) (caps:List Int) (bad:List RecS) (x:Option Addr × Nat × Nat):List HP :=
 [pt c (.cells Dd4 false [P0 k,int env,.slice x.1 caps.length x.2.1,.map (some x.2.2)]),slC false B5 1 x.1 caps.length x.2.1 (caps.map int),pt x.2.2 (.map (Af4 0 bad) bad.length)]
def U9 (c k:Nat) (env:Int) (caps:List Int) (bad:List RecS):HP:=hex fun x=>sl (Ib5 c k env caps bad x)
instance {c k:Nat} {env:Int} {caps:List Int} {bad:List RecS}:Chk (U9 c k env caps bad) (Ib5 c k env caps bad):=⟨rfl⟩
abbrev cmF (c k:Nat) (F:Fr) (x:CX):List HP:=[D3 k (F.at x.m),U9 c k F.env F.caps x.bad,pu (Fit F.S.mem.length F.rg x.m)]
def cmC (c k:Nat) (F:Fr) (x:CX):HP:=hex fun _:Unit=>sl (cmF c k F x)
instance {c k:Nat} {F:Fr} {x:CX}:Chk (cmC c k F x) (fun _:Unit=>cmF c k F x):=⟨rfl⟩
def W0 (nc:Nat) (kind:Int):Int:=if kind=1 then 8 else if kind=2 then 12 else if kind=3 then 3+nc else 1
def G4 (nc:Nat) (r:RecS):Option (Nat × Nat × Nat) :=
 if r.index<0∨r.index≥W0 nc r.kind then none
 else if r.kind=1 then some (0,24*r.index.toNat,24)
 else if r.kind=2 then some (0,192+8*r.index.toNat,8)
 else if r.kind=3 then if r.index<4 then some (0,288+40*r.index.toNat,40) else some (r.index.toNat-3,0,40)
 else if r.kind=4 then some (0,448,40)
 else some (0,488,4)
def G31 (caps:List Int):Option (Nat × Nat × Nat)→List Value
 | some (j,a,n)=>[int (caps.getD j 0),int a,int n]
 | none=>[int 0,int 0,int 0]
theorem Gs9 (c k:Nat) (env:Int) (caps:List Int) (bad:List RecS) (kind:Int) (hs:caps.length≤40):CtP B0 Z0 [P0 c,int kind] [U9 c k env caps bad] (int (W0 caps.length kind)):=by
 have e:IntKind.wrap .i64 (IntKind.wrap .i64 (4+(caps.length:Int))-1)=3+(caps.length:Int):=by rw [A9,A9];omega
 refine CtP.of Du4 rfl fun h r=>Tr.eq (Dz0 ..) ?_;refine Je ?_
 refine B4 (U9 c k env caps bad) fun ⟨a,n,mb⟩=>?_;refine Je ?_
 unfold W0
 by_cases h1:kind=1
 ·refine Yt (by simpa using h1) ?_
  rw [if_pos h1];exact Jz
 refine Yf (by simpa using h1) ?_
 rw [if_neg h1]
 by_cases h2:kind=2
 ·refine Yt (by simpa using h2) ?_
  rw [if_pos h2];exact Jz
 refine Yf (by simpa using h2) ?_
 rw [if_neg h2]
 by_cases h3:kind=3
 ·refine Yt (by simpa using h3) ?_
  rw [if_pos h3];(refine Ja ?_;unhygienic intros)
  refine Ys fun o=>?_
  rw [e];exact ⟨by first|rfl|trivial,by first|rfl|trivial⟩
 refine Yf (by simpa using h3) ?_
 rw [if_neg h3];exact Jz
theorem Ef8 (c k:Nat) (env:Int) (caps:List Int) (bad:List RecS) (rc:RecS) (hs:caps.length≤40) (hn:0<caps.length):Ct B0 P3 [P0 c,.agg ⟨Y1 rc⟩] [U9 c k env caps bad] fun v own =>
  v=.tuple ⟨[.agg ⟨G31 caps (G4 caps.length rc)⟩,.bool (G4 caps.length rc).isSome]⟩∧own [U9 c k env caps bad]:=by
 have hg:∀ j,j<caps.length→(caps.map int)[j]?=some (int (caps.getD j 0)):=fun j hj=>by rw [List.getElem?_map,N3 0 hj];rfl
 refine Ct.of Dp4 rfl fun h r=>Tr.eq (Dq1 ..) ?_;refine Je ?_
 (refine Jb ?_;unhygienic intros)
 refine Tr.orG (c:=decide (rc.index≥W0 caps.length rc.kind)) (fun hb=>?_) ?_
 ·(refine Ja ?_;unhygienic intros)
  refine Tr.pcall (Gs9 c k env caps bad rc.kind hs) ?_;refine Je ?_;exact Jz
 by_cases hi:rc.index<0∨rc.index≥W0 caps.length rc.kind
 ·refine Yt (by simp only [Bool.or_eq_true,decide_eq_true_eq];exact hi) ?_
  have e:G4 caps.length rc=none:=by unfold G4;rw [if_pos hi]
  rw [e]
  (refine Ja ?_;unhygienic intros)
  refine Ys fun o=>?_
  exact ⟨rfl,o.sub⟩
 refine Yf (by simp only [Bool.or_eq_false_iff,decide_eq_false_iff_not];omega) ?_
 refine B4 (U9 c k env caps bad) fun ⟨a,n,mb⟩=>?_;refine Je ?_
 (refine Ja ?_;unhygienic intros;repeat(refine Gw ?_;rintro px rfl;refine Ja ?_;unhygienic intros))
 refine Tr.xIntS (v:=caps.getD 0 0) (hg 0 hn) ?_
 (refine Ja ?_;unhygienic intros)
 by_cases h1:rc.kind=1
 ·refine Yt (by simpa using h1) ?_
  have e:G4 caps.length rc=some (0,24*rc.index.toNat,24):=by unfold G4;rw [if_neg hi,if_pos h1]
  have hm:W0 caps.length rc.kind=8:=by unfold W0;rw [if_pos h1]
  have e1:IntKind.wrap .i64 (24*rc.index)=((24*rc.index.toNat:Nat):Int):=by rw [A9];omega
  rw [e,e1]
  (refine Ja ?_;unhygienic intros)
  refine B2 (U9 c k env caps bad) ⟨some px,n,mb⟩ ?_;refine Je ?_
  refine Ys fun o=>?_
  exact ⟨rfl,o.sub⟩
 refine Yf (by simpa using h1) ?_
 by_cases h2:rc.kind=2
 ·(refine Ja ?_;unhygienic intros)
  refine Yt (by simpa using h2) ?_
  have e:G4 caps.length rc=some (0,192+8*rc.index.toNat,8):=by unfold G4;rw [if_neg hi,if_neg h1,if_pos h2]
  have hm:W0 caps.length rc.kind=12:=by unfold W0;rw [if_neg h1,if_pos h2]
  have e1:IntKind.wrap .i64 (192+IntKind.wrap .i64 (8*rc.index))=((192+8*rc.index.toNat:Nat):Int):=by rw [A9,A9];omega
  rw [e,e1]
  (refine Ja ?_;unhygienic intros)
  refine B2 (U9 c k env caps bad) ⟨some px,n,mb⟩ ?_;refine Je ?_
  refine Ys fun o=>?_
  exact ⟨rfl,o.sub⟩
 (refine Ja ?_;unhygienic intros)
 refine Yf (by simpa using h2) ?_
 (refine Jb ?_;unhygienic intros)
 refine Tr.andG (c:=decide (rc.index<4)) (fun hb=>?_) ?_
 ·exact Jz
 by_cases h3:rc.kind=3
 ·have hm:W0 caps.length rc.kind=3+caps.length:=by unfold W0;rw [if_neg h1,if_neg h2,if_pos h3]
  by_cases h4:rc.index<4
  ·refine Yt (by simp [h3,h4]) ?_
   have e:G4 caps.length rc=some (0,288+40*rc.index.toNat,40):=by unfold G4;rw [if_neg hi,if_neg h1,if_neg h2,if_pos h3,if_pos h4]
   have e1:IntKind.wrap .i64 (288+IntKind.wrap .i64 (40*rc.index))=((288+40*rc.index.toNat:Nat):Int):=by rw [A9,A9];omega
   rw [e,e1]
   (refine Ja ?_;unhygienic intros)
   refine B2 (U9 c k env caps bad) ⟨some px,n,mb⟩ ?_;refine Je ?_
   refine Ys fun o=>?_
   exact ⟨rfl,o.sub⟩
  ·refine Yf (by simp [h4]) ?_
   have e:G4 caps.length rc=some (rc.index.toNat-3,0,40):=by unfold G4;rw [if_neg hi,if_neg h1,if_neg h2,if_pos h3,if_neg h4]
   have e1:IntKind.wrap .i64 (IntKind.wrap .i64 (rc.index-4)+1)=((rc.index.toNat-3:Nat):Int):=by rw [A9,A9];omega
   rw [e,e1]
   (refine Ja ?_;unhygienic intros)
   refine Yt (by simpa using h3) ?_
   (refine Ja ?_;unhygienic intros)
   rw [Int.toNat_natCast]
   refine Je ?_
   refine Tr.xIntS (v:=caps.getD (rc.index.toNat-3) 0) (hg _ (by omega)) ?_
   (refine Ja ?_;unhygienic intros)
   refine B2 (U9 c k env caps bad) ⟨some px,n,mb⟩ ?_;refine Je ?_
   refine Ys fun o=>?_
   exact ⟨rfl,o.sub⟩
 refine Yf (by simp [h3]) ?_
 (refine Ja ?_;unhygienic intros)
 refine Yf (by simpa using h3) ?_
 (refine Ja ?_;unhygienic intros)
 by_cases h4:rc.kind=4
 ·refine Yt (by simpa using h4) ?_
  have e:G4 caps.length rc=some (0,448,40):=by unfold G4;rw [if_neg hi,if_neg h1,if_neg h2,if_neg h3,if_pos h4]
  rw [e]
  (refine Ja ?_;unhygienic intros)
  refine B2 (U9 c k env caps bad) ⟨some px,n,mb⟩ ?_;refine Je ?_
  refine Ys fun o=>?_
  exact ⟨rfl,o.sub⟩
 refine Yf (by simpa using h4) ?_
 have e:G4 caps.length rc=some (0,488,4):=by unfold G4;rw [if_neg hi,if_neg h1,if_neg h2,if_neg h3,if_neg h4]
 rw [e]
 (refine Ja ?_;unhygienic intros)
 refine B2 (U9 c k env caps bad) ⟨some px,n,mb⟩ ?_;refine Je ?_
 refine Ys fun o=>?_
 exact ⟨rfl,o.sub⟩
theorem Hu0:Ai7 PR 8 D6=some [TypeDesc.int .i64,TypeDesc.int .i64]:=by kernel_rfl
theorem H83:Eb7 PR D6=some true:=by kernel_rfl
instance {a b:Int}:KeyC PR D6 (.agg ⟨[.int .i64 a,.int .i64 b]⟩):=⟨fun x=>by
 unfold NN.keyN;rw [Hu0,H83];rfl⟩
theorem Em7 (r:RecS):∀ (l:List RecS) (i j:Nat),Ag2 (.agg ⟨Y1 r⟩) (Af4 j l) i=some (if r ∈ l then some (i+l.idxOf r) else none)
 | [],i,j=>by simp [Af4,Ag2]
 | q::l,i,j=>by
  have ih:=Em7 r l (i+1) (j+1)
  obtain ⟨qk,qi⟩:=q
  obtain ⟨rk,ri⟩:=r
  simp only [Af4,Ag2,Bd2,Y1,eqs,eq1,decide_true,List.mem_cons] at ih ⊢
  by_cases h:rk=qk∧ri=qi
  ·obtain ⟨rfl,rfl⟩:=h
   simp
  ·have e:(rk==qk && (ri==qi && true))=false:=by
    rw [Bool.and_eq_false_iff]
    by_cases h1:rk=qk
    ·right;simp;intro h2;exact h ⟨h1,h2⟩
    ·left;simpa using h1
   have hne:¬ (({ kind:=rk,index:=ri }:RecS)={ kind:=qk,index:=qi }):=fun e=>by
    rw [RecS.mk.injEq] at e;exact h e
   rw [e]
   simp only [hne,false_or]
   rw [ih,List.idxOf_cons]
   have:(({ kind:=qk,index:=qi }:RecS)=={ kind:=rk,index:=ri })=false:=by
    rw [beq_eq_false_iff_ne];exact fun e=>hne e.symm
   rw [this,cond_false]
   split<;>simp;omega
theorem Dn7:∀ (l:List RecS) (j:Nat),(Af4 j l).length=l.length
 | [],_=>rfl
 | _::l,j=>by simp [Af4,Dn7 l]
theorem Gz6:∀ (l:List RecS) (j i:Nat) (r:RecS),l[i]?=some r→(Af4 j l)[i]?=some { key:=.agg ⟨Y1 r⟩,val:=int 1,born:=j+i }
 | [],_,i,r,h=>by simp at h
 | q::l,j,0,r,h=>by simp at h;subst h;rfl
 | q::l,j,i+1,r,h=>by
  have:=Gz6 l (j+1) i r (by simpa using h)
  rw [Af4,List.getElem?_cons_succ,this];congr 2;omega
theorem Bt7 (r:RecS) (l:List RecS):Ak0 (int 0) (.agg ⟨Y1 r⟩) (Af4 0 l)=some (if r ∈ l then (int 1,true) else (int 0,false)):=by
 unfold Ak0
 rw [Em7]
 by_cases h:r ∈ l
 ·rw [if_pos h,if_pos h]
  have hi:=List.idxOf_lt_length_of_mem h
  have hg:l[l.idxOf r]?=some r:=by rw [List.getElem?_eq_getElem hi,List.getElem_idxOf]
  simp only [Nat.zero_add]
  rw [Gz6 l 0 _ r hg]
 ·rw [if_neg h,if_neg h]
theorem Gt4:∀ (l m:List RecS) (j:Nat),Af4 j (l++m)=Af4 j l++Af4 (j+l.length) m
 | [],m,j=>by simp [Af4]
 | q::l,m,j=>by simp only [List.cons_append,Af4,Gt4 l m (j+1),List.length_cons];congr 2;congr 1;omega
theorem Eb5 {r:RecS} {l:List RecS} (h:¬ r ∈ l):Du6 (int 0) (.agg ⟨Y1 r⟩) (Af4 0 l) l.length=some (int 0,l.length,.map (Af4 0 l++[{ key:=.agg ⟨Y1 r⟩,val:=int 0,born:=l.length }]) (l.length+1)):=by
 unfold Du6;rw [Em7,if_neg h]
theorem Gm1 (r:RecS) (e:MapEntry):∀ (l:List RecS) (i j:Nat),¬ r ∈ l→Ag2 (.agg ⟨Y1 r⟩) (Af4 j l++[e]) i=Ag2 (.agg ⟨Y1 r⟩) [e] (i+l.length)
 | [],i,j,h=>by simp [Af4]
 | q::l,i,j,h=>by
  have ih:=Gm1 r e l (i+1) (j+1) (fun hm=>h (List.mem_cons_of_mem _ hm))
  have hq:Bd2 (.agg ⟨Y1 r⟩) (.agg ⟨Y1 q⟩)=some false:=by
   obtain ⟨qk,qi⟩:=q
   obtain ⟨rk,ri⟩:=r
   simp only [Bd2,Y1,eqs,eq1,decide_true]
   congr 1
   rw [Bool.and_eq_false_iff]
   by_cases h1:rk=qk
   ·right;simp;intro h2;exact h (by subst h1 h2;exact List.mem_cons_self ..)
   ·left;simpa using h1
  show (match Bd2 (.agg ⟨Y1 r⟩) (.agg ⟨Y1 q⟩) with
   | some true=>some (some i)
   | some false=>Ag2 (.agg ⟨Y1 r⟩) (Af4 (j+1) l++[e]) (i+1)
   | none=>none)=_
  rw [hq]
  simp only
  rw [ih];congr 1;simp;omega
theorem Dr1 {r:RecS} {l:List RecS} (h:¬ r ∈ l):Ak0 (int 0) (.agg ⟨Y1 r⟩) (Af4 0 l++[{ key:=.agg ⟨Y1 r⟩,val:=int 0,born:=l.length }])=some (int 0,true):=by
 unfold Ak0
 rw [Gm1 r _ l 0 0 h]
 obtain ⟨rk,ri⟩:=r
 simp only [Ag2,Bd2,Y1,eqs,eq1,decide_true,BEq.rfl,Bool.and_self,Nat.zero_add]
 rw [List.getElem?_append_right (by rw [Dn7];exact Nat.le_refl _),Dn7];simp
theorem B86:∀ (l:List RecS) (j:Nat) (n:Nat) (e:MapEntry) (i:Nat),e.born=n→j+l.length≤n→Bj0 (n:Int) (Af4 j l++[e]) i=some (i+l.length)
 | [],j,n,e,i,h,hl=>by simp [Af4,Bj0,h]
 | q::l,j,n,e,i,h,hl=>by
  have ih:=B86 l (j+1) n e (i+1) h (by simp at hl;omega)
  simp only [Af4,List.cons_append,Bj0]
  have:(((j:Nat):Int)==(n:Int))=false:=by simp at hl ⊢;omega
  rw [this,cond_false,ih];congr 1;simp;omega
theorem Gk1 (f:MapEntry→MapEntry) (e:MapEntry):∀ (l:List MapEntry),modN f l.length (l++[e])=l++[f e]
 | []=>rfl
 | q::l=>by simp [modN,Gk1 f e l]
theorem D49 (r:RecS) (l:List RecS):modN (fun e=>{ e with val:=int (IntKind.wrap .i64 (0+1)) }) l.length (Af4 0 l++[{ key:=.agg ⟨Y1 r⟩,val:=int 0,born:=l.length }])=Af4 0 (l++[r]):=by
 rw [show l.length=(Af4 0 l).length from (Dn7 l 0).symm,Gk1,Gt4]
 simp [Af4,Dn7];decide
theorem Fr.mem_at (F:Fr) (m:List (List UInt8)):(F.at m).mem=As4 F.S.mem F.rg m:=rfl
theorem Fr.at_ok {F:Fr} (k:FrOk F) {m:List (List UInt8)} (f:Fit F.S.mem.length F.rg m):KOk F.N (F.at m):=by
 have:=k.ok
 exact ⟨this.envs,this.tabs,this.space,this.quota,by rw [Fr.mem_at,B35 f];exact this.mem,this.regs,this.may,this.mayl,this.nsect,this.sects,this.now⟩
theorem Hy9 {F:Fr} (k:FrOk F) {r:RecS} {j a n:Nat} (h:G4 F.caps.length r=some (j,a,n)):∃ lo z,F.rg[j]?=some (lo,z)∧a+n≤z∧j<F.caps.length:=by
 obtain ⟨lo0,h0⟩:=k.own
 have hl:=k.len;have hn:=k.ne
 unfold G4 at h
 split at h;· cases h
 rename_i hi
 split at h
 ·rename_i h1
  have hm:W0 F.caps.length r.kind=8:=by unfold W0;rw [if_pos h1]
  cases h;exact ⟨lo0,492,h0,by omega,hn⟩
 rename_i h1
 split at h
 ·rename_i h2
  have hm:W0 F.caps.length r.kind=12:=by unfold W0;rw [if_neg h1,if_pos h2]
  cases h;exact ⟨lo0,492,h0,by omega,hn⟩
 rename_i h2
 split at h
 ·rename_i h3
  have hm:W0 F.caps.length r.kind=3+F.caps.length:=by unfold W0;rw [if_neg h1,if_neg h2,if_pos h3]
  split at h
  ·cases h;exact ⟨lo0,492,h0,by omega,hn⟩
  ·cases h
   have hlt:r.index.toNat-3<F.rg.length:=by omega
   have hg:=List.getElem?_eq_getElem hlt
   generalize hx:F.rg[r.index.toNat-3]=x at hg
   obtain ⟨lo,z⟩:=x
   have:=k.brs _ lo z (by omega) hg
   exact ⟨lo,z,hg,by omega,by omega⟩
 split at h<;>(cases h;exact ⟨lo0,492,h0,by omega,hn⟩)
def P8 (kind:Int):Nat:=if kind=1 then 24 else if kind=2 then 8 else if kind=3 then 40 else if kind=4 then 40 else 4
theorem Dg4 {nc:Nat} {r:RecS} {j a n:Nat} (h:G4 nc r=some (j,a,n)):n=P8 r.kind:=by
 unfold G4 at h;unfold P8
 split at h;· cases h
 split at h
 ·rename_i h1;cases h;rw [if_pos h1]
 rename_i h1
 rw [if_neg h1]
 split at h
 ·rename_i h2;cases h;rw [if_pos h2]
 rename_i h2
 rw [if_neg h2]
 split at h
 ·rename_i h3;rw [if_pos h3];split at h<;>(cases h;rfl)
 rename_i h3
 rw [if_neg h3]
 split at h
 ·rename_i h4;cases h;rw [if_pos h4]
 ·rename_i h4;cases h;rw [if_neg h4]
def rdX (X:CX) (r:RecS):Option (List UInt8) :=
 match G4 X.m.length r with
 | some (j,a,n)=>if r ∈ X.bad then none else some (slice (X.m.getD j []) a n)
 | none=>none
def wrX (X:CX) (r:RecS) (b:List UInt8) (ok:Bool):Bool × CX :=
 match G4 X.m.length r with
 | some (j,a,n)=>if ok=true∧¬ r ∈ X.bad then (true,{ X with m:=X.m.set j (J4 (X.m.getD j []) a b) }) else (false,X)
 | none=>(false,X)
theorem Fit.mlen {F:Fr} (k:FrOk F) {m:List (List UInt8)} (f:Fit F.S.mem.length F.rg m):m.length=F.caps.length:=by rw [f.len,k.len]
theorem D56 {F:Fr} (k:FrOk F) {m:List (List UInt8)} (f:Fit F.S.mem.length F.rg m) {r:RecS} {j a n:Nat} (h:G4 F.caps.length r=some (j,a,n)) :
  ∃ lo z cap,F.caps[j]?=some cap∧F.rg[j]?=some (lo,z)∧a+n≤z∧m[j]?=some (m.getD j [])∧(m.getD j []).length=z∧lo+z≤F.S.mem.length∧cap=F.caps.getD j 0:=by
 obtain ⟨lo,z,hr,ha,hj⟩:=Hy9 k h
 obtain ⟨h1,x,hx,hl⟩:=f.each j lo z hr
 have e:m.getD j []=x:=by rw [List.getD_eq_getElem?_getD,hx];rfl
 exact ⟨lo,z,F.caps.getD j 0,N3 0 hj,hr,ha,by rw [e];exact hx,by rw [e];exact hl,h1,rfl⟩
theorem Ia7 {F:Fr} (k:FrOk F) {X:CX} (f:Fit F.S.mem.length F.rg X.m) {r:RecS} {l:List UInt8} (h:rdX X r=some l):l.length=P8 r.kind:=by
 unfold rdX at h
 rw [f.mlen k] at h
 cases hp:G4 F.caps.length r with
 | none=>rw [hp] at h;cases h
 | some p =>
  obtain ⟨j,a,n⟩:=p
  rw [hp] at h
  obtain ⟨lo,z,cap,_,_,ha,hx,hl,_⟩:=D56 k f hp
  simp only at h
  split at h
  ·cases h
  ·cases h;rw [Eg8 (by omega),Dg4 hp]
theorem Ih2 {F:Fr} (k:FrOk F) {m:List (List UInt8)} (f:Fit F.S.mem.length F.rg m) {r:RecS} {j a n:Nat} (h:G4 F.caps.length r=some (j,a,n)) :
  W9 (F.at m) F.env ⟨1,F.caps.getD j 0,(a:Int),(n:Int),0,0,[]⟩=((0,0,slice (m.getD j []) a n),F.at m):=by
 obtain ⟨lo,z,cap,hc,hr,ha,hx,hl,hz,rfl⟩:=D56 k f h
 have hp:=k.pl j _ lo z hc hr a n 1 (.inl rfl) ha
 have lp:=B35 f
 have hb:B62 (As4 F.S.mem F.rg m) ((lo+a:Nat):Int) (n:Int)=some (slice (m.getD j []) a n):=by
  unfold B62
  rw [if_pos (by rw [lp];omega),Int.toNat_natCast,Int.toNat_natCast]
  rw [← E69 f k.dj hr hx ha];rfl
 have e:An9 (F.at m).tabs (F.at m).regs (F.at m).mem F.env (F.caps.getD j 0) (a:Int) (n:Int)=(slice (m.getD j []) a n,0):=by
  unfold An9
  rw [show O4 (F.at m).tabs (F.at m).regs F.env (F.caps.getD j 0) 1 (a:Int) (n:Int)=(((lo+a:Nat):Int),0) from hp]
  rw [if_neg (by simp),show B62 (F.at m).mem _ _=_ from hb]
 unfold W9
 rw [if_neg (show ¬ (F.env<0∨F.env≥((F.at m).envs.length:Int)) from k.env)]
 unfold kDo
 rw [if_pos rfl,e]
theorem Ic4 {F:Fr} (k:FrOk F) {m:List (List UInt8)} (f:Fit F.S.mem.length F.rg m) {r:RecS} {j a n:Nat} (h:G4 F.caps.length r=some (j,a,n)) {b:List UInt8} (hb:b.length=n) :
  W9 (F.at m) F.env ⟨2,F.caps.getD j 0,(a:Int),0,0,0,b⟩=((0,0,[]),F.at (m.set j (J4 (m.getD j []) a b))):=by
 obtain ⟨lo,z,cap,hc,hr,ha,hx,hl,hz,rfl⟩:=D56 k f h
 have hp:=k.pl j _ lo z hc hr a n 2 (.inr rfl) ha
 have lp:=B35 f
 have hs:Ba4 (As4 F.S.mem F.rg m) ((lo+a:Nat):Int) b=some (As4 F.S.mem F.rg (m.set j (J4 (m.getD j []) a b))):=by
  unfold Ba4
  rw [if_pos (by rw [lp];omega),Int.toNat_natCast]
  rw [← G88 f k.dj hr hx (by omega)];rfl
 have e:Ai9 (F.at m).tabs (F.at m).regs (F.at m).mem F.env (F.caps.getD j 0) (a:Int) b=(0,As4 F.S.mem F.rg (m.set j (J4 (m.getD j []) a b))):=by
  unfold Ai9
  rw [hb,show O4 (F.at m).tabs (F.at m).regs F.env (F.caps.getD j 0) 2 (a:Int) (n:Int)=(((lo+a:Nat):Int),0) from hp]
  rw [if_neg (by simp),show Ba4 (F.at m).mem _ _=_ from hs]
 unfold W9
 rw [if_neg (show ¬ (F.env<0∨F.env≥((F.at m).envs.length:Int)) from k.env)]
 unfold kDo
 rw [if_neg (show ¬ ((2:Int)=1) by decide),if_pos rfl,e];rfl
theorem Ib1 {F:Fr} (k:FrOk F) {X:CX} (f:Fit F.S.mem.length F.rg X.m) {r:RecS} {b:List UInt8} {ok:Bool} (hb:ok=true→b.length=P8 r.kind):Fit F.S.mem.length F.rg (wrX X r b ok).2.m:=by
 unfold wrX
 rw [f.mlen k]
 cases hp:G4 F.caps.length r with
 | none=>exact f
 | some p =>
  obtain ⟨j,a,n⟩:=p
  obtain ⟨lo,z,cap,hc,hr,ha,hx,hl,hz,_⟩:=D56 k f hp
  simp only
  split
  ·rename_i hk
   exact f.set hr (by rw [Ad3 (by rw [hb hk.1,← Dg4 hp];omega)];exact hl)
  ·exact f
instance {caps:List Int} {o:Option (Nat × Nat × Nat)}:LenC (G31 caps o) 3:=⟨by cases o<;>rfl⟩
theorem H02 (caps:List Int) (o:Option (Nat × Nat × Nat)):(G31 caps o).all Value.oneCell=true:=by cases o<;>rfl
instance {caps:List Int} {o:Option (Nat × Nat × Nat)} {cs:List Value} [k:LenC cs 3]:SetsC cs 0 (G31 caps o) (G31 caps o):=⟨Bu6 k.ok LenC.ok (H02 caps o)⟩
instance {rc:RecS}:PartC (Y1 rc) 0 2 (Y1 rc):=⟨rfl⟩
theorem He0 (r:RecS) (l:List RecS):(if r ∈ l then (int 1,true) else (int 0,false))=(int (if r ∈ l then 1 else 0),decide (r ∈ l)):=by split<;>simp [*]
theorem Hd2 (r:RecS) (l:List RecS):decide ((if r ∈ l then (1:Int) else 0)>0)=decide (r ∈ l):=by split<;>simp [*]
theorem D15 (k:Nat) (S:KS) (N:Nat) (ok:KOk N S) (hN:N+1<1000000000) (env:Int) (c:CallS) (ba:Option Addr) (bc:Nat) (ro:Bool) (h5:c.op≠5) :
  Ct B0 Q3 [P0 k,int env,.agg ⟨Bk0 c ba bc⟩] [D3 k S,slC ro A6 1 ba c.b.length bc (A0 c.b)] fun v own=>∃ x d,v=.agg ⟨[int (W9 S env c).1.1,int (W9 S env c).1.2.1,.slice x (W9 S env c).1.2.2.length d]⟩ ∧
    own [slC false A6 1 x (W9 S env c).1.2.2.length d (A0 (W9 S env c).1.2.2),D3 k (W9 S env c).2,slC ro A6 1 ba c.b.length bc (A0 c.b)]:=by
 intro h r o
 obtain ⟨pq,o1⟩:=Own.ex (f:=fun pq=>slX ro A6 1 ba c.b.length bc pq (A0 c.b)) (o.perm (.swap _ _ _))
 obtain ⟨v,h',e,x,d,rfl,o2⟩:=Hs1 k S N ok hN env c ba bc ro pq h5 h r (o1.perm (.swap _ _ _))
 refine ⟨_,h',e,x,d,rfl,?_⟩
 have o3:=o2.picks [2] rfl
 exact (Own.inex (f:=fun pq=>slX ro A6 1 ba c.b.length bc pq (A0 c.b)) pq o3).picks [1,1,0] rfl
theorem Ea1 (c k:Nat) (F:Fr) (X:CX) (rc:RecS) (ok:FrOk F):Ct B0 N4 [P0 c,.agg ⟨Y1 rc⟩] [cmC c k F X] fun v own =>
  (∃ l a cp,rdX X rc=some l∧l.length=P8 rc.kind∧v=.tuple ⟨[.slice a l.length cp,.bool true]⟩∧own [slC false A6 1 a l.length cp (A0 l),cmC c k F X]) ∨
  (rdX X rc=none∧v=.tuple ⟨[.slice none 0 0,.bool false]⟩∧own [cmC c k F X]):=by
 refine Ct.of Dv4 rfl fun h r=>Tr.eq (Dy3 ..) ?_;refine Je ?_
 refine B4 (cmC c k F X) fun u=>?_;refine Je ?_
 refine L1 2 rfl fun f=>?_
 (refine Ja ?_;unhygienic intros)
 refine Yc (Ef8 c k F.env F.caps X.bad rc ok.small ok.ne) ?_;rintro _ h ⟨rfl,o⟩<;>(refine Jg o ?_;unhygienic intros)
 have em:=f.mlen ok
 cases hp:G4 F.caps.length rc with
 | none =>
  (refine Jb ?_;unhygienic intros)
  refine Yb (Yt rfl ?_)
  refine Ys fun o=>(?_:Tr _ _ _ _) o;refine Je ?_
  (refine Ja ?_;unhygienic intros)
  refine B2 (cmC c k F X) () ?_;refine Je ?_
  refine Ys fun o=>?_
  exact .inr ⟨by unfold rdX;rw [em,hp],rfl,o.sub⟩
 | some p =>
  obtain ⟨j,a,n⟩:=p
  refine B4 (U9 c k F.env F.caps X.bad) fun ⟨ca,cn,mb⟩=>?_;refine Je ?_
  (refine Jb ?_;unhygienic intros)
  refine Tr.orG (c:=decide (rc ∈ X.bad)) (fun _=>?_) ?_
  ·(refine Ja ?_;unhygienic intros)
   rw [Bt7,He0]
   (refine Ja ?_;unhygienic intros)
   refine Ys fun o=>?_
   rw [Hd2];exact ⟨by first|rfl|trivial,by first|rfl|trivial⟩
  by_cases hb:rc ∈ X.bad
  ·rw [decide_eq_true hb]
   (refine Ja ?_;unhygienic intros)
   refine B2 (U9 c k F.env F.caps X.bad) ⟨ca,cn,mb⟩ ?_;refine Je ?_
   refine B2 (cmC c k F X) () ?_;refine Je ?_
   refine Ys fun o=>?_
   exact .inr ⟨by unfold rdX;rw [em,hp];exact if_pos hb,rfl,o.sub⟩
  ·rw [decide_eq_false hb]
   refine Yf rfl ?_
   (refine Ja ?_;unhygienic intros)
   refine B2 (U9 c k F.env F.caps X.bad) ⟨ca,cn,mb⟩ ?_;refine Je ?_
   have J:=Ia4 k (F.at X.m) F.N (F.at_ok ok f) ok.hN F.env 1 (F.caps.getD j 0) (a:Int) (n:Int) 0 0 (by decide)
   rw [Ih2 ok f hp] at J
   refine Yc (J) ?_;rintro _ h ⟨y,d,rfl,o⟩<;>(refine Jf o ?_;unhygienic intros)
   refine Yf rfl ?_
   (refine Ja ?_;unhygienic intros)
   refine B2 (cmC c k F X) () ?_;refine Je ?_
   refine Ys fun o=>?_
   have e:rdX X rc=some (slice (X.m.getD j []) a n):=by unfold rdX;rw [em,hp];exact if_neg hb
   exact .inl ⟨_,y,d,e,Ia7 ok f e,rfl,o.sub⟩
theorem Bu7 (c k:Nat) (F:Fr) (X:CX) (rc:RecS) (ok:FrOk F) (bs:List UInt8) (g:Bool) (ba:Option Addr) (bc:Nat) (hb:g=true→bs.length=P8 rc.kind) :
  Ct B0 I5 [P0 c,.agg ⟨Y1 rc⟩,.slice ba bs.length bc,.bool g] [cmC c k F X,slC false A6 1 ba bs.length bc (A0 bs)] fun v own =>
   v=.bool (wrX X rc bs g).1∧own [cmC c k F (wrX X rc bs g).2,slC false A6 1 ba bs.length bc (A0 bs)]:=by
 refine Ct.of Dq0 rfl fun h r=>Tr.eq (Dp6 ..) ?_;refine Je ?_
 refine B4 (cmC c k F X) fun u=>?_;refine Je ?_
 refine L1 2 rfl fun f=>?_
 (refine Ja ?_;unhygienic intros)
 refine Yc (Ef8 c k F.env F.caps X.bad rc ok.small ok.ne) ?_;rintro _ h ⟨rfl,o⟩<;>(refine Jg o ?_;unhygienic intros)
 have em:=f.mlen ok
 cases hp:G4 F.caps.length rc with
 | none =>
  (refine Jb ?_;unhygienic intros)
  refine Yb (Yt rfl ?_)
  refine Ys fun o=>(?_:Tr _ _ _ _) o;refine Je ?_
  refine Yb (Yt rfl ?_)
  refine Ys fun o=>(?_:Tr _ _ _ _) o;refine Je ?_
  (refine Ja ?_;unhygienic intros)
  refine B2 (cmC c k F X) () ?_;refine Je ?_
  refine Ys fun o=>?_
  have e:wrX X rc bs g=(false,X):=by unfold wrX;rw [em,hp]
  rw [e]
  exact ⟨by first|rfl|trivial,o.sub⟩
 | some p =>
  obtain ⟨j,a,n⟩:=p
  refine B4 (U9 c k F.env F.caps X.bad) fun ⟨ca,cn,mb⟩=>?_;refine Je ?_
  (refine Jb ?_;unhygienic intros)
  refine Yb (Yf rfl ?_)
  refine Ys fun o=>(?_:Tr _ _ _ _) o;refine Je ?_
  (refine Jb ?_;unhygienic intros)
  refine Tr.orG (c:=decide (rc ∈ X.bad)) (fun _=>?_) ?_
  ·(refine Ja ?_;unhygienic intros)
   rw [Bt7,He0]
   (refine Ja ?_;unhygienic intros)
   refine Ys fun o=>?_
   rw [Hd2];exact ⟨by first|rfl|trivial,by first|rfl|trivial⟩
  by_cases hg:g=true∧¬ rc ∈ X.bad
  ·have e:wrX X rc bs g=(true,{ X with m:=X.m.set j (J4 (X.m.getD j []) a bs) }):=by unfold wrX;rw [em,hp];exact if_pos hg
   have f2:=Ib1 (r:=rc) (b:=bs) (ok:=g) ok f hb
   rw [e] at f2
   obtain ⟨rfl,hg2⟩:=hg
   rw [e,decide_eq_false hg2]
   refine Yf rfl ?_
   (refine Ja ?_;unhygienic intros)
   refine B2 (U9 c k F.env F.caps X.bad) ⟨ca,cn,mb⟩ ?_;refine Je ?_
   have hl:bs.length=n:=by rw [hb rfl,Dg4 hp]
   have J:=D15 k (F.at X.m) F.N (F.at_ok ok f) ok.hN F.env ⟨2,F.caps.getD j 0,(a:Int),0,0,0,bs⟩ ba bc false (show ((2:Int)≠5) by decide)
   rw [Ic4 ok f hp hl] at J
   refine Yc (J) ?_;rintro _ h ⟨y,d,rfl,o⟩<;>(refine Jf o ?_;unhygienic intros)
   refine An1 (show Fit F.S.mem.length F.rg (X.m.set j (J4 (X.m.getD j []) a bs)) from f2) ?_
   refine B2 (cmC c k F { X with m:=X.m.set j (J4 (X.m.getD j []) a bs) }) () ?_;refine Je ?_
   refine Ys fun o=>?_
   exact ⟨rfl,o.sub⟩
  ·have e:wrX X rc bs g=(false,X):=by unfold wrX;rw [em,hp];exact if_neg hg
   rw [e]
   refine Yt ?_ ?_
   ·cases g with
    | false=>rfl
    | true=>simpa using hg
   refine B2 (U9 c k F.env F.caps X.bad) ⟨ca,cn,mb⟩ ?_;refine Je ?_
   refine B2 (cmC c k F X) () ?_;refine Je ?_
   refine Ys fun o=>?_
   exact ⟨by first|rfl|trivial,o.sub⟩
def S6 {α:Type} (dec:List UInt8→α × Int) (z:α) (X:CX) (rc:RecS):(α × Int) × CX :=
 match rdX X rc with
 | some l=>(dec l,if (dec l).2=2 then { X with bad:=X.bad++[rc] } else X)
 | none=>((z,2),X)
theorem D48 {X:CX} {rc:RecS} {l:List UInt8} (h:rdX X rc=some l):¬ rc ∈ X.bad:=by
 unfold rdX at h
 split at h
 ·split at h
  ·cases h
  ·assumption
 ·cases h
theorem Ht8 (l:List UInt8) (h:(Z6 l).2≠1):(Z6 l).1=.zero:=by
 unfold Z6 at *;split<;>first|rfl|(split<;>first|rfl|(simp_all;done))
theorem Ht0 (l:List UInt8) (h:(Z3 l).2≠1):(Z3 l).1=.zero:=by
 unfold Z3 at *;split<;>first|rfl|(split<;>first|rfl|(simp_all;done))
theorem Hu7 (l:List UInt8) (h:(U5 l).2≠1):(U5 l).1=.zero:=by
 unfold U5 at *;split<;>first|rfl|(split<;>first|rfl|(simp_all;done))
theorem H92 (c k:Nat) (F:Fr) (X:CX) (rc:RecS) (ok:FrOk F) (hk:P8 rc.kind=24):Ct B0 I7 [P0 c,.agg ⟨Y1 rc⟩,.func (.func A22) ⟨[]⟩ ⟨[]⟩] [cmC c k F X] fun v own =>
  v=.tuple ⟨[.agg ⟨D4 (S6 Z6 .zero X rc).1.1⟩,int (S6 Z6 .zero X rc).1.2]⟩∧own [cmC c k F (S6 Z6 .zero X rc).2]:=by
 refine Ct.of An5 rfl fun h r=>Tr.eq (Dg3 ..) ?_;refine Je ?_
 (refine Ja ?_;unhygienic intros)
 refine Yc (Ea1 c k F X rc ok) ?_
 rintro v h (⟨l,a,cp,hr,hl,rfl,o⟩|⟨hr,rfl,o⟩)
 ·refine (?_:Tr _ _ _ _) o
  refine Je ?_
  have e:S6 Z6 .zero X rc=(Z6 l,if (Z6 l).2=2 then { X with bad:=X.bad++[rc] } else X):=by unfold S6;rw [hr]
  have hb:=D48 hr
  rw [e]
  rw [hk] at hl
  rw [hl]
  (refine Ja ?_;unhygienic intros)
  refine Yc (Hj4 a cp l hl) ?_;rintro _ h ⟨rfl,o⟩<;>(refine Jf o ?_;unhygienic intros)
  by_cases h2:(Z6 l).2=2
  ·refine Yt (by simpa using h2) ?_
   have hz:=Ht8 l (by omega)
   simp only [if_pos h2]
   refine B4 (cmC c k F X) fun u=>?_;refine Je ?_
   refine B4 (U9 c k F.env F.caps X.bad) fun ⟨ca,cn,mb⟩=>?_;refine Je ?_
   (refine Ja ?_;unhygienic intros)
   rw [Bt7,if_neg hb]
   (refine Ja ?_;unhygienic intros)
   rw [Eb5 hb]
   (refine Ja ?_;unhygienic intros)
   rw [Dr1 hb]
   (refine Ja ?_;unhygienic intros)
   rw [B86 X.bad 0 X.bad.length _ 0 rfl (by omega),Nat.zero_add]
   (refine Ja ?_;unhygienic intros)
   rw [D49]
   refine Tr.jmp An5 (Tr.eq (A38 ..) ?_);(try simp only[Nr,Nl,wl,Nat.reduceAdd,Nat.reduceMul,Int.reduceToNat])
   refine Yt (by rw [bne_iff_ne];omega) ?_
   (refine Ja ?_;unhygienic intros)
   rw [show X.bad.length+1=(X.bad++[rc]).length by simp]
   refine B2 (U9 c k F.env F.caps (X.bad++[rc])) ⟨ca,cn,mb⟩ ?_;refine Je ?_
   refine B2 (cmC c k F { X with bad:=X.bad++[rc] }) () ?_;refine Je ?_
   refine Ys fun o=>?_
   exact ⟨by rw [hz]<;>rfl,o.sub⟩
  ·refine Yf (by simpa using h2) ?_
   simp only [if_neg h2]
   refine Tr.jmp An5 (Tr.eq (A38 ..) ?_);(try simp only[Nr,Nl,wl,Nat.reduceAdd,Nat.reduceMul,Int.reduceToNat])
   by_cases h1:(Z6 l).2=1
   ·refine Yf (by simpa using h1) ?_
    (refine Ja ?_;unhygienic intros)
    refine Ys fun o=>?_
    exact ⟨rfl,o.sub⟩
   ·refine Yt (by simpa using h1) ?_
    (refine Ja ?_;unhygienic intros)
    refine Ys fun o=>?_
    exact ⟨by rw [Ht8 l h1]<;>rfl,o.sub⟩
 ·refine (?_:Tr _ _ _ _) o
  refine Je ?_
  have e:S6 Z6 .zero X rc=((.zero,2),X):=by unfold S6;rw [hr]
  rw [e]
  (refine Ja ?_;unhygienic intros)
  refine Ys fun o=>?_
  exact ⟨rfl,o.sub⟩
theorem H73 (c k:Nat) (F:Fr) (X:CX) (rc:RecS) (ok:FrOk F) (hk:P8 rc.kind=8):Ct B0 J0 [P0 c,.agg ⟨Y1 rc⟩,.func (.func A25) ⟨[]⟩ ⟨[]⟩] [cmC c k F X] fun v own =>
  v=.tuple ⟨[.agg ⟨Bj4 (S6 Z3 .zero X rc).1.1⟩,int (S6 Z3 .zero X rc).1.2]⟩∧own [cmC c k F (S6 Z3 .zero X rc).2]:=by
 refine Ct.of An2 rfl fun h r=>Tr.eq (Df6 ..) ?_;refine Je ?_
 (refine Ja ?_;unhygienic intros)
 refine Yc (Ea1 c k F X rc ok) ?_
 rintro v h (⟨l,a,cp,hr,hl,rfl,o⟩|⟨hr,rfl,o⟩)
 ·refine (?_:Tr _ _ _ _) o
  refine Je ?_
  have e:S6 Z3 .zero X rc=(Z3 l,if (Z3 l).2=2 then { X with bad:=X.bad++[rc] } else X):=by unfold S6;rw [hr]
  have hb:=D48 hr
  rw [e]
  rw [hk] at hl
  rw [hl]
  (refine Ja ?_;unhygienic intros)
  refine Yc (Hi0 a cp l hl) ?_;rintro _ h ⟨rfl,o⟩<;>(refine Jf o ?_;unhygienic intros)
  by_cases h2:(Z3 l).2=2
  ·refine Yt (by simpa using h2) ?_
   have hz:=Ht0 l (by omega)
   simp only [if_pos h2]
   refine B4 (cmC c k F X) fun u=>?_;refine Je ?_
   refine B4 (U9 c k F.env F.caps X.bad) fun ⟨ca,cn,mb⟩=>?_;refine Je ?_
   (refine Ja ?_;unhygienic intros)
   rw [Bt7,if_neg hb]
   (refine Ja ?_;unhygienic intros)
   rw [Eb5 hb]
   (refine Ja ?_;unhygienic intros)
   rw [Dr1 hb]
   (refine Ja ?_;unhygienic intros)
   rw [B86 X.bad 0 X.bad.length _ 0 rfl (by omega),Nat.zero_add]
   (refine Ja ?_;unhygienic intros)
   rw [D49]
   refine Tr.jmp An2 (Tr.eq (A24 ..) ?_);(try simp only[Nr,Nl,wl,Nat.reduceAdd,Nat.reduceMul,Int.reduceToNat])
   refine Yt (by rw [bne_iff_ne];omega) ?_
   (refine Ja ?_;unhygienic intros)
   rw [show X.bad.length+1=(X.bad++[rc]).length by simp]
   refine B2 (U9 c k F.env F.caps (X.bad++[rc])) ⟨ca,cn,mb⟩ ?_;refine Je ?_
   refine B2 (cmC c k F { X with bad:=X.bad++[rc] }) () ?_;refine Je ?_
   refine Ys fun o=>?_
   exact ⟨by rw [hz]<;>rfl,o.sub⟩
  ·refine Yf (by simpa using h2) ?_
   simp only [if_neg h2]
   refine Tr.jmp An2 (Tr.eq (A24 ..) ?_);(try simp only[Nr,Nl,wl,Nat.reduceAdd,Nat.reduceMul,Int.reduceToNat])
   by_cases h1:(Z3 l).2=1
   ·refine Yf (by simpa using h1) ?_
    (refine Ja ?_;unhygienic intros)
    refine Ys fun o=>?_
    exact ⟨rfl,o.sub⟩
   ·refine Yt (by simpa using h1) ?_
    (refine Ja ?_;unhygienic intros)
    refine Ys fun o=>?_
    exact ⟨by rw [Ht0 l h1]<;>rfl,o.sub⟩
 ·refine (?_:Tr _ _ _ _) o
  refine Je ?_
  have e:S6 Z3 .zero X rc=((.zero,2),X):=by unfold S6;rw [hr]
  rw [e]
  (refine Ja ?_;unhygienic intros)
  refine Ys fun o=>?_
  exact ⟨rfl,o.sub⟩
theorem Hf0 (c k:Nat) (F:Fr) (X:CX) (rc:RecS) (ok:FrOk F) (hk:P8 rc.kind=40):Ct B0 H4 [P0 c,.agg ⟨Y1 rc⟩,.func (.func Au6) ⟨[]⟩ ⟨[]⟩] [cmC c k F X] fun v own =>
  v=.tuple ⟨[.agg ⟨L8 (S6 U5 .zero X rc).1.1⟩,int (S6 U5 .zero X rc).1.2]⟩∧own [cmC c k F (S6 U5 .zero X rc).2]:=by
 refine Ct.of Ao6 rfl fun h r=>Tr.eq (Df3 ..) ?_;refine Je ?_
 (refine Ja ?_;unhygienic intros)
 refine Yc (Ea1 c k F X rc ok) ?_
 rintro v h (⟨l,a,cp,hr,hl,rfl,o⟩|⟨hr,rfl,o⟩)
 ·refine (?_:Tr _ _ _ _) o
  refine Je ?_
  have e:S6 U5 .zero X rc=(U5 l,if (U5 l).2=2 then { X with bad:=X.bad++[rc] } else X):=by unfold S6;rw [hr]
  have hb:=D48 hr
  rw [e]
  rw [hk] at hl
  rw [hl]
  (refine Ja ?_;unhygienic intros)
  refine Yc (Hk5 a cp l hl) ?_;rintro _ h ⟨rfl,o⟩<;>(refine Jf o ?_;unhygienic intros)
  by_cases h2:(U5 l).2=2
  ·refine Yt (by simpa using h2) ?_
   have hz:=Hu7 l (by omega)
   simp only [if_pos h2]
   refine B4 (cmC c k F X) fun u=>?_;refine Je ?_
   refine B4 (U9 c k F.env F.caps X.bad) fun ⟨ca,cn,mb⟩=>?_;refine Je ?_
   (refine Ja ?_;unhygienic intros)
   rw [Bt7,if_neg hb]
   (refine Ja ?_;unhygienic intros)
   rw [Eb5 hb]
   (refine Ja ?_;unhygienic intros)
   rw [Dr1 hb]
   (refine Ja ?_;unhygienic intros)
   rw [B86 X.bad 0 X.bad.length _ 0 rfl (by omega),Nat.zero_add]
   (refine Ja ?_;unhygienic intros)
   rw [D49]
   refine Tr.jmp Ao6 (Tr.eq (A27 ..) ?_);(try simp only[Nr,Nl,wl,Nat.reduceAdd,Nat.reduceMul,Int.reduceToNat])
   refine Yt (by rw [bne_iff_ne];omega) ?_
   (refine Ja ?_;unhygienic intros)
   rw [show X.bad.length+1=(X.bad++[rc]).length by simp]
   refine B2 (U9 c k F.env F.caps (X.bad++[rc])) ⟨ca,cn,mb⟩ ?_;refine Je ?_
   refine B2 (cmC c k F { X with bad:=X.bad++[rc] }) () ?_;refine Je ?_
   refine Ys fun o=>?_
   exact ⟨by rw [hz]<;>rfl,o.sub⟩
  ·refine Yf (by simpa using h2) ?_
   simp only [if_neg h2]
   refine Tr.jmp Ao6 (Tr.eq (A27 ..) ?_);(try simp only[Nr,Nl,wl,Nat.reduceAdd,Nat.reduceMul,Int.reduceToNat])
   by_cases h1:(U5 l).2=1
   ·refine Yf (by simpa using h1) ?_
    (refine Ja ?_;unhygienic intros)
    refine Ys fun o=>?_
    exact ⟨rfl,o.sub⟩
   ·refine Yt (by simpa using h1) ?_
    (refine Ja ?_;unhygienic intros)
    refine Ys fun o=>?_
    exact ⟨by rw [Hu7 l h1]<;>rfl,o.sub⟩
 ·refine (?_:Tr _ _ _ _) o
  refine Je ?_
  have e:S6 U5 .zero X rc=((.zero,2),X):=by unfold S6;rw [hr]
  rw [e]
  (refine Ja ?_;unhygienic intros)
  refine Ys fun o=>?_
  exact ⟨rfl,o.sub⟩
def Gb1 (g:Int):List UInt8:=[b8 g,211,Bs8 [b8 g,211],0]
def Ar4 (l:List UInt8):Int × Int:=if byI l 0<8∧Gb1 (byI l 0)=l then (byI l 0,1) else (0,2)
theorem Gr3 (g:Int):Ct B0 Am9 [int g] [] fun v own =>
  (0≤g∧g<8∧∃ a c,v=.tuple ⟨[.slice a 4 c,.bool true]⟩∧own [slC false A6 1 a 4 c (A0 (Gb1 g))])∨(¬ (0≤g∧g<8)∧v=.tuple ⟨[.slice none 0 0,.bool false]⟩∧own []):=by
 refine Ct.of Eb1 rfl fun h r=>Tr.eq (D37 ..) ?_;refine Je ?_
 (refine Ja ?_;unhygienic intros)
 by_cases hg:0≤g∧g<8
 ·refine Yf (by simp;omega) ?_
  rw [Bg1]
  refine Yn fun b h=>?_
  rw [show ([.int .u8 ((b8 g).toNat:Int),.int .u8 211]:List Value)=A0 [b8 g,211] from rfl]
  refine Ai0 0 rfl 1 2 rfl (by omega) ?_
  refine Je ?_
  refine Tr.pcall (Ga6 (slC false A6 1 (some ⟨b,0,none⟩) 2 2 (A0 [b8 g,211])) (some ⟨b,0,none⟩) false 2 2 2 [b8 g,211] 2 (by simp) (by simp [B1])) ?_
  (refine Ja ?_;unhygienic intros)
  rw [show List.take 2 [b8 g,211]=[b8 g,211] from rfl,Dk5]
  refine Tr.xApd ⟨rfl,rfl,by simp [B1]⟩ fun a' c' h'=>?_
  refine Je ?_
  refine Ys fun o=>?_
  exact .inl ⟨hg.1,hg.2,a',c',rfl,(show Own h' (_::slC false A6 1 a' 4 c' (A0 (Gb1 g))::_) from o).sub⟩
 ·refine Yt (by simp;omega) ?_
  refine Ys fun o=>?_
  exact .inr ⟨hg,rfl,o.sub⟩
theorem H98 (l:List UInt8):∀ (m i:Nat) (r:List UInt8),l.length-i=m→ByteArray.toList.loop ⟨⟨l⟩⟩ i r=r.reverse++l.drop i:=by
 intro m
 induction m with
 | zero =>
  intro i r hm
  unfold ByteArray.toList.loop
  rw [if_neg (show ¬ i<(ByteArray.mk ⟨l⟩).size by show ¬ i<l.length;omega),List.drop_eq_nil_of_le (by omega)];simp
 | succ m ih =>
  intro i r hm
  have hlt:i<l.length:=by omega
  unfold ByteArray.toList.loop
  rw [if_pos (show i<(ByteArray.mk ⟨l⟩).size from hlt),ih (i+1) _ (by omega),List.drop_eq_getElem_cons hlt]
  have:(ByteArray.mk ⟨l⟩).get! i=l[i]:=by
   show (Array.mk l)[i]! = l[i]
   simp [hlt]
  rw [this];simp
theorem Gj9 (l:List UInt8):(ByteArray.mk ⟨l⟩).toList=l:=by
 unfold ByteArray.toList
 rw [H98 l _ 0 [] rfl];simp
theorem Hi8 (a:Option Addr) (c:Nat) (l:List UInt8) (hl:l.length=4):Ct B0 Al3 [.slice a 4 c] [slC false A6 1 a 4 c (A0 l)] fun v own=>v=.tuple ⟨[int (Ar4 l).1,int (Ar4 l).2]⟩∧own [slC false A6 1 a 4 c (A0 l)]:=by
 refine Ct.of Eu1 rfl fun h r=>Tr.eq (Ew1 ..) ?_;refine Je ?_
 refine Yf rfl ?_
 (refine Ja ?_;unhygienic intros;repeat(refine Gw ?_;rintro px rfl;refine Ja ?_;unhygienic intros))
 refine Tr.xIntS (v:=byI l 0) (Ac0 (by omega)) ?_
 simp only [byI,Al5]
 refine Yc (Gr3 (byI l 0)) ?_
 rintro v h (⟨h1,h2,a1,c1,rfl,o⟩|⟨hn,rfl,o⟩)
 ·refine (?_:Tr _ _ _ _) o
  refine Je ?_
  (refine Ja ?_;unhygienic intros)
  rw [Gj9,Gj9]
  by_cases he:Gb1 (byI l 0)=l
  ·have e:Ar4 l=(byI l 0,1):=by unfold Ar4;rw [if_pos ⟨h2,he⟩]
   refine Yf (by simp [he]) ?_
   (refine Ja ?_;unhygienic intros)
   refine Tr.xIntS (v:=byI l 0) (Ac0 (by omega)) ?_
   refine Ys fun o=>?_
   rw [e];exact ⟨by simp only [byI,Al5],o.sub⟩
  ·have e:Ar4 l=(0,2):=by unfold Ar4;rw [if_neg (fun hh=>he hh.2)]
   refine Yt (by simp [he]) ?_
   refine Ys fun o=>?_
   rw [e];exact ⟨rfl,o.sub⟩
 ·refine (?_:Tr _ _ _ _) o
  refine Je ?_
  (refine Jb ?_;unhygienic intros)
  refine Yb (Yt rfl ?_)
  refine Ys fun o=>(?_:Tr _ _ _ _) o;refine Je ?_
  (refine Ja ?_;unhygienic intros)
  refine Ys fun o=>?_
  exact ⟨by unfold Ar4;rw [if_neg (by simp only [byI] at *;omega)],o.sub⟩
theorem Hv4 (l:List UInt8) (h:(Ar4 l).2≠1):(Ar4 l).1=0:=by
 unfold Ar4 at *;split<;>simp_all
theorem H80 (c k:Nat) (F:Fr) (X:CX) (rc:RecS) (ok:FrOk F) (hk:P8 rc.kind=4):Ct B0 P5 [P0 c,.agg ⟨Y1 rc⟩,.func (.func Al3) ⟨[]⟩ ⟨[]⟩] [cmC c k F X] fun v own =>
  v=.tuple ⟨[int (S6 Ar4 0 X rc).1.1,int (S6 Ar4 0 X rc).1.2]⟩∧own [cmC c k F (S6 Ar4 0 X rc).2]:=by
 refine Ct.of A68 rfl fun h r=>Tr.eq (Eb0 ..) ?_;refine Je ?_
 (refine Ja ?_;unhygienic intros)
 refine Yc (Ea1 c k F X rc ok) ?_
 rintro v h (⟨l,a,cp,hr,hl,rfl,o⟩|⟨hr,rfl,o⟩)
 ·refine (?_:Tr _ _ _ _) o
  refine Je ?_
  have e:S6 Ar4 0 X rc=(Ar4 l,if (Ar4 l).2=2 then { X with bad:=X.bad++[rc] } else X):=by unfold S6;rw [hr]
  have hb:=D48 hr
  rw [e]
  rw [hk] at hl
  rw [hl]
  (refine Ja ?_;unhygienic intros)
  refine Yc (Hi8 a cp l hl) ?_;rintro _ h ⟨rfl,o⟩<;>(refine Jf o ?_;unhygienic intros)
  by_cases h2:(Ar4 l).2=2
  ·refine Yt (by simpa using h2) ?_
   have hz:=Hv4 l (by omega)
   simp only [if_pos h2]
   refine B4 (cmC c k F X) fun u=>?_;refine Je ?_
   refine B4 (U9 c k F.env F.caps X.bad) fun ⟨ca,cn,mb⟩=>?_;refine Je ?_
   (refine Ja ?_;unhygienic intros)
   rw [Bt7,if_neg hb]
   (refine Ja ?_;unhygienic intros)
   rw [Eb5 hb]
   (refine Ja ?_;unhygienic intros)
   rw [Dr1 hb]
   (refine Ja ?_;unhygienic intros)
   rw [B86 X.bad 0 X.bad.length _ 0 rfl (by omega),Nat.zero_add]
   (refine Ja ?_;unhygienic intros)
   rw [D49]
   refine Tr.jmp A68 (Tr.eq (Bk3 ..) ?_);(try simp only[Nr,Nl,wl,Nat.reduceAdd,Nat.reduceMul,Int.reduceToNat])
   refine Yt (by rw [bne_iff_ne];omega) ?_
   rw [show X.bad.length+1=(X.bad++[rc]).length by simp]
   refine B2 (U9 c k F.env F.caps (X.bad++[rc])) ⟨ca,cn,mb⟩ ?_;refine Je ?_
   refine B2 (cmC c k F { X with bad:=X.bad++[rc] }) () ?_;refine Je ?_
   refine Ys fun o=>?_
   exact ⟨by rw [hz],o.sub⟩
  ·refine Yf (by simpa using h2) ?_
   simp only [if_neg h2]
   refine Tr.jmp A68 (Tr.eq (Bk3 ..) ?_);(try simp only[Nr,Nl,wl,Nat.reduceAdd,Nat.reduceMul,Int.reduceToNat])
   by_cases h1:(Ar4 l).2=1
   ·refine Yf (by simpa using h1) ?_
    refine Ys fun o=>?_
    exact ⟨rfl,o.sub⟩
   ·refine Yt (by simpa using h1) ?_
    refine Ys fun o=>?_
    exact ⟨by rw [Hv4 l h1],o.sub⟩
 ·refine (?_:Tr _ _ _ _) o
  refine Je ?_
  have e:S6 Ar4 0 X rc=((0,2),X):=by unfold S6;rw [hr]
  rw [e]
  (refine Ja ?_;unhygienic intros)
  refine Ys fun o=>?_
  exact ⟨rfl,o.sub⟩
abbrev D75 (X:CX) (i:Int):(ProcS × Int) × CX:=S6 Z6 .zero X ⟨1,i⟩
abbrev D58 (X:CX) (i:Int):(FileS × Int) × CX:=S6 Z3 .zero X ⟨2,i⟩
abbrev Dg0 (X:CX) (i:Int):(PipeS × Int) × CX:=S6 U5 .zero X ⟨3,i⟩
abbrev Eq9 (X:CX):(PipeS × Int) × CX:=S6 U5 .zero X ⟨4,0⟩
abbrev Ej7 (X:CX):(Int × Int) × CX:=S6 Ar4 0 X ⟨5,0⟩
abbrev Bf5 (X:CX) (i:Int) (p:ProcS):Bool × CX:=wrX X ⟨1,i⟩ (Au0 p) (okS p)
abbrev Bh6 (X:CX) (i:Int) (p:FileS):Bool × CX:=wrX X ⟨2,i⟩ (Ah7 p) (okF p)
abbrev Bq1 (X:CX) (i:Int) (p:PipeS):Bool × CX:=wrX X ⟨3,i⟩ (I6 p) (okP p)
abbrev B61 (X:CX) (rc:RecS):Bool × CX:=wrX X rc (List.replicate (P8 rc.kind) 0) true
theorem D29 (X:CX) (rc:RecS) (b:List UInt8):wrX X rc b false=(false,X):=by
 unfold wrX;split<;>simp
theorem Gn0 (c k:Nat) (F:Fr) (X:CX) (rc:RecS) (ok:FrOk F):Ct B0 W5 [P0 c,.agg ⟨Y1 rc⟩] [cmC c k F X] fun v own =>
  v=.bool (B61 X rc).1∧own [cmC c k F (B61 X rc).2]:=by
 refine Ct.of Dp8 rfl fun h r=>Tr.eq (Dp9 ..) ?_;refine Je ?_
 refine B4 (cmC c k F X) fun u=>?_;refine Je ?_
 refine L1 2 rfl fun f=>?_
 (repeat' first|refine Gu ?_|(with_reducible first|refine Gn fun b h=>?_|apply Gx|apply Gy|rintro px rfl|apply Gw|refine fun(h:H)=>?_|intro hb)|refine Gs ?_|refine Gt ?_|exact Gz rfl|fail)
 refine Yc (Ef8 c k F.env F.caps X.bad rc ok.small ok.ne) ?_;rintro _ h ⟨rfl,o⟩<;>(refine (?_:Tr _ _ _ _) o;refine Je ?_;(repeat' first|refine Gu ?_|(with_reducible first|refine Gn fun b h=>?_|apply Gx|apply Gy|rintro px rfl|apply Gw|refine fun(h:H)=>?_|intro hb)|refine Gs ?_|refine Gt ?_|exact Gz rfl|fail))
 have em:=f.mlen ok
 cases hp:G4 F.caps.length rc with
 | none =>
  (repeat' first|refine Gu ?_|(with_reducible first|refine Gn fun b h=>?_|apply Gx|apply Gy|rintro px rfl|apply Gw|refine fun(h:H)=>?_|intro hb)|refine Gs ?_|refine Gt ?_|exact Gz rfl|fail)
  rw [show G8 (Int.toNat 0) [.int .u8 0]=A0 [] from rfl]
  refine Ai0 0 rfl 1 0 rfl (by omega) ?_
  refine Je ?_
  refine B2 (cmC c k F X) () ?_;refine Je ?_
  refine Yc (Bu7 c k F X rc ok [] false (some ⟨b,0,none⟩) 0 (by simp)) ?_;rintro _ h ⟨rfl,o⟩<;>(refine (?_:Tr _ _ _ _) o;refine Je ?_;(repeat' first|refine Gu ?_|(with_reducible first|refine Gn fun b h=>?_|apply Gx|apply Gy|rintro px rfl|apply Gw|refine fun(h:H)=>?_|intro hb)|refine Gs ?_|refine Gt ?_|exact Gz rfl|fail))
  refine Ys fun o=>?_
  have e:B61 X rc=(false,X):=by unfold B61 wrX;rw [em,hp]
  rw [D29] at o
  rw [e,D29]
  exact ⟨by first|rfl|trivial,o.sub⟩
 | some p =>
  obtain ⟨j,a,n⟩:=p
  have hn:=Dg4 hp
  subst hn
  have h40:P8 rc.kind≤40:=by unfold P8;(repeat' split)<;>omega
  (repeat' first|refine Gu ?_|(with_reducible first|refine Gn fun b h=>?_|apply Gx|apply Gy|rintro px rfl|apply Gw|refine fun(h:H)=>?_|intro hb)|refine Gs ?_|refine Gt ?_|exact Gz rfl|fail)
  refine Tr.ck ⟨by omega,by omega,by simp only [B1];omega⟩ ?_
  refine Yn fun b1 h=>?_
  rw [Int.toNat_natCast,show G8 (P8 rc.kind) [.int .u8 0]=A0 (List.replicate (P8 rc.kind) 0) by simp [G8,A0]]
  refine Ai0 0 rfl 1 (P8 rc.kind) (by simp [A0]) (by omega) ?_
  refine Je ?_
  refine B2 (cmC c k F X) () ?_;refine Je ?_
  have J:=Bu7 c k F X rc ok (List.replicate (P8 rc.kind) 0) true (some ⟨b1,0,none⟩) (P8 rc.kind) (by simp)
  rw [List.length_replicate] at J
  refine Yc (J) ?_;rintro _ h ⟨rfl,o⟩<;>(refine (?_:Tr _ _ _ _) o;refine Je ?_;(repeat' first|refine Gu ?_|(with_reducible first|refine Gn fun b h=>?_|apply Gx|apply Gy|rintro px rfl|apply Gw|refine fun(h:H)=>?_|intro hb)|refine Gs ?_|refine Gt ?_|exact Gz rfl|fail))
  refine Ys fun o=>?_
  exact ⟨rfl,o.sub⟩
theorem Ea8 (c k:Nat) (F:Fr) (X:CX) (rc:RecS) (ok:FrOk F):Ct B0 I5 [P0 c,.agg ⟨Y1 rc⟩,.slice none 0 0,.bool false] [cmC c k F X] fun v own=>v=.bool false∧own [cmC c k F X]:=by
 intro h r o
 have o1:Own h (slC false A6 1 none 0 0 (A0 [])::cmC c k F X::r):=o.slNil false A6 (by omega)
 obtain ⟨v,h',e,rfl,o2⟩:=Bu7 c k F X rc ok [] false none 0 (by simp) h r (o1.perm (.swap _ _ _))
 rw [D29] at e o2
 exact ⟨_,h',e,rfl,o2.sub⟩
theorem E55 (i:Int):Ct B0 A37 [int i] [] fun v own=>v=.agg ⟨Y1 ⟨1,i⟩⟩∧own []:=by
 refine Ct.of Gj1 rfl fun h r=>Tr.eq (Gh9 ..) ?_;refine Je ?_
 (refine Ja ?_;unhygienic intros)
 refine Ys fun o=>?_
 exact ⟨rfl,o.sub⟩
theorem D42 (i:Int):Ct B0 Aq7 [int i] [] fun v own=>v=.agg ⟨Y1 ⟨2,i⟩⟩∧own []:=by
 refine Ct.of Gh1 rfl fun h r=>Tr.eq (Ge0 ..) ?_;refine Je ?_
 (refine Ja ?_;unhygienic intros)
 refine Ys fun o=>?_
 exact ⟨rfl,o.sub⟩
theorem D76 (i:Int):Ct B0 Aq5 [int i] [] fun v own=>v=.agg ⟨Y1 ⟨3,i⟩⟩∧own []:=by
 refine Ct.of Ge4 rfl fun h r=>Tr.eq (Gh3 ..) ?_;refine Je ?_
 (refine Ja ?_;unhygienic intros)
 refine Ys fun o=>?_
 exact ⟨rfl,o.sub⟩
theorem E05 (c k:Nat) (F:Fr) (X:CX) (ok:FrOk F) (i:Int):Ct B0 Q0 [P0 c,int i] [cmC c k F X] fun v own=>v=.tuple ⟨[.agg ⟨D4 (D75 X i).1.1⟩,int (D75 X i).1.2]⟩∧own [cmC c k F (D75 X i).2]:=by
 refine Ct.of Du3 rfl fun h r=>Tr.eq (Dx9 ..) ?_;refine Je ?_
 (refine Ja ?_;unhygienic intros)
 refine Yc (E55 i) ?_;rintro _ h ⟨rfl,o⟩<;>(refine Jf o ?_;unhygienic intros)
 refine Yc (H92 c k F X ⟨1,i⟩ ok rfl) ?_;rintro _ h ⟨rfl,o⟩<;>(refine Jf o ?_;unhygienic intros)
 refine Ys fun o=>?_
 exact ⟨rfl,o.sub⟩
theorem B53 (c k:Nat) (F:Fr) (X:CX) (ok:FrOk F) (i:Int):Ct B0 H9 [P0 c,int i] [cmC c k F X] fun v own=>v=.tuple ⟨[.agg ⟨Bj4 (D58 X i).1.1⟩,int (D58 X i).1.2]⟩∧own [cmC c k F (D58 X i).2]:=by
 refine Ct.of Dx4 rfl fun h r=>Tr.eq (Dw5 ..) ?_;refine Je ?_
 (refine Ja ?_;unhygienic intros)
 refine Yc (D42 i) ?_;rintro _ h ⟨rfl,o⟩<;>(refine Jf o ?_;unhygienic intros)
 refine Yc (H73 c k F X ⟨2,i⟩ ok rfl) ?_;rintro _ h ⟨rfl,o⟩<;>(refine Jf o ?_;unhygienic intros)
 refine Ys fun o=>?_
 exact ⟨rfl,o.sub⟩
theorem E58 (c k:Nat) (F:Fr) (X:CX) (ok:FrOk F) (i:Int):Ct B0 Q2 [P0 c,int i] [cmC c k F X] fun v own=>v=.tuple ⟨[.agg ⟨L8 (Dg0 X i).1.1⟩,int (Dg0 X i).1.2]⟩∧own [cmC c k F (Dg0 X i).2]:=by
 refine Ct.of Dv0 rfl fun h r=>Tr.eq (Dv6 ..) ?_;refine Je ?_
 (refine Ja ?_;unhygienic intros)
 refine Yc (D76 i) ?_;rintro _ h ⟨rfl,o⟩<;>(refine Jf o ?_;unhygienic intros)
 refine Yc (Hf0 c k F X ⟨3,i⟩ ok rfl) ?_;rintro _ h ⟨rfl,o⟩<;>(refine Jf o ?_;unhygienic intros)
 refine Ys fun o=>?_
 exact ⟨rfl,o.sub⟩
theorem Hz5 (c k:Nat) (F:Fr) (X:CX) (ok:FrOk F):Ct B0 Ai4 [P0 c] [cmC c k F X] fun v own=>v=.tuple ⟨[.agg ⟨L8 (Eq9 X).1.1⟩,int (Eq9 X).1.2]⟩∧own [cmC c k F (Eq9 X).2]:=by
 refine Ct.of Dw9 rfl fun h r=>Tr.eq (Dw0 ..) ?_;refine Je ?_
 (refine Ja ?_;unhygienic intros)
 refine Yc (Hf0 c k F X ⟨4,0⟩ ok rfl) ?_;rintro _ h ⟨rfl,o⟩<;>(refine Jf o ?_;unhygienic intros)
 refine Ys fun o=>?_
 exact ⟨rfl,o.sub⟩
theorem Hp9 (c k:Nat) (F:Fr) (X:CX) (ok:FrOk F):Ct B0 Ag5 [P0 c] [cmC c k F X] fun v own=>v=.tuple ⟨[int (Ej7 X).1.1,.bool ((Ej7 X).1.2==1)]⟩∧own [cmC c k F (Ej7 X).2]:=by
 refine Ct.of Dp5 rfl fun h r=>Tr.eq (Dp7 ..) ?_;refine Je ?_
 (refine Ja ?_;unhygienic intros)
 refine Yc (H80 c k F X ⟨5,0⟩ ok rfl) ?_;rintro _ h ⟨rfl,o⟩<;>(refine Jf o ?_;unhygienic intros)
 refine Ys fun o=>?_
 exact ⟨rfl,o.sub⟩
theorem Dn9 (f:FileS):(Ah7 f).length=8:=rfl
theorem Dy9 (c k:Nat) (F:Fr) (X:CX) (ok:FrOk F) (i:Int) (p:ProcS):Ct B0 N6 [P0 c,int i,.agg ⟨D4 p⟩] [cmC c k F X] fun v own=>v=.bool (Bf5 X i p).1∧own [cmC c k F (Bf5 X i p).2]:=by
 refine Ct.of Di1 rfl fun h r=>Tr.eq (Df5 ..) ?_;refine Je ?_
 (refine Ja ?_;unhygienic intros)
 refine Yc (Gb7 p) ?_
 rintro v h (⟨hk,a,rfl,o⟩|⟨hk,rfl,o⟩)
 ·refine (?_:Tr _ _ _ _) o
  refine Je ?_
  (refine Ja ?_;unhygienic intros)
  refine Yc (E55 i) ?_;rintro _ h ⟨rfl,o⟩<;>(refine Jf o ?_;unhygienic intros)
  have J:=Bu7 c k F X ⟨1,i⟩ ok (Au0 p) true a 24 (fun _=>D96 p)
  rw [D96] at J
  refine Yc (J) ?_;rintro _ h ⟨rfl,o⟩<;>(refine Jf o ?_;unhygienic intros)
  refine Ys fun o=>?_
  unfold Bf5;rw [hk]
  exact ⟨rfl,o.sub⟩
 ·refine (?_:Tr _ _ _ _) o
  refine Je ?_
  (refine Ja ?_;unhygienic intros)
  refine Yc (E55 i) ?_;rintro _ h ⟨rfl,o⟩<;>(refine Jf o ?_;unhygienic intros)
  refine Yc (Ea8 c k F X ⟨1,i⟩ ok) ?_;rintro _ h ⟨rfl,o⟩<;>(refine Jf o ?_;unhygienic intros)
  refine Ys fun o=>?_
  unfold Bf5;rw [hk,D29]
  exact ⟨rfl,o.sub⟩
theorem B66 (c k:Nat) (F:Fr) (X:CX) (ok:FrOk F) (i:Int) (p:FileS):Ct B0 I9 [P0 c,int i,.agg ⟨Bj4 p⟩] [cmC c k F X] fun v own=>v=.bool (Bh6 X i p).1∧own [cmC c k F (Bh6 X i p).2]:=by
 refine Ct.of Di4 rfl fun h r=>Tr.eq (Df9 ..) ?_;refine Je ?_
 (refine Ja ?_;unhygienic intros)
 refine Yc (E64 p) ?_
 rintro v h (⟨hk,a,rfl,o⟩|⟨hk,rfl,o⟩)
 ·refine (?_:Tr _ _ _ _) o
  refine Je ?_
  (refine Ja ?_;unhygienic intros)
  refine Yc (D42 i) ?_;rintro _ h ⟨rfl,o⟩<;>(refine Jf o ?_;unhygienic intros)
  have J:=Bu7 c k F X ⟨2,i⟩ ok (Ah7 p) true a 8 (fun _=>Dn9 p)
  rw [Dn9] at J
  refine Yc (J) ?_;rintro _ h ⟨rfl,o⟩<;>(refine Jf o ?_;unhygienic intros)
  refine Ys fun o=>?_
  unfold Bh6;rw [hk]
  exact ⟨rfl,o.sub⟩
 ·refine (?_:Tr _ _ _ _) o
  refine Je ?_
  (refine Ja ?_;unhygienic intros)
  refine Yc (D42 i) ?_;rintro _ h ⟨rfl,o⟩<;>(refine Jf o ?_;unhygienic intros)
  refine Yc (Ea8 c k F X ⟨2,i⟩ ok) ?_;rintro _ h ⟨rfl,o⟩<;>(refine Jf o ?_;unhygienic intros)
  refine Ys fun o=>?_
  unfold Bh6;rw [hk,D29]
  exact ⟨rfl,o.sub⟩
theorem Ew4 (c k:Nat) (F:Fr) (X:CX) (ok:FrOk F) (i:Int) (p:PipeS):Ct B0 R0 [P0 c,int i,.agg ⟨L8 p⟩] [cmC c k F X] fun v own=>v=.bool (Bq1 X i p).1∧own [cmC c k F (Bq1 X i p).2]:=by
 refine Ct.of De8 rfl fun h r=>Tr.eq (Dh2 ..) ?_;refine Je ?_
 (refine Ja ?_;unhygienic intros)
 refine Yc (Ga2 p) ?_
 rintro v h (⟨hk,a,rfl,o⟩|⟨hk,rfl,o⟩)
 ·refine (?_:Tr _ _ _ _) o
  refine Je ?_
  (refine Ja ?_;unhygienic intros)
  refine Yc (D76 i) ?_;rintro _ h ⟨rfl,o⟩<;>(refine Jf o ?_;unhygienic intros)
  have J:=Bu7 c k F X ⟨3,i⟩ ok (I6 p) true a 40 (fun _=>Bt1 p.len)
  rw [Bt1 p.len] at J
  refine Yc (J) ?_;rintro _ h ⟨rfl,o⟩<;>(refine Jf o ?_;unhygienic intros)
  refine Ys fun o=>?_
  unfold Bq1;rw [hk]
  exact ⟨rfl,o.sub⟩
 ·refine (?_:Tr _ _ _ _) o
  refine Je ?_
  (refine Ja ?_;unhygienic intros)
  refine Yc (D76 i) ?_;rintro _ h ⟨rfl,o⟩<;>(refine Jf o ?_;unhygienic intros)
  refine Yc (Ea8 c k F X ⟨3,i⟩ ok) ?_;rintro _ h ⟨rfl,o⟩<;>(refine Jf o ?_;unhygienic intros)
  refine Ys fun o=>?_
  unfold Bq1;rw [hk,D29]
  exact ⟨rfl,o.sub⟩
theorem G40 (c k:Nat) (F:Fr) (X:CX) (ok:FrOk F) (i:Int):Ct B0 Z9 [P0 c,int i] [cmC c k F X] fun v own=>v=.bool (B61 X ⟨2,i⟩).1∧own [cmC c k F (B61 X ⟨2,i⟩).2]:=by
 refine Ct.of Db6 rfl fun h r=>Tr.eq (Dc7 ..) ?_;refine Je ?_
 refine Yc (D42 i) ?_;rintro _ h ⟨rfl,o⟩<;>(refine Jf o ?_;unhygienic intros)
 refine Yc (Gn0 c k F X ⟨2,i⟩ ok) ?_;rintro _ h ⟨rfl,o⟩<;>(refine Jf o ?_;unhygienic intros)
 refine Ys fun o=>?_
 exact ⟨rfl,o.sub⟩
theorem Gz9 (c k:Nat) (F:Fr) (X:CX) (ok:FrOk F) (i:Int):Ct B0 Aa1 [P0 c,int i] [cmC c k F X] fun v own=>v=.bool (B61 X ⟨3,i⟩).1∧own [cmC c k F (B61 X ⟨3,i⟩).2]:=by
 refine Ct.of Dc8 rfl fun h r=>Tr.eq (Dc1 ..) ?_;refine Je ?_
 refine Yc (D76 i) ?_;rintro _ h ⟨rfl,o⟩<;>(refine Jf o ?_;unhygienic intros)
 refine Yc (Gn0 c k F X ⟨3,i⟩ ok) ?_;rintro _ h ⟨rfl,o⟩<;>(refine Jf o ?_;unhygienic intros)
 refine Ys fun o=>?_
 exact ⟨rfl,o.sub⟩
def Dh5 (f:CX→Int→CX):Nat→Int→CX→CX
 | 0,_,X=>X
 | m+1,i,X=>Dh5 f m (i+1) (f X i)
def Gc4 (X:CX):CX:=(Ej7 (Eq9 X).2).2
def G18 (nc:Nat) (X:CX):CX:=Gc4 (Dh5 (fun X i=>(Dg0 X i).2) (3+nc) 0 X)
def Gz7 (nc:Nat) (X:CX):CX:=G18 nc (Dh5 (fun X i=>(D58 X i).2) 12 0 X)
def lookN (nc:Nat) (X:CX):CX:=Gz7 nc (Dh5 (fun X i=>(D75 X i).2) 8 0 X)
def E94 (X:CX):CX:=lookN X.m.length X
theorem Hm7 (c k:Nat) (F:Fr) (ok:FrOk F):∀ (m:Nat) (i:Int) (X:CX),0≤i→i+m=3+F.caps.length →
  CtJ G6 B8 Ab9 [(0,P0 c),(20,int (3+F.caps.length)),(21,int i)] [cmC c k F X] fun v own=>v=.tuple ⟨[]⟩∧own [cmC c k F (Gc4 (Dh5 (fun X i=>(Dg0 X i).2) m i X))]:=by
 have hs:=ok.small
 intro m
 induction m with
 | zero =>
  intro i X h0 hi
  refine CtJ.of N1 fun h r=>Tr.eq (Bc8 ..) ?_;refine Je ?_
  refine Yf (by simp;omega) ?_
  refine Yc (Hz5 c k F X ok) ?_;rintro _ h ⟨rfl,o⟩<;>(refine Jf o ?_;unhygienic intros)
  refine Yc (Hp9 c k F (Eq9 X).2 ok) ?_;rintro _ h ⟨rfl,o⟩<;>(refine Jf o ?_;unhygienic intros)
  refine Ys fun o=>?_
  exact ⟨rfl,o⟩
 | succ m ih =>
  intro i X h0 hi
  have e1:IntKind.wrap .i64 (i+1)=i+1:=by rw [A9];omega
  refine CtJ.of N1 fun h r=>Tr.eq (Bc8 ..) ?_;refine Je ?_
  refine Yt (by simp;omega) ?_
  refine Yc (E58 c k F X ok i) ?_;rintro _ h ⟨rfl,o⟩<;>(refine Jf o ?_;unhygienic intros)
  rw [e1]
  refine Yr (ih (i+1) (Dg0 X i).2 (by omega) (by omega)) ?_
  rintro _ h ⟨rfl,o⟩
  exact ⟨rfl,o⟩
theorem Hg0 (c k:Nat) (F:Fr) (ok:FrOk F):∀ (m:Nat) (i:Int) (X:CX),0≤i→i+m=12 →
  CtJ G6 B8 Ab6 [(0,P0 c),(12,int i)] [cmC c k F X] fun v own=>v=.tuple ⟨[]⟩∧own [cmC c k F (G18 F.caps.length (Dh5 (fun X i=>(D58 X i).2) m i X))]:=by
 have hs:=ok.small
 intro m
 induction m with
 | zero =>
  intro i X h0 hi
  refine CtJ.of N1 fun h r=>Tr.eq (Bc4 ..) ?_;refine Je ?_
  refine Yf (by simp;omega) ?_
  refine B4 (cmC c k F X) fun u=>?_;refine Je ?_
  refine Tr.pcall (Gs9 c k F.env F.caps X.bad 3 ok.small) ?_;refine Je ?_;(refine Ja ?_;unhygienic intros)
  refine B2 (cmC c k F X) () ?_;refine Je ?_
  refine Yr (Hm7 c k F ok (3+F.caps.length) 0 X (by omega) (by omega)) ?_
  rintro _ h ⟨rfl,o⟩
  exact ⟨rfl,o⟩
 | succ m ih =>
  intro i X h0 hi
  have e1:IntKind.wrap .i64 (i+1)=i+1:=by rw [A9];omega
  refine CtJ.of N1 fun h r=>Tr.eq (Bc4 ..) ?_;refine Je ?_
  refine Yt (by simp;omega) ?_
  refine Yc (B53 c k F X ok i) ?_;rintro _ h ⟨rfl,o⟩<;>(refine Jf o ?_;unhygienic intros)
  rw [e1]
  refine Yr (ih (i+1) (D58 X i).2 (by omega) (by omega)) ?_
  rintro _ h ⟨rfl,o⟩
  exact ⟨rfl,o⟩
theorem Hm5 (c k:Nat) (F:Fr) (ok:FrOk F):∀ (m:Nat) (i:Int) (X:CX),0≤i→i+m=8 →
  CtJ G6 B8 Ab8 [(0,P0 c),(5,int i)] [cmC c k F X] fun v own=>v=.tuple ⟨[]⟩∧own [cmC c k F (Gz7 F.caps.length (Dh5 (fun X i=>(D75 X i).2) m i X))]:=by
 intro m
 induction m with
 | zero =>
  intro i X h0 hi
  refine CtJ.of N1 fun h r=>Tr.eq (Bc7 ..) ?_;refine Je ?_
  refine Yf (by simp;omega) ?_
  refine Yr (Hg0 c k F ok 12 0 X (by omega) (by omega)) ?_
  rintro _ h ⟨rfl,o⟩
  exact ⟨rfl,o⟩
 | succ m ih =>
  intro i X h0 hi
  have e1:IntKind.wrap .i64 (i+1)=i+1:=by rw [A9];omega
  refine CtJ.of N1 fun h r=>Tr.eq (Bc7 ..) ?_;refine Je ?_
  refine Yt (by simp;omega) ?_
  refine Yc (E05 c k F X ok i) ?_;rintro _ h ⟨rfl,o⟩<;>(refine Jf o ?_;unhygienic intros)
  rw [e1]
  refine Yr (ih (i+1) (D75 X i).2 (by omega) (by omega)) ?_
  rintro _ h ⟨rfl,o⟩
  exact ⟨rfl,o⟩
theorem He5 (c k:Nat) (F:Fr) (X:CX) (ok:FrOk F):Ct B0 B8 [P0 c] [cmC c k F X] fun v own=>v=.tuple ⟨[]⟩∧own [cmC c k F (E94 X)]:=by
 refine Ct.of N1 rfl fun h r=>Tr.eq (Dy2 ..) ?_;refine Je ?_
 intro o
 obtain ⟨u,o1⟩:=Own.unfold (cmC c k F X) o
 have f:=(Own.front o1 (i:=2) rfl).pure
 have e:E94 X=lookN F.caps.length X:=by unfold E94;rw [f.mlen ok]
 rw [e]
 refine (?_:Tr _ _ _ _) o
 refine Yr (Hm5 c k F ok 8 0 X (by omega) (by omega)) ?_
 rintro _ h ⟨rfl,o⟩
 exact ⟨rfl,o⟩
end Go.EQ
