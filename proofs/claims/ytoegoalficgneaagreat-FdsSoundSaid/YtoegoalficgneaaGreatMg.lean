/- Honest calls on descriptors, and of processes, keep sound commons sound; no conditions. -/
import Derived.Test.YtoegoalficgneaaGreatMf
set_option linter.all false
set_option maxRecDepth 10000
namespace Go.EQ
open Go Go.NN
theorem Ad2 (l:List UInt8):(A0 l).length=l.length:=by simp [A0]
theorem Ew9 {l:List UInt8} {i:Nat} {x:UInt8} (h:l[i]?=some x):(A0 l)[i]?=some (.int .u8 x.toNat):=by
 unfold A0;rw [List.getElem?_map,h];rfl
def Ez4 (n:Int) (l:List UInt8):Int:=l.foldl (fun n c=>IntKind.wrap .u8 (n+c.toNat)) n
def Hk3 (l:List UInt8):Int:=Ez4 (IntKind.wrap .u8 l.length) l
theorem I43 (p:HP) (a:Option Addr) (ro:Bool) (n c d:Nat) (l:List UInt8) [ks:IsSl p a ro A3 1 n c (A0 l)] (x:Nat) (hx:x≤l.length) (hl:l.length≤A7):∀ (m i:Nat) (acc:Int),x-i=m→i≤x →
  Ad3 D8 Ai9 B37 [(3,.int .u8 acc),(9,.slice a x d),(10,int x),(11,int i)] [p] (.int .u8 (Ez4 acc ((l.take x).drop i))):=by
 intro m
 induction m with
 | zero =>
  intro i acc hm hi
  refine Ad3.of Er3 fun h r=>Tr.eq (Ev2 ..) ?_;refine Je ?_
  refine Yf (by simp;omega) ?_
  refine Ys fun o=>?_
  rw [List.drop_eq_nil_of_le (by simp;omega)];exact ⟨rfl,rfl⟩
 | succ m ih =>
  intro i acc hm hi
  have hlt:i<(l.take x).length:=by rw [List.length_take];omega
  have hp:l[i]?=some (l.take x)[i]:=by
   rw [List.getElem_take];exact List.getElem?_eq_getElem (by omega)
  have hd:(l.take x).drop i=(l.take x)[i]::(l.take x).drop (i+1):=List.drop_eq_getElem_cons hlt
  generalize (l.take x)[i]=y at hp hd
  have e1:IntKind.wrap .i64 ((i:Int)+1)=((i+1:Nat):Int):=by rw [B3];simp only [A7] at hl;omega
  refine Ad3.of Er3 fun h r=>Tr.eq (Ev2 ..) ?_;refine Je ?_
  refine Yt (by simp;omega) ?_
  refine U1 0 rfl fun h1 h2 h3=>?_
  rw [Ad2] at h1
  (refine Ja ?_;intros;repeat(refine Gw ?_;rintro px rfl;refine Ja ?_;intros))
  refine Tr.xIntS (v:=y.toNat) (by simpa using Ew9 hp) ?_
  rw [e1,hd]
  exact Ah1 (ih (i+1) _ (by omega) (by omega)) (r:=r) (by simp) fun o=>⟨rfl,rfl⟩
theorem Hd7 (p:HP) (a:Option Addr) (ro:Bool) (n c d:Nat) (l:List UInt8) [ks:IsSl p a ro A3 1 n c (A0 l)] (x:Nat) (hx:x≤l.length) (hl:l.length≤A7) :
  CtP A5 Ai9 [.slice a x d] [p] (.int .u8 (Hk3 (l.take x))):=by
 refine CtP.of Er3 rfl fun h r=>Tr.eq (Ih7 ..) ?_;refine Je ?_
 have e:(l.take x).length=x:=by rw [List.length_take];omega
 have J:=I43 p a ro n c d l x hx hl _ 0 (IntKind.wrap .u8 x) rfl (by omega)
 rw [List.drop_zero] at J
 refine Ah1 J (r:=r) (by simp) fun o=>⟨?_,rfl⟩
 unfold Hk3;rw [e]
def Eo3:Nat→List UInt8→Int
 | _,[]=>-1
 | i,x::l=>if x≠0 then i else Eo3 (i+1) l
theorem Hp9:∀ (l:List UInt8) (i:Nat),decide (Eo3 i l≥0)=!l.all (·==0)
 | [],i=>by simp [Eo3]
 | x::l,i=>by
  unfold Eo3
  by_cases h:x=0
  ·rw [if_neg (by simp [h]),Hp9 l (i+1)];simp [h]
  ·rw [if_pos h];simp [h]
theorem J04 (x:UInt8):CtP A5 Ap3 [.int .u8 x.toNat] [] (.bool (x != 0)):=by
 refine CtP.of Hb3 rfl fun h r=>Tr.eq (Hi2 ..) ?_;refine Je ?_
 refine Ys fun o=>?_
 refine ⟨?_,rfl⟩
 congr 1
 have:((x.toNat:Int)=0)↔x=0:=by
  constructor
  ·intro h;exact UInt8.toNat.inj (by simpa using (show x.toNat=0 by omega))
  ·rintro rfl;rfl
 by_cases h:x=0
 ·subst h;rfl
 ·rw [bne_iff_ne.2 h,bne_iff_ne];intro h2;exact h (this.1 h2)
theorem G91 (p:HP) (a:Option Addr) (ro:Bool) (c:Nat) (l:List UInt8) [ks:IsSl p a ro A3 1 l.length c (A0 l)] (hl:l.length≤A7):∀ (m i:Nat),l.length-i=m→i≤l.length →
  Ad3 D8 H3 Z0 [(0,.slice a l.length c),(1,.func (.func Ap3) ⟨[]⟩ ⟨[]⟩),(7,int l.length),(8,int i)] [p] (int (Eo3 i (l.drop i))):=by
 intro m
 induction m with
 | zero =>
  intro i hm hi
  refine Ad3.of An8 fun h r=>Tr.eq (A36 ..) ?_;refine Je ?_
  refine Yf (by simp;omega) ?_
  refine Ys fun o=>?_
  rw [List.drop_eq_nil_of_le (by omega)];exact ⟨rfl,rfl⟩
 | succ m ih =>
  intro i hm hi
  have hlt:i<l.length:=by omega
  have hp:l[i]?=some l[i]:=List.getElem?_eq_getElem hlt
  have hd:l.drop i=l[i]::l.drop (i+1):=List.drop_eq_getElem_cons hlt
  generalize l[i]=x at hp hd
  have e1:IntKind.wrap .i64 ((i:Int)+1)=((i+1:Nat):Int):=by rw [B3];simp only [A7] at hl;omega
  refine Ad3.of An8 fun h r=>Tr.eq (A36 ..) ?_;refine Je ?_
  refine Yt (by simp;omega) ?_
  (refine Ja ?_;intros;repeat(refine Gw ?_;rintro px rfl;refine Ja ?_;intros))
  refine Tr.xIntS (v:=x.toNat) (by simpa using Ew9 hp) ?_
  (refine Ja ?_;intros)
  refine Dh6 (J04 x) (r:=p::r) (by simp) ?_
  by_cases hx:x=0
  ·have:(x != 0)=false:=by simp [hx]
   rw [this]
   (refine Ja ?_;intros)
   rw [e1]
   refine Ah1 (ih (i+1) (by omega) (by omega)) (r:=r) (by simp) fun o=>?_
   rw [hd,Eo3,if_neg (by simp [hx])];exact ⟨by first|rfl|trivial,by first|rfl|trivial⟩
  ·have:(x != 0)=true:=by simp [hx]
   rw [this]
   (refine Ja ?_;intros)
   refine Ys fun o=>?_
   rw [hd,Eo3,if_pos hx];exact ⟨by first|rfl|trivial,by first|rfl|trivial⟩
theorem Jj9 (p:HP) (a:Option Addr) (ro:Bool) (c:Nat) (l:List UInt8) [ks:IsSl p a ro A3 1 l.length c (A0 l)] (hl:l.length≤A7) :
  CtP A5 Ay5 [.slice a l.length c] [p] (.bool (l.all (·==0))):=by
 have j:CtP A5 H3 [.slice a l.length c,.func (.func Ap3) ⟨[]⟩ ⟨[]⟩] [p] (int (Eo3 0 l)):=by
  refine CtP.of An8 rfl fun h r=>Tr.eq (Do5 ..) ?_;refine Je ?_
  exact Ah1 (G91 p a ro c l hl _ 0 rfl (by omega)) (r:=r) (by simp) fun o=>⟨rfl,rfl⟩
 have j2:CtP A5 Z1 [.slice a l.length c,.func (.func Ap3) ⟨[]⟩ ⟨[]⟩] [p] (.bool (!l.all (·==0))):=by
  refine CtP.of Da7 rfl fun h r=>Tr.eq (B85 ..) ?_;refine Je ?_
  refine Dh6 j (r:=r) (by simp) ?_
  (refine Ja ?_;intros)
  refine Ys fun o=>?_
  rw [Hp9];exact ⟨by first|rfl|trivial,by first|rfl|trivial⟩
 refine CtP.of Hw8 rfl fun h r=>Tr.eq (Hy0 ..) ?_;refine Je ?_
 refine Dh6 j2 (r:=r) (by simp) ?_
 (refine Ja ?_;intros)
 refine Ys fun o=>?_
 exact ⟨by simp,rfl⟩
theorem H57 (p q:HP) (a:Option Addr) (ro:Bool) (c:Nat) (a2:Option Addr) (ro2:Bool) (c2:Nat) (l m:List UInt8) [ks:IsSl p a ro A3 1 l.length c (A0 l)] [ks2:IsSl q a2 ro2 A3 1 m.length c2 (A0 m)] (hl:l.length≤A7) (hlm:m.length=l.length):∀ (k i:Nat),l.length-i=k→i≤l.length →
  Ad3 D8 D5 Ad7 [(0,.slice a l.length c),(1,.slice a2 m.length c2),(12,int l.length),(13,int i)] [p,q] (.bool (decide (l.drop i=m.drop i))):=by
 intro k
 induction k with
 | zero =>
  intro i hm hi
  refine Ad3.of Ay4 fun h r=>Tr.eq (Bg3 ..) ?_;refine Je ?_
  refine Yf (by simp;omega) ?_
  refine Ys fun o=>?_
  rw [List.drop_eq_nil_of_le (by omega),List.drop_eq_nil_of_le (by omega)];exact ⟨rfl,rfl⟩
 | succ k ih =>
  intro i hm hi
  have hlt:i<l.length:=by omega
  have hp:l[i]?=some l[i]:=List.getElem?_eq_getElem hlt
  have hd:l.drop i=l[i]::l.drop (i+1):=List.drop_eq_getElem_cons hlt
  have hlt2:i<m.length:=by omega
  have hp2:m[i]?=some m[i]:=List.getElem?_eq_getElem hlt2
  have hd2:m.drop i=m[i]::m.drop (i+1):=List.drop_eq_getElem_cons hlt2
  generalize l[i]=x at hp hd
  generalize m[i]=y at hp2 hd2
  have e1:IntKind.wrap .i64 ((i:Int)+1)=((i+1:Nat):Int):=by rw [B3];simp only [A7] at hl;omega
  refine Ad3.of Ay4 fun h r=>Tr.eq (Bg3 ..) ?_;refine Je ?_
  refine Yt (by simp;omega) ?_
  (refine Ja ?_;intros;repeat(refine Gw ?_;rintro px rfl;refine Ja ?_;intros))
  refine Tr.xIntS (v:=x.toNat) (by simpa using Ew9 hp) ?_
  (refine Ja ?_;intros;repeat(refine Gw ?_;rintro px rfl;refine Ja ?_;intros))
  refine Tr.xIntS (v:=y.toNat) (by simpa using Ew9 hp2) ?_
  by_cases hx:x=y
  ·subst hx
   refine Yf (by simp) ?_
   rw [e1]
   refine Ah1 (ih (i+1) (by omega) (by omega)) (r:=r) (by simp) fun o=>?_
   rw [hd,hd2];exact ⟨by simp,rfl⟩
  ·refine Yt (by rw [bne_iff_ne];intro h2;exact hx (UInt8.toNat.inj (by omega))) ?_
   refine Ys fun o=>?_
   rw [hd,hd2];exact ⟨by simp [hx],rfl⟩
theorem Gd0 (p q:HP) (a:Option Addr) (ro:Bool) (c:Nat) (a2:Option Addr) (ro2:Bool) (c2:Nat) (l m:List UInt8) [ks:IsSl p a ro A3 1 l.length c (A0 l)] [ks2:IsSl q a2 ro2 A3 1 m.length c2 (A0 m)] (hl:l.length≤A7) :
  CtP A5 D5 [.slice a l.length c,.slice a2 m.length c2] [p,q] (.bool (decide (l=m))):=by
 refine CtP.of Ay4 rfl fun h r=>Tr.eq (D43 ..) ?_;refine Je ?_
 by_cases h:m.length=l.length
 ·refine Yf (by simp [h]) ?_
  have J:=H57 p q a ro c a2 ro2 c2 l m hl h _ 0 rfl (by omega)
  simp only [List.drop_zero] at J
  exact Ah1 J (r:=r) (by simp) fun o=>⟨rfl,rfl⟩
 ·refine Yt (by rw [bne_iff_ne];omega) ?_
  refine Ys fun o=>?_
  exact ⟨by rw [decide_eq_false (fun e=>h (by rw [e]))],rfl⟩
theorem Jb6 (p:HP) (ro:Bool) (a:Option Addr) (c:Nat) (l:List UInt8) [ks:IsSl p a ro A3 1 l.length c (A0 l)] (hn:l.length≤A7) :
  Ct A5 H7 [.slice a l.length c] [p] fun v own=>∃ a' c',v=.slice a' l.length c'∧own [slC false A3 1 a' l.length c' (A0 l),p]:=by
 refine Ct.of Bt2 rfl fun h r=>Tr.eq (Br0 ..) ?_;refine Je ?_
 refine U1 0 rfl fun hl hc _=>?_
 refine Tr.cond (fun hb=>?_) fun hb=>?_
 ·obtain rfl:a=none:=by simpa using hb
  refine E6 false A3 1 (by omega) ?_
  intro o
  have o1:=(o.tail.head ks.en).slNone
  obtain rfl:l=[]:=by
   have:=o1.2.2.1
   cases l with
   | nil=>rfl
   | cons x l=>simp [A0] at this
  obtain rfl:c=0:=o1.2.1
  exact ⟨_,_,rfl,none,0,rfl,o⟩
 ·(refine Ja ?_;intros)
  refine Ai1 0 rfl 1 0 rfl (by omega) ?_;refine Je ?_
  (refine Ja ?_;intros)
  refine Tr.xApd ⟨by simp [A0],by simp [A0,Value.oneCell],by omega⟩ fun a' c' h'=>?_
  refine Je ?_
  refine Ys fun o=>⟨a',c',by simp,by simpa using o⟩
end Go.EQ
namespace Go.NN
section
variable {l:List HP} {h:H} {α:Type} {Q:α→H→Prop} {ro:Bool} {e:TypeId} {cs:List Value}
instance {f:Fn} {a c:Array Value} {k:Option α}:Dx (one (.func f a c) k) k:=⟨rfl⟩
theorem I17 {x:Option (α × H)} {p:HP} (i:Nat) {a:Option Addr} {sz n c:Nat} (hi:l[i]?=some p) [k:IsSl p a ro e sz n c cs] (hn:0<n) (t:∀ y,a=some y→Tr l h x Q):Tr l h x Q:=fun ow=>by
 obtain ⟨y,hy⟩:=((ow.front hi).head k.en).slSome hn
 exact t y hy ow
theorem Tr.xPCells {a:Option Addr} {n c sz:Nat} {vs cs':List Value} {l':List HP} {k:H→Option (α × H)} [k1:LkO l a false e sz n c cs] (hn:0<n) (hj:vs≠[]∧vs.length≤cs.length∧vs.all Value.oneCell=true∧vs++cs.drop vs.length=cs') [k2:UpO l a (slC false e sz a n c cs') e sz n c cs l'] (t:∀ h',Tr l' h' (k h') Q):Tr l h (NN.pCells a vs h k) Q:=fun ow=>by
 obtain ⟨i,p,hi,hp⟩:=k1.ix
 obtain ⟨y,rfl⟩:=((ow.front hi).head hp).slSome hn
 have:NN.pCells (Option.some y) vs h k=NN.pAgg ((A8 y).add 0) vs h k:=by
  show NN.pAgg (A8 y) vs h k=_
  congr 1
 rw [this]
 exact Tr.xPAggS (k1:=k1) ⟨hj.1,by omega,hj.2.2.1,by simpa using hj.2.2.2⟩ (k2:=k2) t ow
end
end Go.NN

set_option maxRecDepth 10000
namespace Go.EQ
open Go Go.NN
def b8 (x:Int):UInt8:=UInt8.ofNat (x%256).toNat
theorem D98 (x:Int):IntKind.wrap .u8 x=x%256:=Ji7 x
theorem B26 (x:Int):IntKind.wrap .u8 x=((b8 x).toNat:Int):=by
 rw [D98,b8,UInt8.toNat_ofNat']
 omega
def Dg4 (l:List UInt8):UInt8:=b8 (Hk3 l)
theorem H41:∀ (l:List UInt8) (n:Int),0≤n∧n<256→0≤Ez4 n l∧Ez4 n l<256
 | [],n,h=>h
 | x::l,n,h=>H41 l _ (by show 0≤IntKind.wrap .u8 (n+x.toNat)∧IntKind.wrap .u8 (n+x.toNat)<256;rw [D98];omega)
theorem Ei9 (l:List UInt8):Hk3 l=((Dg4 l).toNat:Int):=by
 have:=H41 l (IntKind.wrap .u8 l.length) (by rw [D98];omega)
 unfold Dg4
 rw [← B26,D98]
 unfold Hk3 at *;omega
structure FileS where
 kind:Int
 pipe:Int
 refs:Int
 flags:Int
abbrev FileS.zero:FileS:=⟨0,0,0,0⟩
abbrev Ab1 (f:FileS):List Value:=[int f.kind,int f.pipe,int f.refs,int f.flags]
def okF (f:FileS):Bool:=decide (f.kind≥1) && decide (f.kind≤3) && decide (f.pipe≥0) && decide (f.pipe≤7) && (f.kind != 3 || f.pipe==0) && decide (f.refs≥1) && decide (f.refs≤64) && (f.flags==0 || f.flags==1)
def Bo8 (f:FileS):List UInt8:=[b8 f.kind,b8 f.pipe,b8 f.refs,b8 f.flags,179]
def As8 (f:FileS):List UInt8:=Bo8 f++[Dg4 (Bo8 f),0,0]
theorem Jx6 (f:FileS):Ct A5 D95 [.agg ⟨Ab1 f⟩] [] fun v own=>v=.bool (okF f)∧own []:=by
 refine Ct.of Iu2 rfl fun h r=>Tr.eq (Iy1 ..) ?_;refine Je ?_
 (refine Ja ?_;intros)
 refine Ys fun o=>?_
 refine ⟨?_,o.sub⟩
 rfl
theorem Js8 (a:Option Addr) (c:Nat) (f:FileS):Ct A5 A42 [.agg ⟨Ab1 f⟩,.slice a 8 c] [slC false A3 1 a 8 c (A0 (List.replicate 8 0))] fun v own=>v=.bool (okF f)∧own [slC false A3 1 a 8 c (A0 (if okF f then As8 f else List.replicate 8 0))]:=by
 refine Ct.of If9 rfl fun h r=>Tr.eq (Ig6 ..) ?_;refine Je ?_
 (refine Ja ?_;intros)
 refine Yc (Jx6 f) ?_;rintro _ h ⟨rfl,o⟩<;>(refine Jf o ?_;intros)
 cases hk:okF f with
 | false =>
  (refine Ja ?_;intros)
  refine Ys fun o=>?_
  rw [if_neg (by simp)]
  exact ⟨rfl,o.sub⟩
 | true =>
  (refine Ja ?_;intros)
  simp only [B26,List.drop_zero,List.take]
  refine U1 2 rfl fun hl hc _=>?_
  refine Tr.xPCells (cs':=A0 (Bo8 f++[0,0,0])) (by omega) ⟨by simp,by simp [A0],by simp [Value.oneCell],rfl⟩ fun h=>?_
  (refine Ja ?_;intros)
  refine Tr.pcall (Hd7 (slC false A3 1 a 8 c (A0 (Bo8 f++[0,0,0]))) a false 8 c c (Bo8 f++[0,0,0]) 5 (by simp [Bo8]) (by simp [Bo8,A7])) ?_
  refine Je ?_
  (refine Ja ?_;intros;repeat(refine Gw ?_;rintro px rfl;refine Ja ?_;intros))
  rw [show List.take 5 (Bo8 f++[0,0,0]:List UInt8)=Bo8 f from rfl,Ei9]
  refine Tr.xVS (cs':=A0 (As8 f)) ⟨by simp [A0,Bo8],rfl,rfl⟩ fun h=>?_
  refine Ys fun o=>?_
  simp only [if_true]
  exact ⟨trivial,o.sub⟩
theorem Em3 {l:List Value} (h:l.all (fun v=>match v with|.int _ _=>true|_=>false)=true):Ax5 (.agg ⟨l⟩) (.agg ⟨l⟩)=true:=by
 show Db1 l l=true
 induction l with
 | nil=>rfl
 | cons v l ih =>
  simp only [List.all_cons,Bool.and_eq_true] at h
  show (Ay0 v v && Db1 l l)=true
  rw [ih h.2,Bool.and_true]
  cases v<;>first|(simp [Ay0];done)|exact absurd h.1 (by simp)
abbrev H83 (k:Nat):HP:=pt k (.cells Av4 false [int 8,.func (.func A42) ⟨[]⟩ ⟨[]⟩,.func (.func A37) ⟨[]⟩ ⟨[]⟩])
theorem Ij5 (k:Nat) (f:FileS):Ct A5 Ae1 [P0 k,.agg ⟨Ab1 f⟩] [H83 k] fun v own=>(okF f=true∧∃ a,v=.tuple ⟨[.slice a 8 8,.bool true]⟩∧own [H83 k,slC false A3 1 a 8 8 (A0 (As8 f))])∨(okF f=false∧v=.tuple ⟨[.slice none 0 0,.bool false]⟩∧own [H83 k]):=by
 refine Ct.of Dr0 rfl fun h r=>Tr.eq (Dq5 ..) ?_;refine Je ?_
 (refine Ja ?_;intros)
 refine Tr.ck ⟨by omega,by omega,by simp [A7]⟩ ?_
 refine Yn fun b1 h=>?_
 rw [show I7 (Int.toNat 8) [.int .u8 0]=A0 (List.replicate 8 0) from rfl]
 refine Ai1 0 rfl 1 8 rfl (by omega) ?_
 simp only [List.set_cons_zero]
 refine Je ?_
 (refine Jb ?_;intros)
 refine Yb (Yf rfl ?_)
 (refine Jb ?_;intros)
 refine Yc (Js8 (some ⟨b1,0,none⟩) 8 f) ?_;rintro _ h ⟨rfl,o⟩<;>(refine Jg o ?_;intros)
 refine Ys fun o=>(?_:Tr _ _ _ _) o;refine Je ?_
 cases hk:okF f with
 | false =>
  (refine Ja ?_;intros)
  refine Ys fun o=>?_
  exact .inr ⟨rfl,rfl,o.sub⟩
 | true =>
  (refine Ja ?_;intros)
  refine Ys fun o=>?_
  simp only [if_true] at o
  exact .inl ⟨rfl,_,rfl,o.sub⟩
theorem Js4:Ct A5 A13 [int 8,.func (.func A42) ⟨[]⟩ ⟨[]⟩,.func (.func A37) ⟨[]⟩ ⟨[]⟩] [] fun v own=>∃ k,v=P0 k∧own [pt k (.cells Av4 false [int 8,.func (.func A42) ⟨[]⟩ ⟨[]⟩,.func (.func A37) ⟨[]⟩ ⟨[]⟩])]:=by
 refine Ct.of E38 rfl fun h r=>Tr.eq (E18 ..) ?_;refine Je ?_
 rw [show mm2 false (mm2 true 8 0) 64=8 from rfl]
 (refine Ja ?_;intros)
 refine Ys fun o=>?_
 exact ⟨_,rfl,o.sub⟩
theorem Hq4:Ct A5 Bs1 [] [] fun v own=>∃ k,v=P0 k∧own [pt k (.cells Av4 false [int 8,.func (.func A42) ⟨[]⟩ ⟨[]⟩,.func (.func A37) ⟨[]⟩ ⟨[]⟩])]:=by
 refine Ct.of Hz1 rfl fun h r=>Tr.eq (Hx7 ..) ?_;refine Je ?_
 refine Yc (Js4) ?_;rintro _ h ⟨k,rfl,o⟩<;>(refine Jf o ?_;intros)
 refine Ys fun o=>?_
 exact ⟨_,rfl,o.sub⟩
theorem Ha6 (f:FileS):Ct A5 Bk6 [.agg ⟨Ab1 f⟩] [] fun v own=>(okF f=true∧∃ a,v=.tuple ⟨[.slice a 8 8,.bool true]⟩∧own [slC false A3 1 a 8 8 (A0 (As8 f))])∨(okF f=false∧v=.tuple ⟨[.slice none 0 0,.bool false]⟩∧own []):=by
 refine Ct.of Hj7 rfl fun h r=>Tr.eq (Hm1 ..) ?_;refine Je ?_
 (refine Ja ?_;intros)
 refine Yc (Hq4) ?_;rintro _ h ⟨k,rfl,o⟩<;>(refine Jf o ?_;intros)
 refine Tr.same (Em3 rfl) ?_
 refine Yc (Ij5 k f) ?_
 rintro v h (⟨hk,a,rfl,o⟩|⟨hk,rfl,o⟩)
 ·refine (?_:Tr _ _ _ _) o
  refine Je ?_
  (refine Ja ?_;intros)
  refine Ys fun o=>?_
  exact .inl ⟨hk,a,rfl,o.sub⟩
 ·refine (?_:Tr _ _ _ _) o
  refine Je ?_
  (refine Ja ?_;intros)
  refine Ys fun o=>?_
  exact .inr ⟨hk,rfl,o.sub⟩
theorem Al9 {l:List UInt8} {i:Nat} (h:i<l.length):(A0 l)[i]?=some (.int .u8 ((l.getD i 0).toNat:Int)):=by
 rw [List.getD_eq_getElem?_getD,List.getElem?_eq_getElem h];exact Ew9 (List.getElem?_eq_getElem h)
theorem Az5 (x:UInt8):IntKind.wrap .i64 (x.toNat:Int)=(x.toNat:Int):=by
 have:=x.toNat_lt;rw [B3];omega
abbrev byI (l:List UInt8) (i:Nat):Int:=((l.getD i 0).toNat:Int)
def Dv6 (l:List UInt8):FileS:=⟨byI l 0,byI l 1,byI l 2,byI l 3⟩
def isF (l:List UInt8):Bool:=okF (Dv6 l) && decide (As8 (Dv6 l)=l)
theorem Jr7 (a:Option Addr) (c:Nat) (l:List UInt8) (hl:l.length=8):Ct A5 A37 [.slice a 8 c] [slC false A3 1 a 8 c (A0 l)] fun v own=>v=.tuple ⟨[.agg ⟨Ab1 (Dv6 l)⟩,.bool (isF l)]⟩∧own [slC false A3 1 a 8 c (A0 l)]:=by
 have key:∀ a1:Option Addr,CtP A5 D5 [.slice a1 8 8,.slice a 8 c] [slC false A3 1 a1 8 8 (A0 (As8 (Dv6 l))),slC false A3 1 a 8 c (A0 l)] (.bool (decide (As8 (Dv6 l)=l))):=fun a1=>by
  have J:=Gd0 (slC false A3 1 a1 8 8 (A0 (As8 (Dv6 l)))) (slC false A3 1 a l.length c (A0 l)) a1 false 8 a false c (As8 (Dv6 l)) l (by simp [As8,Bo8,A7])
  rwa [hl,show (As8 (Dv6 l)).length=8 from rfl] at J
 refine Ct.of Ij0 rfl fun h r=>Tr.eq (Ig1 ..) ?_;refine Je ?_
 refine Yn fun b1 h=>?_
 (refine Ja ?_;intros;repeat(refine Gw ?_;rintro px rfl;refine Ja ?_;intros))
 refine Tr.xIntS (v:=byI l 0) (Al9 (by omega)) ?_
 (refine Ja ?_;intros)
 refine Tr.xIntS (v:=byI l 1) (Al9 (by omega)) ?_
 (refine Ja ?_;intros)
 refine Tr.xIntS (v:=byI l 2) (Al9 (by omega)) ?_
 (refine Ja ?_;intros)
 refine Tr.xIntS (v:=byI l 3) (Al9 (by omega)) ?_
 simp only [byI,Az5]
 refine Yn fun b2 h=>?_
 (refine Jb ?_;intros)
 refine Yc (Ha6 (Dv6 l)) ?_
 rintro v h (⟨hk,a1,rfl,o⟩|⟨hk,rfl,o⟩)
 ·refine (?_:Tr _ _ _ _) o
  refine Je ?_
  (refine Jb ?_;intros)
  refine Yb (Yt rfl ?_)
  refine Tr.pcall (key a1) ?_;refine Je ?_;(refine Jb ?_;intros)
  refine Tr.same (Em3 rfl) ?_
  refine Ys fun o=>(?_:Tr _ _ _ _) o;refine Je ?_
  (refine Ja ?_;intros)
  refine Ys fun o=>?_
  exact ⟨by unfold isF;rw [hk,Bool.true_and];rfl,o.sub⟩
 ·refine (?_:Tr _ _ _ _) o
  refine Je ?_
  (refine Ja ?_;intros)
  refine Ys fun o=>?_
  exact ⟨by unfold isF;rw [hk];rfl,o.sub⟩
theorem E32 (n:Nat) (pb:HP) (ro:Bool) (a:Option Addr) (c:Nat) (l:List UInt8) (hl:l.length=n) (hn:n≤A7) [ks:IsSl pb a ro A3 1 n c (A0 l)]:Ct A5 H7 [.slice a n c] [pb] fun v own=>∃ a' c',v=.slice a' n c'∧own [slC false A3 1 a' n c' (A0 l),pb]:=by
 subst hl;exact Jb6 pb ro a c l hn
theorem E75 (n:Nat) (pb:HP) (ro:Bool) (a:Option Addr) (c:Nat) (l:List UInt8) (hl:l.length=n) (hn:n≤A7) [ks:IsSl pb a ro A3 1 n c (A0 l)]:CtP A5 Ay5 [.slice a n c] [pb] (.bool (l.all (·==0))):=by
 subst hl;exact Jj9 pb a ro c l hn
theorem Ic9 (k:Nat) (pb:HP) (ro:Bool) (a:Option Addr) (c:Nat) (l:List UInt8) (hl:l.length=8) [ks:IsSl pb a ro A3 1 8 c (A0 l)]:Ct A5 Ae0 [P0 k,.slice a 8 c] [H83 k,pb] fun v own=>v=.tuple ⟨[.agg ⟨Ab1 (if isF l then Dv6 l else .zero)⟩,.bool (isF l)]⟩∧own [H83 k,pb]:=by
 refine Ct.of Dr2 rfl fun h r=>Tr.eq (Dq8 ..) ?_;refine Je ?_
 (refine Ja ?_;intros)
 refine Yf rfl ?_
 (refine Jb ?_;intros)
 refine Yc (E32 8 pb ro a c l hl (by simp [A7])) ?_;rintro _ h ⟨a1,c1,rfl,o⟩<;>(refine Jg o ?_;intros)
 refine Yc (Jr7 a1 c1 l hl) ?_;rintro _ h ⟨rfl,o⟩<;>(refine Jg o ?_;intros)
 cases hk:isF l with
 | false =>
  (refine Ja ?_;intros)
  refine Ys fun o=>?_
  exact ⟨rfl,o.sub⟩
 | true =>
  (refine Ja ?_;intros)
  refine Ys fun o=>?_
  exact ⟨rfl,o.sub⟩
def P6 (l:List UInt8):FileS × Int:=if l.all (·==0) then (.zero,0) else if isF l then (Dv6 l,1) else (.zero,2)
theorem Gy4 (pb:HP) (ro:Bool) (a:Option Addr) (c:Nat) (l:List UInt8) (hl:l.length=8) [ks:IsSl pb a ro A3 1 8 c (A0 l)]:Ct A5 Ag1 [.slice a 8 c] [pb] fun v own=>v=.tuple ⟨[.agg ⟨Ab1 (P6 l).1⟩,int (P6 l).2]⟩∧own [pb]:=by
 refine Ct.of Hn8 rfl fun h r=>Tr.eq (Ho1 ..) ?_;refine Je ?_
 refine Yn fun b1 h=>?_
 refine Yb (Yt rfl ?_)
 refine Tr.pcall (E75 8 pb ro a c l hl (by simp [A7])) ?_;refine Je ?_;(refine Jb ?_;intros)
 refine Ys fun o=>(?_:Tr _ _ _ _) o;refine Je ?_
 cases hb:l.all (·==0) with
 | true =>
  (refine Ja ?_;intros)
  refine Ys fun o=>?_
  exact ⟨by unfold P6;rw [hb];rfl,o.sub⟩
 | false =>
  (refine Jb ?_;intros)
  refine Yc (Hq4) ?_;rintro _ h ⟨k,rfl,o⟩<;>(refine Jg o ?_;intros)
  refine Yc (Ic9 k pb ro a c l hl) ?_;rintro _ h ⟨rfl,o⟩<;>(refine Jg o ?_;intros)
  cases hk:isF l with
  | false =>
   (refine Ja ?_;intros)
   refine Ys fun o=>?_
   exact ⟨by unfold P6;rw [hb,hk];rfl,o.sub⟩
  | true =>
   (refine Ja ?_;intros)
   refine Ys fun o=>?_
   exact ⟨by unfold P6;rw [hb,hk];rfl,o.sub⟩
theorem Iw3 (a:Option Addr) (c:Nat) (l:List UInt8) (hl:l.length=8):Ct A5 Ag1 [.slice a 8 c] [slC false A3 1 a 8 c (A0 l)] fun v own=>v=.tuple ⟨[.agg ⟨Ab1 (P6 l).1⟩,int (P6 l).2]⟩∧own [slC false A3 1 a 8 c (A0 l)]:=Gy4 (slC false A3 1 a 8 c (A0 l)) false a c l hl
structure PipeS where
 head:Int
 count:Int
 readers:Int
 writers:Int
 data:List UInt8
 len:data.length=32
abbrev PipeS.zero:PipeS:=⟨0,0,0,0,List.replicate 32 0,rfl⟩
abbrev I6 (p:PipeS):List Value:=int p.head::int p.count::int p.readers::int p.writers::A0 p.data
theorem Bc5 {p:PipeS} (hd:p.data.length=32):(I6 p).length=36:=by simp [I6,Ad2,hd]
theorem Ir9 {p:PipeS} (hd:p.data.length=32):4+32≤(I6 p).length∧((I6 p).drop 4).take 32=A0 p.data:=⟨by rw [Bc5 hd];exact Nat.le_refl _,by
 rw [show (I6 p).drop 4=A0 p.data from rfl,List.take_of_length_le (by rw [Ad2,hd];exact Nat.le_refl _)]⟩
theorem Hs8 (p:PipeS):(I6 p).all Value.oneCell=true:=by simp [I6,Aq5,Value.oneCell]
theorem Iy6 (p:PipeS):Ax5 (.agg ⟨I6 p⟩) (.agg ⟨I6 p⟩)=true:=Em3 (by simp [I6,A0])
instance {p:PipeS}:LenC (I6 p) 36:=⟨Bc5 p.len⟩
instance {p:PipeS}:PartC (I6 p) 0 36 (I6 p):=⟨Bm3 (Bc5 p.len)⟩
instance {p:PipeS} {cs:List Value} [k:LenC cs 36]:SetsC cs 0 (I6 p) (I6 p):=⟨Dg8 k.ok (Bc5 p.len) (Hs8 p)⟩
instance {p:PipeS}:SameC (.agg ⟨I6 p⟩):=⟨Iy6 p⟩
def okP (p:PipeS):Bool:=decide (0≤p.head∧p.head≤31) && decide (0≤p.count∧p.count≤32) && decide (0≤p.readers∧p.readers≤8) && decide (0≤p.writers∧p.writers≤8)
def Ar8 (p:PipeS):List UInt8:=[1,b8 p.head,b8 p.count,b8 p.readers,b8 p.writers,197]
def O5 (p:PipeS):List UInt8:=Ar8 p++Dg4 (Ar8 p)::0::p.data
theorem De7 {p:PipeS} (hd:p.data.length=32):(O5 p).length=40:=by simp [O5,Ar8,hd]
theorem Jz0 (n m:Int):CtP A5 A38 [int n,int m] [] (.bool (decide (0≤n∧n≤m))):=by
 refine CtP.of Ih0 rfl fun h r=>Tr.eq (Im5 ..) ?_;refine Je ?_
 (refine Ja ?_;intros)
 refine Ys fun o=>?_
 refine ⟨?_,rfl⟩
 refine congrArg Value.bool ?_;rw [Bool.eq_iff_iff];simp only [Bool.and_eq_true,Bool.or_eq_true,Bool.not_eq_true',Bool.not_eq_false',decide_eq_true_eq,decide_eq_false_iff_not,bne_iff_ne,beq_iff_eq,ne_eq,B3,Af8,Ak3,ge_iff_le,gt_iff_lt];first|done|omega
instance {n m:Int} {l:List HP}:PCi A5 A38 [.int .i64 n,.int .i64 m] l (.bool (decide (0≤n∧n≤m))):=PCi.of (Jz0 n m)
theorem Jy3 (p:PipeS):Ct A5 El4 [.agg ⟨I6 p⟩] [] fun v own=>v=.bool (okP p)∧own []:=by
 refine Ct.of I25 rfl fun h r=>Tr.eq (I21 ..) ?_;refine Je ?_
 (refine Ja ?_;intros)
 refine Ys fun o=>?_
 exact ⟨rfl,o.sub⟩
theorem Jq5 (a:Option Addr) (c:Nat) (p:PipeS):Ct A5 B47 [.agg ⟨I6 p⟩,.slice a 40 c] [slC false A3 1 a 40 c (A0 (List.replicate 40 0))] fun v own=>v=.bool (okP p)∧own [slC false A3 1 a 40 c (A0 (if okP p then O5 p else List.replicate 40 0))]:=by
 have hd:=p.len
 refine Ct.of Iv4 rfl fun h r=>Tr.eq (Iu5 ..) ?_;refine Je ?_
 refine Yn fun b1 h=>?_
 (refine Ja ?_;intros)
 refine Yc (Jy3 p) ?_;rintro _ h ⟨rfl,o⟩<;>(refine Jg o ?_;intros)
 cases hk:okP p with
 | false =>
  (refine Ja ?_;intros)
  refine Ys fun o=>?_
  rw [if_neg (by simp)]
  exact ⟨rfl,o.sub⟩
 | true =>
  (refine Ja ?_;intros)
  simp only [B26,List.drop_zero,List.take]
  refine U1 2 rfl fun hl hc _=>?_
  refine Tr.xPCells (cs':=A0 (Ar8 p++List.replicate 34 0)) (by omega) ⟨by simp,by simp [A0],by simp [Value.oneCell],rfl⟩ fun h=>?_
  (refine Ja ?_;intros)
  refine Tr.pcall (Hd7 (slC false A3 1 a 40 c (A0 (Ar8 p++List.replicate 34 0))) a false 40 c c (Ar8 p++List.replicate 34 0) 6 (by simp [Ar8]) (by simp [Ar8,A7])) ?_
  refine Je ?_
  (refine Ja ?_;intros;repeat(refine Gw ?_;rintro px rfl;refine Ja ?_;intros))
  rw [show List.take 6 (Ar8 p++List.replicate 34 0:List UInt8)=Ar8 p from rfl,Ei9]
  refine Tr.xVS (cs':=A0 (Ar8 p++Dg4 (Ar8 p)::List.replicate 33 0)) ⟨by simp [A0,Ar8],rfl,rfl⟩ fun h=>?_
  (refine Ja ?_;intros)
  refine Tr.xCellsB (xs:=A0 p.data) (Ir9 p.len) ?_
  rw [Hp0 (by omega),Gj0]
  refine Tr.xPAggS (cs':=A0 (O5 p)) ⟨?_,?_,Aq5 _,?_⟩ fun h=>?_
  ·intro e;have:=congrArg List.length e;simp [A0,hd] at this
  ·simp [A0,hd,Ar8]
  ·rw [Ad2,hd]
   simp [A0,O5,Ar8]
  refine Ys fun o=>?_
  simp only [if_true]
  exact ⟨trivial,o.sub⟩
abbrev G17 (k:Nat):HP:=pt k (.cells Da0 false [int 40,.func (.func B47) ⟨[]⟩ ⟨[]⟩,.func (.func B53) ⟨[]⟩ ⟨[]⟩])
theorem Ik7 (k:Nat) (f:PipeS):Ct A5 Ad5 [P0 k,.agg ⟨I6 f⟩] [G17 k] fun v own=>(okP f=true∧∃ a,v=.tuple ⟨[.slice a 40 40,.bool true]⟩∧own [G17 k,slC false A3 1 a 40 40 (A0 (O5 f))])∨(okP f=false∧v=.tuple ⟨[.slice none 0 0,.bool false]⟩∧own [G17 k]):=by
 refine Ct.of Dr1 rfl fun h r=>Tr.eq (Dq6 ..) ?_;refine Je ?_
 (refine Ja ?_;intros)
 refine Tr.ck ⟨by omega,by omega,by simp [A7]⟩ ?_
 refine Yn fun b1 h=>?_
 rw [show I7 (Int.toNat 40) [.int .u8 0]=A0 (List.replicate 40 0) from rfl]
 refine Ai1 0 rfl 1 40 rfl (by omega) ?_
 simp only [List.set_cons_zero]
 refine Je ?_
 (refine Jb ?_;intros)
 refine Yb (Yf rfl ?_)
 (refine Jb ?_;intros)
 refine Yc (Jq5 (some ⟨b1,0,none⟩) 40 f) ?_;rintro _ h ⟨rfl,o⟩<;>(refine Jg o ?_;intros)
 refine Ys fun o=>(?_:Tr _ _ _ _) o;refine Je ?_
 cases hk:okP f with
 | false =>
  (refine Ja ?_;intros)
  refine Ys fun o=>?_
  exact .inr ⟨rfl,rfl,o.sub⟩
 | true =>
  (refine Ja ?_;intros)
  refine Ys fun o=>?_
  simp only [if_true] at o
  exact .inl ⟨rfl,_,rfl,o.sub⟩
theorem Jp3:Ct A5 A08 [int 40,.func (.func B47) ⟨[]⟩ ⟨[]⟩,.func (.func B53) ⟨[]⟩ ⟨[]⟩] [] fun v own=>∃ k,v=P0 k∧own [G17 k]:=by
 refine Ct.of Ez3 rfl fun h r=>Tr.eq (E67 ..) ?_;refine Je ?_
 rw [show mm2 false (mm2 true 40 0) 64=40 from rfl]
 (refine Ja ?_;intros)
 refine Ys fun o=>?_
 exact ⟨_,rfl,o.sub⟩
theorem Hr0:Ct A5 Bz4 [] [] fun v own=>∃ k,v=P0 k∧own [G17 k]:=by
 refine Ct.of H76 rfl fun h r=>Tr.eq (Ia3 ..) ?_;refine Je ?_
 refine Yc (Jp3) ?_;rintro _ h ⟨k,rfl,o⟩<;>(refine Jf o ?_;intros)
 refine Ys fun o=>?_
 exact ⟨_,rfl,o.sub⟩
theorem Hd5 (f:PipeS):Ct A5 Br8 [.agg ⟨I6 f⟩] [] fun v own=>(okP f=true∧∃ a,v=.tuple ⟨[.slice a 40 40,.bool true]⟩∧own [slC false A3 1 a 40 40 (A0 (O5 f))])∨(okP f=false∧v=.tuple ⟨[.slice none 0 0,.bool false]⟩∧own []):=by
 refine Ct.of Hw9 rfl fun h r=>Tr.eq (Hz0 ..) ?_;refine Je ?_
 refine Yn fun b1 h=>?_
 (refine Ja ?_;intros)
 refine Yc (Hr0) ?_;rintro _ h ⟨k,rfl,o⟩<;>(refine Jg o ?_;intros)
 (refine Ja ?_;intros)
 refine Yc (Ik7 k f) ?_
 rintro v h (⟨hk,a,rfl,o⟩|⟨hk,rfl,o⟩)
 ·refine (?_:Tr _ _ _ _) o
  refine Je ?_
  (refine Ja ?_;intros)
  refine Ys fun o=>?_
  exact .inl ⟨hk,a,rfl,o.sub⟩
 ·refine (?_:Tr _ _ _ _) o
  refine Je ?_
  (refine Ja ?_;intros)
  refine Ys fun o=>?_
  exact .inr ⟨hk,rfl,o.sub⟩
def Ej9 (l:List UInt8):List UInt8:=(l++List.replicate 32 0).take 32
theorem Ja3 (l:List UInt8):(Ej9 l).length=32:=by simp [Ej9]
theorem Ez6 {l:List UInt8} (h:l.length=32):Ej9 l=l:=by simp [Ej9,← h]
def Bu8 (l:List UInt8):PipeS:=⟨byI l 1,byI l 2,byI l 3,byI l 4,Ej9 (l.drop 8),Ja3 _⟩
def isP (l:List UInt8):Bool:=okP (Bu8 l) && decide (O5 (Bu8 l)=l)
theorem Js9 (a:Option Addr) (c:Nat) (l:List UInt8) (hl:l.length=40):Ct A5 B53 [.slice a 40 c] [slC false A3 1 a 40 c (A0 l)] fun v own=>v=.tuple ⟨[.agg ⟨I6 (Bu8 l)⟩,.bool (isP l)]⟩∧own [slC false A3 1 a 40 c (A0 l)]:=by
 have hd:=(Bu8 l).len
 have hp:Ej9 (l.drop 8)=l.drop 8:=Ez6 (by simp [hl])
 have key:∀ a1:Option Addr,CtP A5 D5 [.slice a1 40 40,.slice a 40 c] [slC false A3 1 a1 40 40 (A0 (O5 (Bu8 l))),slC false A3 1 a 40 c (A0 l)] (.bool (decide (O5 (Bu8 l)=l))):=fun a1=>by
  have e:=De7 hd
  have J:=Gd0 (slC false A3 1 a1 (O5 (Bu8 l)).length 40 (A0 (O5 (Bu8 l)))) (slC false A3 1 a l.length c (A0 l)) a1 false 40 a false c (O5 (Bu8 l)) l (by rw [e];simp [A7])
  rwa [hl,e] at J
 refine Ct.of Is7 rfl fun h r=>Tr.eq (It7 ..) ?_;refine Je ?_
 refine Yn fun b1 h=>?_
 refine U1 1 rfl fun hl2 hc2 _=>?_
 (refine Ja ?_;intros;repeat(refine Gw ?_;rintro px rfl;refine Ja ?_;intros))
 refine Tr.xIntS (v:=byI l 1) (Al9 (by omega)) ?_
 (refine Ja ?_;intros)
 refine Tr.xIntS (v:=byI l 2) (Al9 (by omega)) ?_
 (refine Ja ?_;intros)
 refine Tr.xIntS (v:=byI l 3) (Al9 (by omega)) ?_
 (refine Ja ?_;intros)
 refine Tr.xIntS (v:=byI l 4) (Al9 (by omega)) ?_
 simp only [byI,Az5]
 refine Yn fun b2 h=>?_
 (refine Jb ?_;intros)
 rw [Hp0 (show 8<c by omega),H15]
 refine Tr.xAggS (xs:=A0 (l.drop 8)) ⟨by omega,by simp [Ad2,hl],?_⟩ ?_
 ·rw [Dv0,List.take_of_length_le (by simp [Ad2,hl])]
 rw [show pCells (some (⟨b2,4,none⟩:Addr))=pAgg ⟨b2,4,none⟩ from rfl]
 refine Tr.xPAgg (cs':=I6 (Bu8 l)) ⟨by simp [Ad2,hl],Aq5 _,by simp [I6,Bu8,byI,Ad2,hl,hp]⟩ fun h=>?_
 (refine Ja ?_;intros)
 refine Yc (Hd5 (Bu8 l)) ?_
 rintro v h (⟨hk,a1,rfl,o⟩|⟨hk,rfl,o⟩)
 ·refine (?_:Tr _ _ _ _) o
  refine Je ?_
  (refine Jb ?_;intros)
  refine Yb (Yt rfl ?_)
  refine Tr.pcall (key a1) ?_;refine Je ?_;(refine Jb ?_;intros)
  refine Ys fun o=>(?_:Tr _ _ _ _) o;refine Je ?_
  (refine Ja ?_;intros)
  refine Ys fun o=>?_
  exact ⟨by unfold isP;rw [hk,Bool.true_and],o.sub⟩
 ·refine (?_:Tr _ _ _ _) o
  refine Je ?_
  (refine Ja ?_;intros)
  refine Ys fun o=>?_
  exact ⟨by unfold isP;rw [hk];rfl,o.sub⟩
theorem Ia0 (k:Nat) (pb:HP) (ro:Bool) (a:Option Addr) (c:Nat) (l:List UInt8) (hl:l.length=40) [ks:IsSl pb a ro A3 1 40 c (A0 l)]:Ct A5 Ad9 [P0 k,.slice a 40 c] [G17 k,pb] fun v own=>v=.tuple ⟨[.agg ⟨I6 (if isP l then Bu8 l else .zero)⟩,.bool (isP l)]⟩∧own [G17 k,pb]:=by
 have hd:=(Bu8 l).len
 have hp:Ej9 (l.drop 8)=l.drop 8:=Ez6 (by simp [hl])
 refine Ct.of Dq7 rfl fun h r=>Tr.eq (Dq4 ..) ?_;refine Je ?_
 (refine Ja ?_;intros)
 refine Yf rfl ?_
 (refine Jb ?_;intros)
 refine Yc (E32 40 pb ro a c l hl (by simp [A7])) ?_;rintro _ h ⟨a1,c1,rfl,o⟩<;>(refine Jg o ?_;intros)
 refine Yc (Js9 a1 c1 l hl) ?_;rintro _ h ⟨rfl,o⟩<;>(refine Jg o ?_;intros)
 cases hk:isP l with
 | false =>
  (refine Ja ?_;intros)
  refine Ys fun o=>?_
  exact ⟨rfl,o.sub⟩
 | true =>
  (refine Ja ?_;intros)
  refine Ys fun o=>?_
  exact ⟨rfl,o.sub⟩
def N7 (l:List UInt8):PipeS × Int:=if l.all (·==0) then (.zero,0) else if isP l then (Bu8 l,1) else (.zero,2)
theorem Gw6 (pb:HP) (ro:Bool) (a:Option Addr) (c:Nat) (l:List UInt8) (hl:l.length=40) [ks:IsSl pb a ro A3 1 40 c (A0 l)]:Ct A5 Aa6 [.slice a 40 c] [pb] fun v own=>v=.tuple ⟨[.agg ⟨I6 (N7 l).1⟩,int (N7 l).2]⟩∧own [pb]:=by
 have hd:=(Bu8 l).len
 have hp:Ej9 (l.drop 8)=l.drop 8:=Ez6 (by simp [hl])
 refine Ct.of Hw2 rfl fun h r=>Tr.eq (Hw0 ..) ?_;refine Je ?_
 refine Yn fun b1 h=>?_
 refine Yb (Yt rfl ?_)
 refine Tr.pcall (E75 40 pb ro a c l hl (by simp [A7])) ?_;refine Je ?_;(refine Jb ?_;intros)
 refine Ys fun o=>(?_:Tr _ _ _ _) o;refine Je ?_
 cases hb:l.all (·==0) with
 | true =>
  (refine Ja ?_;intros)
  refine Ys fun o=>?_
  exact ⟨by unfold N7;rw [hb];rfl,o.sub⟩
 | false =>
  (refine Jb ?_;intros)
  refine Yc (Hr0) ?_;rintro _ h ⟨k,rfl,o⟩<;>(refine Jg o ?_;intros)
  refine Yc (Ia0 k pb ro a c l hl) ?_;rintro _ h ⟨rfl,o⟩<;>(refine Jg o ?_;intros)
  cases hk:isP l with
  | false =>
   (refine Ja ?_;intros)
   refine Ys fun o=>?_
   exact ⟨by unfold N7;rw [hb,hk];rfl,o.sub⟩
  | true =>
   (refine Ja ?_;intros)
   refine Ys fun o=>?_
   exact ⟨by unfold N7;rw [hb,hk];rfl,o.sub⟩
theorem Ix4 (a:Option Addr) (c:Nat) (l:List UInt8) (hl:l.length=40):Ct A5 Aa6 [.slice a 40 c] [slC false A3 1 a 40 c (A0 l)] fun v own=>v=.tuple ⟨[.agg ⟨I6 (N7 l).1⟩,int (N7 l).2]⟩∧own [slC false A3 1 a 40 c (A0 l)]:=Gw6 (slC false A3 1 a 40 c (A0 l)) false a c l hl
structure ProcS where
 state:Int
 parent:Int
 group:Int
 code:Int
 pending:Int
 mask:Int
 ignored:Int
 caught:Int
 fds:List Int
 len:fds.length=8
abbrev Ax1:List Int:=[0,0,0,0,0,0,0,0]
abbrev ProcS.zero:ProcS:=⟨0,0,0,0,0,0,0,0,Ax1,rfl⟩
abbrev B8 (p:ProcS):List Value:=int p.state::int p.parent::int p.group::int p.code::int p.pending::int p.mask::int p.ignored::int p.caught::p.fds.map int
theorem Ah9 (p:ProcS):(B8 p).length=16:=by simp [B8,p.len]
theorem Hq3 (p:ProcS):(B8 p).all Value.oneCell=true:=by simp [B8,Value.oneCell]
instance {p:ProcS}:LenC (B8 p) 16:=⟨Ah9 p⟩
instance {p:ProcS}:PartC (B8 p) 0 16 (B8 p):=⟨Bm3 (Ah9 p)⟩
instance {p:ProcS}:PartC (B8 p) 8 8 (p.fds.map int):=⟨by
 have h:Nat.ble (8+8) (B8 p).length=true:=by rw [Ah9];rfl
 have e:((B8 p).drop 8).take 8=p.fds.map int:=by rw [show (B8 p).drop 8=p.fds.map int from rfl,List.take_of_length_le (by simp [p.len])]
 rw [Da9,h,e];rfl⟩
instance {p:ProcS} {cs:List Value} [k:LenC cs 16]:SetsC cs 0 (B8 p) (B8 p):=⟨Dg8 k.ok (Ah9 p) (Hq3 p)⟩
instance {p:ProcS}:SameC (.agg ⟨B8 p⟩):=⟨Em3 (by simp [B8])⟩
def Db5 (n w:Int):Bool:=Bv3 .i64 n 65534==0 && V5 .i64 n w==0
def okS (p:ProcS):Bool :=
 !(decide (p.state<1) || decide (p.state>3) || decide (p.parent<0) || decide (p.parent>8) || decide (p.group<0) || decide (p.group≥8) || decide (p.code<0) || decide (p.code>255)) &&
 (!(!Db5 p.pending 0 || !Db5 p.mask 16896 || !Db5 p.ignored 16896 || !Db5 p.caught 16896 || V5 .i64 p.ignored p.caught != 0) &&
 (!(p.fds.any fun f=>decide (f<0) || decide (f>12)) &&
 (if p.state=2 then p.pending==0 && decide (p.fds=Ax1) else p.code==0)))
def hi2 (n:Int):UInt8:=if 0≤n∧n≤65535 then b8 (n / 256) else 0
def lo2 (n:Int):UInt8:=if 0≤n∧n≤65535 then b8 n else 0
abbrev put2 (n:Int):List UInt8:=[hi2 n,lo2 n]
def E04 (p:ProcS):List UInt8:=[b8 p.state,b8 p.parent,b8 p.group,b8 p.code]++(put2 p.pending++(put2 p.mask++(put2 p.ignored++(put2 p.caught++(p.fds.map b8++[167])))))
theorem Jd7 (n:Int):(put2 n).length=2:=rfl
theorem I59 (p:ProcS):(E04 p).length=21:=by simp [E04,Jd7,p.len]
def A93 (p:ProcS):List UInt8:=E04 p++[Dg4 (E04 p),0,0]
theorem E07 (p:ProcS):(A93 p).length=24:=by simp [A93,I59]
theorem Jr0 (n w:Int):CtP A5 Aw0 [int n,int w] [] (.bool (Db5 n w)):=by
 refine CtP.of H56 rfl fun h r=>Tr.eq (H78 ..) ?_;refine Je ?_
 exact Jz
instance {n w:Int} {l:List HP}:PCi A5 Aw0 [.int .i64 n,.int .i64 w] l (.bool (Db5 n w)):=PCi.of (Jr0 n w)
theorem Jo2 (f:Int):CtP A5 By3 [int f] [] (.bool (decide (f<0) || decide (f>12))):=by
 refine CtP.of Id0 rfl fun h r=>Tr.eq (Ib6 ..) ?_;refine Je ?_
 exact Jz
theorem G55 (p:HP) (a:Option Addr) (ro:Bool) (c:Nat) (l:List Int) (g:FuncId) (f:Int→Bool) {e:TypeId} [ks:IsSl p a ro e 1 l.length c (l.map int)] (hl:l.length≤A7) (hf:∀ x,CtP A5 g [int x] [] (.bool (f x))):∀ (m i:Nat),l.length-i=m→i≤l.length →
  Ad3 D8 D6 L9 [(0,.slice a l.length c),(1,.func (.func g) ⟨[]⟩ ⟨[]⟩),(7,int l.length),(8,int i)] [p] (int (Db8 f i (l.drop i))):=by
 intro m
 induction m with
 | zero =>
  intro i hm hi
  refine Ad3.of G6 fun h r=>Tr.eq (L8 ..) ?_;refine Je ?_
  refine Yf (by simp;omega) ?_
  refine Ys fun o=>?_
  rw [List.drop_eq_nil_of_le (by omega)];exact ⟨rfl,rfl⟩
 | succ m ih =>
  intro i hm hi
  have hlt:i<l.length:=by omega
  have hp:l[i]?=some l[i]:=List.getElem?_eq_getElem hlt
  have hd:l.drop i=l[i]::l.drop (i+1):=List.drop_eq_getElem_cons hlt
  generalize l[i]=x at hp hd
  have e1:IntKind.wrap .i64 ((i:Int)+1)=((i+1:Nat):Int):=by rw [B3];simp only [A7] at hl;omega
  refine Ad3.of G6 fun h r=>Tr.eq (L8 ..) ?_;refine Je ?_
  refine Yt (by simp;omega) ?_
  (refine Ja ?_;unhygienic intros;repeat(refine Gw ?_;rintro px rfl;refine Ja ?_;unhygienic intros))
  refine Tr.xIntS (v:=x) (by simp [hp]) ?_
  (refine Ja ?_;unhygienic intros)
  refine Tr.pcall (hf x) ?_
  cases hx:f x with
  | true =>
   (refine Ja ?_;unhygienic intros)
   refine Ys fun o=>?_
   rw [hd,Db8,if_pos hx];exact ⟨by first|rfl|trivial,by first|rfl|trivial⟩
  | false =>
   (refine Ja ?_;unhygienic intros)
   rw [e1]
   refine Ah1 (ih (i+1) (by omega) (by omega)) (r:=r) (by simp) fun o=>?_
   rw [hd,Db8,if_neg (by simp [hx])];exact ⟨by first|rfl|trivial,by first|rfl|trivial⟩
theorem G48 (p:HP) (a:Option Addr) (ro:Bool) (c:Nat) (l:List Int) (g:FuncId) (f:Int→Bool) {e:TypeId} [ks:IsSl p a ro e 1 l.length c (l.map int)] (hl:l.length≤A7) (hf:∀ x,CtP A5 g [int x] [] (.bool (f x))) :
  CtP A5 E2 [.slice a l.length c,.func (.func g) ⟨[]⟩ ⟨[]⟩] [p] (.bool (l.any f)):=by
 have j:CtP A5 D6 [.slice a l.length c,.func (.func g) ⟨[]⟩ ⟨[]⟩] [p] (int (Db8 f 0 l)):=by
  refine CtP.of G6 rfl fun h r=>Tr.eq (At8 ..) ?_;refine Je ?_
  exact Ah1 (G55 p a ro c l g f hl hf _ 0 rfl (by omega)) (r:=r) (by simp) fun o=>⟨rfl,rfl⟩
 refine CtP.of Am6 rfl fun h r=>Tr.eq (Am3 ..) ?_;refine Je ?_
 refine Dh6 j (r:=r) (by simp) ?_
 (refine Ja ?_;unhygienic intros)
 refine Ys fun o=>?_
 rw [Gk8];exact ⟨by first|rfl|trivial,by first|rfl|trivial⟩
theorem H32:∀ (l m:List Int),l.length=m.length→eqs (l.map int) (m.map int)=some (decide (l=m))
 | [],[],_=>rfl
 | [],_::_,h=>by simp at h
 | _::_,[],h=>by simp at h
 | a::l,b::m,h=>by
  have ih:=H32 l m (by simpa using h)
  simp only [List.map_cons,eqs,eq1,decide_true,ih]
  by_cases h1:a=b<;>by_cases h2:l=m<;>simp [h1,h2]
theorem G49:∀ (l:List Int),I3 (List.replicate l.length (TypeDesc.int .i64)) (l.map int)=true
 | []=>rfl
 | a::l=>by
  have:=G49 l
  simp only [List.length_cons,List.replicate_succ,List.map_cons,I3,decide_true,this,Bool.and_self]
theorem eq8 {α:Type} (l m:List Int) (hl:l.length=8) (hm:m.length=8) (k:Bool→Option α):B54 PR Hl1 (l.map int) (m.map int) k=k (decide (l=m)):=by
 have e:Au9 PR 8 Hl1=some (List.replicate 8 (TypeDesc.int .i64)):=by kernel_rfl
 have f1:=G49 l;have f2:=G49 m
 rw [hl] at f1;rw [hm] at f2
 rw [B54,e]
 simp only [f1,f2,H32 l m (by omega),Bool.and_self,ckB,cond_true,eqK]
theorem Jy0 (p:ProcS):Ct A5 D99 [.agg ⟨B8 p⟩] [] fun v own=>v=.bool (okS p)∧own []:=by
 have h8:=p.len
 refine Ct.of I02 rfl fun h r=>Tr.eq (Iv9 ..) ?_;refine Je ?_
 (refine Ja ?_;unhygienic intros)
 refine Tr.cond (fun h1=>?_) fun h1=>?_
 ·refine Ys fun o=>?_
  refine ⟨?_,o.sub⟩
  unfold okS;rw [h1];rfl
 (refine Ja ?_;unhygienic intros)
 refine Tr.cond (fun h2=>?_) fun h2=>?_
 ·refine Ys fun o=>?_
  refine ⟨?_,o.sub⟩
  unfold okS;rw [h1,h2];rfl
 (refine Ja ?_;unhygienic intros)
 refine Gr1 0 rfl [int p.state,int p.parent,int p.group,int p.code,int p.pending,int p.mask,int p.ignored,int p.caught] (p.fds.map int) [] (by simp [B8]) 1 8 8 8 ⟨by simp [h8],by omega,by simp,by simp [B8],by omega,by omega⟩ ?_
 refine Je ?_
 have J:=G48 (e:=A9) (slX false A9 1 (some ⟨b,8,none⟩) p.fds.length 8 ([int p.state,int p.parent,int p.group,int p.code,int p.pending,int p.mask,int p.ignored,int p.caught],[]) (p.fds.map int)) (some ⟨b,8,none⟩) false 8 p.fds By3 (fun f=>decide (f<0) || decide (f>12)) (by rw [h8];simp [A7]) Jo2
 rw [h8] at J
 refine Tr.pcall (J) ?_;refine Je ?_;(refine Ja ?_;unhygienic intros)
 refine Gg0 0 rfl (B8 p) (by simp [B8]) ?_
 refine Je ?_
 cases h3:p.fds.any fun f=>decide (f<0) || decide (f>12) with
 | true =>
  (refine Ja ?_;unhygienic intros)
  refine Ys fun o=>?_
  refine ⟨?_,o.sub⟩
  unfold okS;rw [h1,h2,h3];rfl
 | false =>
  (refine Ja ?_;unhygienic intros)
  have e:okS p=if p.state=2 then p.pending==0 && decide (p.fds=Ax1) else p.code==0:=by unfold okS;rw [h1,h2,h3];rfl
  rw [e]
  by_cases h4:p.state=2
  ·refine Yt (by simpa using h4) ?_
   rw [if_pos h4]
   (repeat' first|refine Gu ?_|(with_reducible first|refine Gn fun b h=>?_|apply Gx|apply Gy|rintro px rfl|apply Gw|refine fun(h:H)=>?_|intro hb)|refine Gs ?_|refine Gt ?_|exact Gz rfl|fail)
   rw [show ([int 0,int 0,int 0,int 0,int 0,int 0,int 0,int 0]:List Value)=Ax1.map int from rfl,eq8 _ _ h8 rfl]
   (repeat' first|refine Gu ?_|(with_reducible first|refine Gn fun b h=>?_|apply Gx|apply Gy|rintro px rfl|apply Gw|refine fun(h:H)=>?_|intro hb)|refine Gs ?_|refine Gt ?_|exact Gz rfl|fail)
   refine Ys fun o=>?_
   exact ⟨rfl,o.sub⟩
  ·refine Yf (by simpa using h4) ?_
   rw [if_neg h4]
   (refine Ja ?_;unhygienic intros)
   refine Ys fun o=>?_
   exact ⟨rfl,o.sub⟩
theorem Jo1 (a:Option Addr) (c:Nat) (cs:List Value) (j:Nat) (n:Int) (hj:j+2≤cs.length) (hm:cs.length≤A7):Ct A5 B27 [.slice a cs.length c,int j,int n] [slC false A3 1 a cs.length c cs] fun v own =>
  (∃ ok,v=.bool ok)∧own [slC false A3 1 a cs.length c (if 0≤n∧n≤65535 then (cs.set j (.int .u8 ((b8 (n / 256)).toNat:Int))).set (j+1) (.int .u8 ((b8 n).toNat:Int)) else cs)]:=by
 simp only [A7] at hm
 have e1:IntKind.wrap .i64 ((cs.length:Int)-2)=(cs.length:Int)-2:=by rw [B3];omega
 have e2:=wN j
 refine Ct.of H60 rfl fun h r=>Tr.eq (Ia5 ..) ?_;refine Je ?_
 rw [e1,e2]
 (refine Ja ?_;unhygienic intros)
 by_cases h:0≤n∧n≤65535
 ·refine Yf (by simp;omega) ?_
  rw [if_pos h]
  (refine Ja ?_;unhygienic intros;repeat(refine Gw ?_;rintro px rfl;refine Ja ?_;unhygienic intros))
  rw [Int.toNat_natCast,show Int.fdiv n (2 ^ 8)=n / 256 by rw [Int.fdiv_eq_ediv_of_nonneg _ (by omega)];rfl,B26,B26]
  refine Je ?_
  refine Tr.xVS (cs':=cs.set j (.int .u8 ((b8 (n / 256)).toNat:Int))) ⟨by omega,rfl,rfl⟩ fun h=>?_
  (refine Ja ?_;unhygienic intros)
  rw [Int.toNat_natCast]
  refine Je ?_
  refine Tr.xVS (cs':=(cs.set j (.int .u8 ((b8 (n / 256)).toNat:Int))).set (j+1) (.int .u8 ((b8 n).toNat:Int))) ⟨by simp;omega,rfl,rfl⟩ fun h=>?_
  refine Ys fun o=>?_
  exact ⟨⟨_,rfl⟩,o.sub⟩
 ·refine Yt (by simp;omega) ?_
  rw [if_neg h]
  refine Ys fun o=>?_
  exact ⟨⟨_,rfl⟩,o.sub⟩
theorem Et9 (l:List UInt8) (j:Nat) (x:UInt8):(A0 l).set j (.int .u8 (x.toNat:Int))=A0 (l.set j x):=by simp [A0,List.map_set]
theorem E22 (a:Option Addr) (c m:Nat) (l:List UInt8) (j:Nat) (n:Int) (hm:l.length=m) (hj:j+2≤m) (h1:l[j]?=some 0) (h2:l[j+1]?=some 0) (hl:m≤A7):Ct A5 B27 [.slice a m c,int j,int n] [slC false A3 1 a m c (A0 l)] fun v own =>
  (∃ ok,v=.bool ok)∧own [slC false A3 1 a m c (A0 ((l.set j (hi2 n)).set (j+1) (lo2 n)))]:=by
 subst hm
 have J:=Jo1 a c (A0 l) j n (by rw [Ad2];omega) (by rw [Ad2];omega)
 rw [Ad2] at J
 have e:(if 0≤n∧n≤65535 then ((A0 l).set j (.int .u8 ((b8 (n / 256)).toNat:Int))).set (j+1) (.int .u8 ((b8 n).toNat:Int)) else A0 l)=A0 ((l.set j (hi2 n)).set (j+1) (lo2 n)):=by
  unfold hi2 lo2
  split
  ·rw [Et9,Et9]
  ·rw [Ge7 h1,Ge7 h2]
 rw [e] at J
 exact J
def two (l:List UInt8) (j:Nat):Int:=byI l j*256+byI l (j+1)
theorem Jz1 (x y:UInt8):Ei0 .i64 (IntKind.wrap .i64 (IntKind.wrap .i64 (x.toNat:Int)*2 ^ 8)) (IntKind.wrap .i64 (y.toNat:Int))=(x.toNat:Int)*256+y.toNat:=by
 have hx:=x.toNat_lt;have hy:=y.toNat_lt
 have e1:IntKind.wrap .i64 (IntKind.wrap .i64 (x.toNat:Int)*2 ^ 8)=((x.toNat*256:Nat):Int):=by rw [Az5,B3];omega
 rw [e1,Az5]
 unfold Ei0
 have e0:IntKind.bits .i64=64:=rfl
 rw [e0,BitVec.ofInt_natCast,BitVec.ofInt_natCast,BitVec.toNat_or,BitVec.toNat_ofNat,BitVec.toNat_ofNat,Nat.mod_eq_of_lt (by omega),Nat.mod_eq_of_lt (by omega)]
 have e2:x.toNat*256 ||| y.toNat=x.toNat*256+y.toNat:=by
  have:=Nat.two_pow_add_eq_or_of_lt (i:=8) (b:=y.toNat) (by omega) x.toNat
  rw [show 2 ^ 8*x.toNat=x.toNat*256 by omega] at this
  exact this.symm
 rw [e2,B3];omega
theorem Gp3 (a:Option Addr) (c n:Nat) (l:List UInt8) (j:Nat) (hn:l.length=n) (hj:j+2≤n) (hm:n≤A7):CtP A5 Dj9 [.slice a n c,int j] [slC false A3 1 a n c (A0 l)] (.tuple ⟨[int (two l j),.bool true]⟩):=by
 simp only [A7] at hm
 have e1:IntKind.wrap .i64 ((n:Int)-2)=(n:Int)-2:=by rw [B3];omega
 have e2:=wN j
 refine CtP.of H66 rfl fun h r=>Tr.eq (H25 ..) ?_;refine Je ?_
 rw [e1,e2]
 (refine Ja ?_;unhygienic intros)
 refine Yf (by simp;omega) ?_
 (refine Ja ?_;unhygienic intros;repeat(refine Gw ?_;rintro px rfl;refine Ja ?_;unhygienic intros))
 rw [Int.toNat_natCast]
 refine Je ?_
 refine Tr.xIntS (v:=byI l j) (Al9 (by omega)) ?_
 (refine Ja ?_;unhygienic intros)
 rw [Int.toNat_natCast]
 refine Je ?_
 refine Tr.xIntS (v:=byI l (j+1)) (Al9 (by omega)) ?_
 refine Ys fun o=>?_
 rw [Jz1];exact ⟨rfl,rfl⟩
theorem Jn9 (a:Option Addr) (c:Nat) (p:ProcS):Ct A5 V4 [.agg ⟨B8 p⟩,.slice a 24 c] [slC false A3 1 a 24 c (A0 (List.replicate 24 0))] fun v own=>v=.bool (okS p)∧own [slC false A3 1 a 24 c (A0 (if okS p then A93 p else List.replicate 24 0))]:=by
 refine Ct.of I9 rfl fun h r=>Tr.eq (In1 ..) ?_;refine Je ?_
 refine Yn fun b1 h=>?_
 (refine Ja ?_;intros)
 refine Yc (Jy0 p) ?_;rintro _ h ⟨rfl,o⟩<;>(refine Jf o ?_;intros)
 cases hk:okS p with
 | false =>
  (refine Ja ?_;intros)
  refine Ys fun o=>?_
  rw [if_neg (by simp)]
  exact ⟨rfl,o.sub⟩
 | true =>
  simp only [if_true]
  obtain ⟨st,pa,gr,co,pe,ma,ig,ca,fds,len⟩:=p
  match fds,len with
  | [f0,f1,f2,f3,f4,f5,f6,f7],len =>
  (refine Ja ?_;intros)
  rename_i b2 h2
  refine U1 2 rfl fun hl hc _=>?_
  simp only [List.map]
  refine Tr.jmp I9 (Tr.eq (Bj9 ..) ?_);(try simp only[Nr,Nl,wl,Nat.reduceAdd,Nat.reduceMul,Int.reduceToNat])
  (refine Jd ?_;intros;repeat(refine Gw ?_;rintro px rfl;refine Jd ?_;intros))
  refine Tr.jmp I9 (Tr.eq (Bj9 ..) ?_);(try simp only[Nr,Nl,wl,Nat.reduceAdd,Nat.reduceMul,Int.reduceToNat])
  (refine Jd ?_;intros)
  refine Tr.jmp I9 (Tr.eq (Bj9 ..) ?_);(try simp only[Nr,Nl,wl,Nat.reduceAdd,Nat.reduceMul,Int.reduceToNat])
  (refine Jd ?_;intros)
  refine Tr.jmp I9 (Tr.eq (Bj9 ..) ?_);(try simp only[Nr,Nl,wl,Nat.reduceAdd,Nat.reduceMul,Int.reduceToNat])
  (refine Jd ?_;intros)
  refine Tr.jmp I9 (Tr.eq (Bj9 ..) ?_);(try simp only[Nr,Nl,wl,Nat.reduceAdd,Nat.reduceMul,Int.reduceToNat])
  (refine Jd ?_;intros)
  simp only [B26,Et9,List.replicate,List.set_cons_zero,List.set_cons_succ,Nat.mul_one]
  refine Tr.jmp I9 (Tr.eq (Bi3 ..) ?_);(try simp only[Nr,Nl,wl,Nat.reduceAdd,Nat.reduceMul,Int.reduceToNat])
  (refine Jd ?_;intros)
  refine Yc (E22 (some px) c 24 [b8 st,b8 pa,b8 gr,b8 co,0,0,0,0,0,0,0,0,0,0,0,0,0,0,0,0,0,0,0,0] 4 pe rfl (by omega) rfl rfl (by simp [A7])) ?_;rintro _ h ⟨⟨_,rfl⟩,o⟩<;>(refine Jf o ?_;intros)
  refine Tr.jmp I9 (Tr.eq (Bi3 ..) ?_);(try simp only[Nr,Nl,wl,Nat.reduceAdd,Nat.reduceMul,Int.reduceToNat])
  (refine Jd ?_;intros)
  refine Yc (E22 (some px) c 24 [b8 st,b8 pa,b8 gr,b8 co,hi2 pe,lo2 pe,0,0,0,0,0,0,0,0,0,0,0,0,0,0,0,0,0,0] 6 ma rfl (by omega) rfl rfl (by simp [A7])) ?_;rintro _ h ⟨⟨_,rfl⟩,o⟩<;>(refine Jf o ?_;intros)
  refine Tr.jmp I9 (Tr.eq (Bi3 ..) ?_);(try simp only[Nr,Nl,wl,Nat.reduceAdd,Nat.reduceMul,Int.reduceToNat])
  (refine Jd ?_;intros)
  refine Yc (E22 (some px) c 24 [b8 st,b8 pa,b8 gr,b8 co,hi2 pe,lo2 pe,hi2 ma,lo2 ma,0,0,0,0,0,0,0,0,0,0,0,0,0,0,0,0] 8 ig rfl (by omega) rfl rfl (by simp [A7])) ?_;rintro _ h ⟨⟨_,rfl⟩,o⟩<;>(refine Jf o ?_;intros)
  refine Tr.jmp I9 (Tr.eq (Bi3 ..) ?_);(try simp only[Nr,Nl,wl,Nat.reduceAdd,Nat.reduceMul,Int.reduceToNat])
  (refine Jd ?_;intros)
  refine Yc (E22 (some px) c 24 [b8 st,b8 pa,b8 gr,b8 co,hi2 pe,lo2 pe,hi2 ma,lo2 ma,hi2 ig,lo2 ig,0,0,0,0,0,0,0,0,0,0,0,0,0,0] 10 ca rfl (by omega) rfl rfl (by simp [A7])) ?_;rintro _ h ⟨⟨_,rfl⟩,o⟩<;>(refine Jf o ?_;intros)
  refine Tr.jmp I9 (Tr.eq (Bi3 ..) ?_);(try simp only[Nr,Nl,wl,Nat.reduceAdd,Nat.reduceMul,Int.reduceToNat])
  (refine Jd ?_;intros)
  refine Tr.jmp I9 (Tr.eq (Ag5 ..) ?_);(try simp only[Nr,Nl,wl,Nat.reduceAdd,Nat.reduceMul,Int.reduceToNat])
  (refine Jd ?_;intros)
  refine Tr.jmp I9 (Tr.eq (Ag5 ..) ?_);(try simp only[Nr,Nl,wl,Nat.reduceAdd,Nat.reduceMul,Int.reduceToNat])
  (refine Jd ?_;intros)
  refine Tr.jmp I9 (Tr.eq (Ag5 ..) ?_);(try simp only[Nr,Nl,wl,Nat.reduceAdd,Nat.reduceMul,Int.reduceToNat])
  (refine Jd ?_;intros)
  refine Tr.jmp I9 (Tr.eq (Ag5 ..) ?_);(try simp only[Nr,Nl,wl,Nat.reduceAdd,Nat.reduceMul,Int.reduceToNat])
  (refine Jd ?_;intros)
  refine Tr.jmp I9 (Tr.eq (Ag5 ..) ?_);(try simp only[Nr,Nl,wl,Nat.reduceAdd,Nat.reduceMul,Int.reduceToNat])
  (refine Jd ?_;intros)
  refine Tr.jmp I9 (Tr.eq (Ag5 ..) ?_);(try simp only[Nr,Nl,wl,Nat.reduceAdd,Nat.reduceMul,Int.reduceToNat])
  (refine Jd ?_;intros)
  refine Tr.jmp I9 (Tr.eq (Ag5 ..) ?_);(try simp only[Nr,Nl,wl,Nat.reduceAdd,Nat.reduceMul,Int.reduceToNat])
  (refine Jd ?_;intros)
  refine Tr.jmp I9 (Tr.eq (Ag5 ..) ?_);(try simp only[Nr,Nl,wl,Nat.reduceAdd,Nat.reduceMul,Int.reduceToNat])
  (refine Jd ?_;intros)
  refine Tr.jmp I9 (Tr.eq (Ag5 ..) ?_);(try simp only[Nr,Nl,wl,Nat.reduceAdd,Nat.reduceMul,Int.reduceToNat])
  (refine Jd ?_;intros)
  simp only [B26,Et9,List.set_cons_zero,List.set_cons_succ,Nat.mul_one]
  rw [show (.int .u8 167:Value)=.int .u8 ((167:UInt8).toNat:Int) from rfl,Et9]
  simp only [List.set_cons_zero,List.set_cons_succ]
  refine Tr.pcall (Hd7 (slC false A3 1 (some px) 24 c (A0 [b8 st,b8 pa,b8 gr,b8 co,hi2 pe,lo2 pe,hi2 ma,lo2 ma,hi2 ig,lo2 ig,hi2 ca,lo2 ca,b8 f0,b8 f1,b8 f2,b8 f3,b8 f4,b8 f5,b8 f6,b8 f7,167,0,0,0])) (some px) false 24 c c [b8 st,b8 pa,b8 gr,b8 co,hi2 pe,lo2 pe,hi2 ma,lo2 ma,hi2 ig,lo2 ig,hi2 ca,lo2 ca,b8 f0,b8 f1,b8 f2,b8 f3,b8 f4,b8 f5,b8 f6,b8 f7,167,0,0,0] 21 (by simp) (by simp [A7])) ?_
  refine Je ?_
  (refine Ja ?_;intros)
  rw [Ei9]
  (refine Jd ?_;intros)
  refine Ys fun o=>?_
  rw [Et9] at o
  simp only [List.set_cons_zero,List.set_cons_succ] at o
  simp only [A93,E04,put2,List.map,List.cons_append,List.nil_append]
  exact ⟨trivial,o.sub⟩
abbrev G56 (k:Nat):HP:=pt k (.cells B83 false [int 24,.func (.func V4) ⟨[]⟩ ⟨[]⟩,.func (.func Af1) ⟨[]⟩ ⟨[]⟩])
theorem Im1 (k:Nat) (f:ProcS):Ct A5 Ad6 [P0 k,.agg ⟨B8 f⟩] [G56 k] fun v own=>(okS f=true∧∃ a,v=.tuple ⟨[.slice a 24 24,.bool true]⟩∧own [G56 k,slC false A3 1 a 24 24 (A0 (A93 f))])∨(okS f=false∧v=.tuple ⟨[.slice none 0 0,.bool false]⟩∧own [G56 k]):=by
 refine Ct.of Dr4 rfl fun h r=>Tr.eq (Dr3 ..) ?_;refine Je ?_
 (refine Ja ?_;intros)
 refine Tr.ck ⟨by omega,by omega,by simp [A7]⟩ ?_
 refine Yn fun b1 h=>?_
 rw [show I7 (Int.toNat 24) [.int .u8 0]=A0 (List.replicate 24 0) from rfl]
 refine Ai1 0 rfl 1 24 rfl (by omega) ?_
 simp only [List.set_cons_zero]
 refine Je ?_
 (refine Jb ?_;intros)
 refine Yb (Yf rfl ?_)
 (refine Jb ?_;intros)
 refine Yc (Jn9 (some ⟨b1,0,none⟩) 24 f) ?_;rintro _ h ⟨rfl,o⟩<;>(refine Jg o ?_;intros)
 refine Ys fun o=>(?_:Tr _ _ _ _) o;refine Je ?_
 cases hk:okS f with
 | false =>
  (refine Ja ?_;intros)
  refine Ys fun o=>?_
  exact .inr ⟨rfl,rfl,o.sub⟩
 | true =>
  (refine Ja ?_;intros)
  refine Ys fun o=>?_
  simp only [if_true] at o
  exact .inl ⟨rfl,_,rfl,o.sub⟩
theorem Jp7:Ct A5 A21 [int 24,.func (.func V4) ⟨[]⟩ ⟨[]⟩,.func (.func Af1) ⟨[]⟩ ⟨[]⟩] [] fun v own=>∃ k,v=P0 k∧own [G56 k]:=by
 refine Ct.of E45 rfl fun h r=>Tr.eq (E25 ..) ?_;refine Je ?_
 rw [show mm2 false (mm2 true 24 0) 64=24 from rfl]
 (refine Ja ?_;intros)
 refine Ys fun o=>?_
 exact ⟨_,rfl,o.sub⟩
theorem Hq6:Ct A5 Bs8 [] [] fun v own=>∃ k,v=P0 k∧own [G56 k]:=by
 refine Ct.of Hz2 rfl fun h r=>Tr.eq (Hw3 ..) ?_;refine Je ?_
 refine Yc (Jp7) ?_;rintro _ h ⟨k,rfl,o⟩<;>(refine Jf o ?_;intros)
 refine Ys fun o=>?_
 exact ⟨_,rfl,o.sub⟩
theorem Hg6 (f:ProcS):Ct A5 Bi1 [.agg ⟨B8 f⟩] [] fun v own=>(okS f=true∧∃ a,v=.tuple ⟨[.slice a 24 24,.bool true]⟩∧own [slC false A3 1 a 24 24 (A0 (A93 f))])∨(okS f=false∧v=.tuple ⟨[.slice none 0 0,.bool false]⟩∧own []):=by
 refine Ct.of Hk0 rfl fun h r=>Tr.eq (Ho5 ..) ?_;refine Je ?_
 (refine Ja ?_;intros)
 refine Yc (Hq6) ?_;rintro _ h ⟨k,rfl,o⟩<;>(refine Jg o ?_;intros)
 refine Yc (Im1 k f) ?_
 rintro v h (⟨hk,a,rfl,o⟩|⟨hk,rfl,o⟩)
 ·refine (?_:Tr _ _ _ _) o
  refine Je ?_
  (refine Ja ?_;intros)
  refine Ys fun o=>?_
  exact .inl ⟨hk,a,rfl,o.sub⟩
 ·refine (?_:Tr _ _ _ _) o
  refine Je ?_
  (refine Ja ?_;intros)
  refine Ys fun o=>?_
  exact .inr ⟨hk,rfl,o.sub⟩
def Bv2 (l:List UInt8):ProcS:=⟨byI l 0,byI l 1,byI l 2,byI l 3,two l 4,two l 6,two l 8,two l 10,[byI l 12,byI l 13,byI l 14,byI l 15,byI l 16,byI l 17,byI l 18,byI l 19],rfl⟩
def isS (l:List UInt8):Bool:=okS (Bv2 l) && decide (A93 (Bv2 l)=l)
theorem Jp0 (a:Option Addr) (c:Nat) (l:List UInt8) (hl:l.length=24):Ct A5 Af1 [.slice a 24 c] [slC false A3 1 a 24 c (A0 l)] fun v own=>v=.tuple ⟨[.agg ⟨B8 (Bv2 l)⟩,.bool (isS l)]⟩∧own [slC false A3 1 a 24 c (A0 l)]:=by
 have key:∀ a1:Option Addr,CtP A5 D5 [.slice a1 24 24,.slice a 24 c] [slC false A3 1 a1 24 24 (A0 (A93 (Bv2 l))),slC false A3 1 a 24 c (A0 l)] (.bool (decide (A93 (Bv2 l)=l))):=fun a1=>by
  have e:=E07 (Bv2 l)
  have J:=Gd0 (slC false A3 1 a1 (A93 (Bv2 l)).length 24 (A0 (A93 (Bv2 l)))) (slC false A3 1 a l.length c (A0 l)) a1 false 24 a false c (A93 (Bv2 l)) l (by rw [e];simp [A7])
  rwa [hl,e] at J
 refine Ct.of U7 rfl fun h r=>Tr.eq (Il0 ..) ?_;refine Je ?_
 refine Yn fun b1 h=>?_
 refine U1 1 rfl fun hl2 hc2 _=>?_
 (refine Ja ?_;intros;repeat(refine Gw ?_;rintro px rfl;refine Ja ?_;intros))
 refine Tr.xIntS (v:=byI l 0) (Al9 (by omega)) ?_
 (refine Ja ?_;intros)
 refine Tr.xIntS (v:=byI l 1) (Al9 (by omega)) ?_
 (refine Ja ?_;intros)
 refine Tr.xIntS (v:=byI l 2) (Al9 (by omega)) ?_
 (refine Ja ?_;intros)
 refine Tr.xIntS (v:=byI l 3) (Al9 (by omega)) ?_
 (refine Ja ?_;intros)
 simp only [byI,Az5]
 refine Tr.jmp U7 (Tr.eq (Bk2 ..) ?_);(try simp only[Nr,Nl,wl,Nat.reduceAdd,Nat.reduceMul,Int.reduceToNat])
 (refine Jd ?_;intros)
 refine Tr.pcall (Gp3 (some px) c 24 l 4 hl (by omega) (by simp [A7])) ?_;refine Je ?_;(refine Ja ?_;intros)
 refine Tr.jmp U7 (Tr.eq (Bk2 ..) ?_);(try simp only[Nr,Nl,wl,Nat.reduceAdd,Nat.reduceMul,Int.reduceToNat])
 (refine Jd ?_;intros)
 refine Tr.pcall (Gp3 (some px) c 24 l 6 hl (by omega) (by simp [A7])) ?_;refine Je ?_;(refine Ja ?_;intros)
 refine Tr.jmp U7 (Tr.eq (Bk2 ..) ?_);(try simp only[Nr,Nl,wl,Nat.reduceAdd,Nat.reduceMul,Int.reduceToNat])
 (refine Jd ?_;intros)
 refine Tr.pcall (Gp3 (some px) c 24 l 8 hl (by omega) (by simp [A7])) ?_;refine Je ?_;(refine Ja ?_;intros)
 refine Tr.jmp U7 (Tr.eq (Bk2 ..) ?_);(try simp only[Nr,Nl,wl,Nat.reduceAdd,Nat.reduceMul,Int.reduceToNat])
 (refine Jd ?_;intros)
 refine Tr.pcall (Gp3 (some px) c 24 l 10 hl (by omega) (by simp [A7])) ?_;refine Je ?_;(refine Ja ?_;intros)
 refine Tr.jmp U7 (Tr.eq (Bk2 ..) ?_);(try simp only[Nr,Nl,wl,Nat.reduceAdd,Nat.reduceMul,Int.reduceToNat])
 (refine Jd ?_;intros)
 refine Tr.jmp U7 (Tr.eq (Af9 ..) ?_);(try simp only[Nr,Nl,wl,Nat.reduceAdd,Nat.reduceMul,Int.reduceToNat])
 (refine Jd ?_;intros)
 refine Tr.xIntS (v:=byI l 12) (Al9 (by omega)) ?_
 (refine Jd ?_;intros)
 simp only [byI,Az5]
 refine Tr.jmp U7 (Tr.eq (Af9 ..) ?_);(try simp only[Nr,Nl,wl,Nat.reduceAdd,Nat.reduceMul,Int.reduceToNat])
 (refine Jd ?_;intros)
 refine Tr.xIntS (v:=byI l 13) (Al9 (by omega)) ?_
 (refine Jd ?_;intros)
 simp only [byI,Az5]
 refine Tr.jmp U7 (Tr.eq (Af9 ..) ?_);(try simp only[Nr,Nl,wl,Nat.reduceAdd,Nat.reduceMul,Int.reduceToNat])
 (refine Jd ?_;intros)
 refine Tr.xIntS (v:=byI l 14) (Al9 (by omega)) ?_
 (refine Jd ?_;intros)
 simp only [byI,Az5]
 refine Tr.jmp U7 (Tr.eq (Af9 ..) ?_);(try simp only[Nr,Nl,wl,Nat.reduceAdd,Nat.reduceMul,Int.reduceToNat])
 (refine Jd ?_;intros)
 refine Tr.xIntS (v:=byI l 15) (Al9 (by omega)) ?_
 (refine Jd ?_;intros)
 simp only [byI,Az5]
 refine Tr.jmp U7 (Tr.eq (Af9 ..) ?_);(try simp only[Nr,Nl,wl,Nat.reduceAdd,Nat.reduceMul,Int.reduceToNat])
 (refine Jd ?_;intros)
 refine Tr.xIntS (v:=byI l 16) (Al9 (by omega)) ?_
 (refine Jd ?_;intros)
 simp only [byI,Az5]
 refine Tr.jmp U7 (Tr.eq (Af9 ..) ?_);(try simp only[Nr,Nl,wl,Nat.reduceAdd,Nat.reduceMul,Int.reduceToNat])
 (refine Jd ?_;intros)
 refine Tr.xIntS (v:=byI l 17) (Al9 (by omega)) ?_
 (refine Jd ?_;intros)
 simp only [byI,Az5]
 refine Tr.jmp U7 (Tr.eq (Af9 ..) ?_);(try simp only[Nr,Nl,wl,Nat.reduceAdd,Nat.reduceMul,Int.reduceToNat])
 (refine Jd ?_;intros)
 refine Tr.xIntS (v:=byI l 18) (Al9 (by omega)) ?_
 (refine Jd ?_;intros)
 simp only [byI,Az5]
 refine Tr.jmp U7 (Tr.eq (Af9 ..) ?_);(try simp only[Nr,Nl,wl,Nat.reduceAdd,Nat.reduceMul,Int.reduceToNat])
 (refine Jd ?_;intros)
 refine Tr.xIntS (v:=byI l 19) (Al9 (by omega)) ?_
 (refine Jd ?_;intros)
 simp only [byI,Az5]
 refine Tr.jmp U7 (Tr.eq (Af9 ..) ?_);(try simp only[Nr,Nl,wl,Nat.reduceAdd,Nat.reduceMul,Int.reduceToNat])
 refine Yf rfl ?_
 refine Tr.xAgg (xs:=B8 (Bv2 l)) ⟨Nat.le_of_ble_eq_true rfl,rfl⟩ ?_
 refine Yc (Hg6 (Bv2 l)) ?_
 rintro v h (⟨hk,a1,rfl,o⟩|⟨hk,rfl,o⟩)
 ·refine (?_:Tr _ _ _ _) o
  refine Je ?_
  refine Tr.dx ?_
  refine Tr.dx ?_
  refine Tr.dx ?_
  refine Tr.xAgg (xs:=B8 (Bv2 l)) ⟨Nat.le_of_ble_eq_true rfl,rfl⟩ ?_
  refine Yb (Yt rfl ?_)
  refine Tr.pcall (key a1) ?_
  refine Tr.dx ?_
  refine Tr.xAgg (xs:=B8 (Bv2 l)) ⟨Nat.le_of_ble_eq_true rfl,rfl⟩ ?_
  (refine Ja ?_;intros)
  refine Ys fun o=>(?_:Tr _ _ _ _) o;refine Je ?_
  (refine Ja ?_;intros)
  refine Ys fun o=>?_
  exact ⟨by unfold isS;rw [hk,Bool.true_and],o.sub⟩
 ·refine (?_:Tr _ _ _ _) o
  refine Je ?_
  refine Tr.dx ?_
  refine Tr.dx ?_
  refine Tr.dx ?_
  refine Tr.xAgg (xs:=B8 (Bv2 l)) ⟨Nat.le_of_ble_eq_true rfl,rfl⟩ ?_
  (refine Ja ?_;intros)
  refine Ys fun o=>?_
  exact ⟨by unfold isS;rw [hk];rfl,o.sub⟩
theorem H86 (k:Nat) (pb:HP) (ro:Bool) (a:Option Addr) (c:Nat) (l:List UInt8) (hl:l.length=24) [ks:IsSl pb a ro A3 1 24 c (A0 l)]:Ct A5 Ad8 [P0 k,.slice a 24 c] [G56 k,pb] fun v own=>v=.tuple ⟨[.agg ⟨B8 (if isS l then Bv2 l else .zero)⟩,.bool (isS l)]⟩∧own [G56 k,pb]:=by
 refine Ct.of Dq9 rfl fun h r=>Tr.eq (Dq3 ..) ?_;refine Je ?_
 (refine Ja ?_;intros)
 refine Yf rfl ?_
 (refine Jb ?_;intros)
 refine Yc (E32 24 pb ro a c l hl (by simp [A7])) ?_;rintro _ h ⟨a1,c1,rfl,o⟩<;>(refine Jg o ?_;intros)
 refine Yc (Jp0 a1 c1 l hl) ?_;rintro _ h ⟨rfl,o⟩<;>(refine Jg o ?_;intros)
 cases hk:isS l with
 | false =>
  (refine Ja ?_;intros)
  refine Ys fun o=>?_
  exact ⟨rfl,o.sub⟩
 | true =>
  (refine Ja ?_;intros)
  refine Ys fun o=>?_
  exact ⟨rfl,o.sub⟩
def N8 (l:List UInt8):ProcS × Int:=if l.all (·==0) then (.zero,0) else if isS l then (Bv2 l,1) else (.zero,2)
theorem Gz3 (pb:HP) (ro:Bool) (a:Option Addr) (c:Nat) (l:List UInt8) (hl:l.length=24) [ks:IsSl pb a ro A3 1 24 c (A0 l)]:Ct A5 Af4 [.slice a 24 c] [pb] fun v own=>v=.tuple ⟨[.agg ⟨B8 (N8 l).1⟩,int (N8 l).2]⟩∧own [pb]:=by
 refine Ct.of Hm9 rfl fun h r=>Tr.eq (Ho3 ..) ?_;refine Je ?_
 refine Yn fun b1 h=>?_
 refine Yb (Yt rfl ?_)
 refine Tr.pcall (E75 24 pb ro a c l hl (by simp [A7])) ?_;refine Je ?_;(refine Jb ?_;intros)
 refine Ys fun o=>(?_:Tr _ _ _ _) o;refine Je ?_
 cases hb:l.all (·==0) with
 | true =>
  (refine Ja ?_;intros)
  refine Ys fun o=>?_
  exact ⟨by unfold N8;rw [hb];rfl,o.sub⟩
 | false =>
  (refine Jb ?_;intros)
  refine Yc (Hq6) ?_;rintro _ h ⟨k,rfl,o⟩<;>(refine Jg o ?_;intros)
  refine Yc (H86 k pb ro a c l hl) ?_;rintro _ h ⟨rfl,o⟩<;>(refine Jg o ?_;intros)
  cases hk:isS l with
  | false =>
   (refine Ja ?_;intros)
   refine Ys fun o=>?_
   exact ⟨by unfold N8;rw [hb,hk];rfl,o.sub⟩
  | true =>
   (refine Ja ?_;intros)
   refine Ys fun o=>?_
   exact ⟨by unfold N8;rw [hb,hk];rfl,o.sub⟩
theorem I06 (a:Option Addr) (c:Nat) (l:List UInt8) (hl:l.length=24):Ct A5 Af4 [.slice a 24 c] [slC false A3 1 a 24 c (A0 l)] fun v own=>v=.tuple ⟨[.agg ⟨B8 (N8 l).1⟩,int (N8 l).2]⟩∧own [slC false A3 1 a 24 c (A0 l)]:=Gz3 (slC false A3 1 a 24 c (A0 l)) false a c l hl
def P1 (l:List UInt8) (a:Nat) (b:List UInt8):List UInt8:=l.take a++b++l.drop (a+b.length)
theorem An7 {l b:List UInt8} {a:Nat} (h:a+b.length≤l.length):(P1 l a b).length=l.length:=by simp [P1];omega
theorem B55 {l b:List UInt8} {a:Nat} (h:a+b.length≤l.length) (i:Nat):(P1 l a b)[i]?=if a≤i∧i<a+b.length then b[i-a]? else l[i]?:=by
 unfold P1
 by_cases h1:i<a
 ·rw [if_neg (by omega),List.append_assoc,List.getElem?_append_left (by simp;omega),List.getElem?_take,if_pos h1]
 ·rw [List.append_assoc,List.getElem?_append_right (by simp;omega),List.length_take,Nat.min_eq_left (by omega)]
  by_cases h2:i<a+b.length
  ·rw [if_pos ⟨by omega,h2⟩,List.getElem?_append_left (by omega)]
  ·rw [if_neg (by omega),List.getElem?_append_right (by omega),List.getElem?_drop];congr 1;omega
def slice (l:List UInt8) (a n:Nat):List UInt8:=(l.drop a).take n
theorem Di3 (l:List UInt8) (a n i:Nat):(slice l a n)[i]?=if i<n then l[a+i]? else none:=by
 unfold slice;rw [List.getElem?_take];split
 ·rw [List.getElem?_drop]
 ·rfl
theorem Gd7 {l:List UInt8} {a n:Nat} (h:a+n≤l.length):(slice l a n).length=n:=by simp [slice];omega
abbrev Rg:=List (Nat × Nat)
def A67:List UInt8→Rg→List (List UInt8)→List UInt8
 | l,(lo,_)::rg,x::m=>A67 (P1 l lo x) rg m
 | l,_,_=>l
structure Fit (size:Nat) (rg:Rg) (m:List (List UInt8)):Prop where
 len:m.length=rg.length
 each:∀ (j lo n:Nat),rg[j]?=some (lo,n)→lo+n≤size∧∃ x,m[j]?=some x∧x.length=n
def RgOk (rg:Rg):Prop:=∀ (i j lo n lo' n':Nat),i≠j→rg[i]?=some (lo,n)→rg[j]?=some (lo',n')→lo+n≤lo'∨lo'+n'≤lo
theorem Fit.tail {size:Nat} {p:Nat × Nat} {rg:Rg} {x:List UInt8} {m:List (List UInt8)} (f:Fit size (p::rg) (x::m)):Fit size rg m:=⟨by simpa using f.len,fun j lo n h=>by simpa using f.each (j+1) lo n (by simpa using h)⟩
theorem Fit.head {size lo n:Nat} {rg:Rg} {x:List UInt8} {m:List (List UInt8)} (f:Fit size ((lo,n)::rg) (x::m)):lo+n≤size∧x.length=n:=by
 obtain ⟨h,y,hy,hl⟩:=f.each 0 lo n rfl
 simp at hy;subst hy;exact ⟨h,hl⟩
theorem RgOk.tail {p:Nat × Nat} {rg:Rg} (k:RgOk (p::rg)):RgOk rg:=fun i j lo n lo' n' hij hi hj=>k (i+1) (j+1) lo n lo' n' (by omega) (by simpa using hi) (by simpa using hj)
theorem Dw3:∀ {rg:Rg} {m:List (List UInt8)} {l:List UInt8},Fit l.length rg m→(A67 l rg m).length=l.length
 | [],m,l,f=>by simp [A67]
 | (lo,n)::rg,[],l,f=>by simp [A67]
 | (lo,n)::rg,x::m,l,f=>by
  have h:=f.head
  have e:=An7 (l:=l) (b:=x) (a:=lo) (by omega)
  unfold A67
  rw [Dw3 (by rw [e];exact f.tail),e]
theorem Eg5:∀ {rg:Rg} {m:List (List UInt8)} {l:List UInt8},Fit l.length rg m→∀ i,(∀ (j lo n:Nat),rg[j]?=some (lo,n)→i<lo∨lo+n≤i)→(A67 l rg m)[i]?=l[i]?
 | [],m,l,f,i,h=>by simp [A67]
 | (lo,n)::rg,[],l,f,i,h=>by simp [A67]
 | (lo,n)::rg,x::m,l,f,i,h=>by
  have h0:=f.head
  have e:=An7 (l:=l) (b:=x) (a:=lo) (by omega)
  unfold A67
  rw [Eg5 (by rw [e];exact f.tail) i (fun j lo' n' hj=>h (j+1) lo' n' (by simpa using hj)),B55 (by omega),if_neg]
  have:=h 0 lo n rfl;omega
theorem Du9:∀ {rg:Rg} {m:List (List UInt8)} {l:List UInt8},Fit l.length rg m→RgOk rg→∀ (j lo n:Nat) (x:List UInt8),rg[j]?=some (lo,n)→m[j]?=some x→∀ i,i<n→(A67 l rg m)[lo+i]?=x[i]?
 | [],m,l,f,k,j,lo,n,x,h,hx,i,hi=>by simp at h
 | (lo0,n0)::rg,[],l,f,k,j,lo,n,x,h,hx,i,hi=>by simp at hx
 | (lo0,n0)::rg,x0::m,l,f,k,j,lo,n,x,h,hx,i,hi=>by
  have h0:=f.head
  have e:=An7 (l:=l) (b:=x0) (a:=lo0) (by omega)
  unfold A67
  cases j with
  | zero =>
   simp at h hx
   obtain ⟨rfl,rfl⟩:=h;subst hx
   rw [Eg5 (by rw [e];exact f.tail) (lo0+i) (fun j lo' n' hj=>by
    have:=k 0 (j+1) lo0 n0 lo' n' (by omega) rfl (by simpa using hj)
    omega),B55 (by omega),if_pos (by omega)]
   congr 1;omega
  | succ j=>exact Du9 (by rw [e];exact f.tail) k.tail j lo n x (by simpa using h) (by simpa using hx) i hi
theorem Hd1 {rg:Rg} {m:List (List UInt8)} {l:List UInt8} (f:Fit l.length rg m) (k:RgOk rg) {j lo n:Nat} {x:List UInt8} (h:rg[j]?=some (lo,n)) (hx:m[j]?=some x) {a c:Nat} (hc:a+c≤n):slice (A67 l rg m) (lo+a) c=slice x a c:=by
 refine List.ext_getElem? fun i=>?_
 rw [Di3,Di3]
 split
 ·rw [Nat.add_assoc,Du9 f k j lo n x h hx (a+i) (by omega)]
 ·rfl
theorem Fit.set {size:Nat} {rg:Rg} {m:List (List UInt8)} (f:Fit size rg m) {j lo n:Nat} (h:rg[j]?=some (lo,n)) {y:List UInt8} (hy:y.length=n):Fit size rg (m.set j y):=⟨by simpa using f.len,fun i lo' n' hi=>by
 obtain ⟨h1,z,hz,hl⟩:=f.each i lo' n' hi
 refine ⟨h1,?_⟩
 by_cases hij:j=i
 ·subst hij
  rw [h] at hi;cases hi
  exact ⟨y,by simp [(List.getElem?_eq_some_iff.1 hz).1],hy⟩
 ·exact ⟨z,by rw [List.getElem?_set_ne hij];exact hz,hl⟩⟩
theorem Ik5 {rg:Rg} {m:List (List UInt8)} {l:List UInt8} (f:Fit l.length rg m) (k:RgOk rg) {j lo n:Nat} {x:List UInt8} (h:rg[j]?=some (lo,n)) (hx:m[j]?=some x) {a:Nat} {b:List UInt8} (hc:a+b.length≤n):P1 (A67 l rg m) (lo+a) b=A67 l rg (m.set j (P1 x a b)):=by
 obtain ⟨h1,y,hy,hl⟩:=f.each j lo n h
 rw [hx] at hy;cases hy
 have e:=An7 (l:=x) (b:=b) (a:=a) (by omega)
 have f2:=f.set h (y:=P1 x a b) (by omega)
 have lp:=Dw3 f
 refine List.ext_getElem? fun i=>?_
 rw [B55 (by omega)]
 by_cases hi:lo≤i∧i<lo+n
 ·obtain ⟨i',rfl⟩:∃ i',i=lo+i':=⟨i-lo,by omega⟩
  rw [Du9 f2 k j lo n (P1 x a b) h (by simp [(List.getElem?_eq_some_iff.1 hx).1]) i' (by omega),B55 (by omega),Du9 f k j lo n x h hx i' (by omega)]
  by_cases h2:a≤i'∧i'<a+b.length
  ·rw [if_pos (by omega),if_pos h2];congr 1;omega
  ·rw [if_neg (by omega),if_neg h2]
 ·rw [if_neg (by omega)]
  by_cases ho:∃ (j' lo' n':Nat),rg[j']?=some (lo',n')∧lo'≤i∧i<lo'+n'
  ·obtain ⟨j',lo',n',hj',h3,h4⟩:=ho
   have hne:j≠j':=fun e=>by subst e;rw [h] at hj';cases hj';omega
   obtain ⟨_,z,hz,_⟩:=f.each j' lo' n' hj'
   obtain ⟨i',rfl⟩:∃ i',i=lo'+i':=⟨i-lo',by omega⟩
   rw [Du9 f k j' lo' n' z hj' hz i' (by omega),Du9 f2 k j' lo' n' z hj' (by rw [List.getElem?_set_ne hne];exact hz) i' (by omega)]
  ·have hall:∀ (j' lo' n':Nat),rg[j']?=some (lo',n')→i<lo'∨lo'+n'≤i:=fun j' lo' n' hj'=>by
    by_cases hh:lo'≤i∧i<lo'+n'
    ·exact absurd ⟨j',lo',n',hj',hh.1,hh.2⟩ ho
    ·omega
   rw [Eg5 f i hall,Eg5 f2 i hall]
structure RecS where
 kind:Int
 index:Int
deriving DecidableEq
abbrev U5 (r:RecS):List Value:=[int r.kind,int r.index]
structure Fr where
 S:KS
 N:Nat
 env:Int
 caps:List Int
 rg:Rg
structure FrOk (F:Fr):Prop where
 ok:KOk F.N F.S
 hN:F.N+1<1000000000
 ne:0<F.caps.length
 small:F.caps.length≤40
 len:F.rg.length=F.caps.length
 env:¬ (F.env<0∨F.env≥(F.S.envs.length:Int))
 pl:∀ (j:Nat) (cap:Int) (lo n:Nat),F.caps[j]?=some cap→F.rg[j]?=some (lo,n)→∀ (a m:Nat) (right:Int),right=1∨right=2→a+m≤n→W5 F.S.tabs F.S.regs F.env cap right a m=(((lo+a:Nat):Int),0)
 dj:RgOk F.rg
 own:∃ lo,F.rg[0]?=some (lo,492)
 brs:∀ (j lo n:Nat),0<j→F.rg[j]?=some (lo,n)→n=40
def Fr.at (F:Fr) (m:List (List UInt8)):KS:=B89 F.S (A67 F.S.mem F.rg m)
structure CX where
 m:List (List UInt8)
 bad:List RecS
def Ar4:Nat→List RecS→List MapEntry
 | _,[]=>[]
 | i,r::l=>{ key:=.agg ⟨U5 r⟩,val:=int 1,born:=i }::Ar4 (i+1) l
abbrev Jz9 (c k:Nat) (env:Int) (caps:List Int) (bad:List RecS) (x:Option Addr × Nat × Nat):List HP :=
 [pt c (.cells D54 false [P0 k,int env,.slice x.1 caps.length x.2.1,.map (some x.2.2)]),slC false A6 1 x.1 caps.length x.2.1 (caps.map int),pt x.2.2 (.map (Ar4 0 bad) bad.length)]
def R0 (c k:Nat) (env:Int) (caps:List Int) (bad:List RecS):HP:=hex fun x=>sl (Jz9 c k env caps bad x)
instance {c k:Nat} {env:Int} {caps:List Int} {bad:List RecS}:Chk (R0 c k env caps bad) (Jz9 c k env caps bad):=⟨rfl⟩
abbrev cmF (c k:Nat) (F:Fr) (x:CX):List HP:=[E8 k (F.at x.m),R0 c k F.env F.caps x.bad,pu (Fit F.S.mem.length F.rg x.m)]
def cmC (c k:Nat) (F:Fr) (x:CX):HP:=hex fun _:Unit=>sl (cmF c k F x)
instance {c k:Nat} {F:Fr} {x:CX}:Chk (cmC c k F x) (fun _:Unit=>cmF c k F x):=⟨rfl⟩
def J8 (nc:Nat) (kind:Int):Int:=if kind=1 then 8 else if kind=2 then 12 else if kind=3 then 3+nc else 1
def E7 (nc:Nat) (r:RecS):Option (Nat × Nat × Nat) :=
 if r.index<0∨r.index≥J8 nc r.kind then none
 else if r.kind=1 then some (0,24*r.index.toNat,24)
 else if r.kind=2 then some (0,192+8*r.index.toNat,8)
 else if r.kind=3 then if r.index<4 then some (0,288+40*r.index.toNat,40) else some (r.index.toNat-3,0,40)
 else if r.kind=4 then some (0,448,40)
 else some (0,488,4)
def H45 (caps:List Int):Option (Nat × Nat × Nat)→List Value
 | some (j,a,n)=>[int (caps.getD j 0),int a,int n]
 | none=>[int 0,int 0,int 0]
theorem G65 (c k:Nat) (env:Int) (caps:List Int) (bad:List RecS) (kind:Int) (hs:caps.length≤40):CtP A5 Ab5 [P0 c,int kind] [R0 c k env caps bad] (int (J8 caps.length kind)):=by
 have e:IntKind.wrap .i64 (IntKind.wrap .i64 (4+(caps.length:Int))-1)=3+(caps.length:Int):=by rw [B3,B3];omega
 refine CtP.of Es1 rfl fun h r=>Tr.eq (Eo6 ..) ?_;refine Je ?_
 refine B5 (R0 c k env caps bad) fun ⟨a,n,mb⟩=>?_;refine Je ?_
 unfold J8
 by_cases h1:kind=1
 ·refine Yt (by simpa using h1) ?_
  rw [if_pos h1];exact Jz
 refine Yf (by simpa using h1) ?_
 rw [if_neg h1]
 by_cases h2:kind=2
 ·refine Yt (by simpa using h2) ?_
  rw [if_pos h2];exact Jz
 refine Yf (by simpa using h2) ?_
 rw [if_neg h2]
 by_cases h3:kind=3
 ·refine Yt (by simpa using h3) ?_
  rw [if_pos h3];(refine Ja ?_;intros)
  refine Ys fun o=>?_
  rw [e];exact ⟨by first|rfl|trivial,by first|rfl|trivial⟩
 refine Yf (by simpa using h3) ?_
 rw [if_neg h3];exact Jz
theorem Gk4 (c k:Nat) (env:Int) (caps:List Int) (bad:List RecS) (rc:RecS) (hs:caps.length≤40) (hn:0<caps.length):Ct A5 Aa0 [P0 c,.agg ⟨U5 rc⟩] [R0 c k env caps bad] fun v own =>
  v=.tuple ⟨[.agg ⟨H45 caps (E7 caps.length rc)⟩,.bool (E7 caps.length rc).isSome]⟩∧own [R0 c k env caps bad]:=by
 have hg:∀ j,j<caps.length→(caps.map int)[j]?=some (int (caps.getD j 0)):=fun j hj=>by rw [List.getElem?_map,U8 0 hj];rfl
 refine Ct.of Ej1 rfl fun h r=>Tr.eq (Ej5 ..) ?_;refine Je ?_
 (refine Jb ?_;intros)
 refine Tr.orG (c:=decide (rc.index≥J8 caps.length rc.kind)) (fun hb=>?_) ?_
 ·(refine Ja ?_;intros)
  refine Tr.pcall (G65 c k env caps bad rc.kind hs) ?_;refine Je ?_;exact Jz
 by_cases hi:rc.index<0∨rc.index≥J8 caps.length rc.kind
 ·refine Yt (by simp only [Bool.or_eq_true,decide_eq_true_eq];exact hi) ?_
  have e:E7 caps.length rc=none:=by unfold E7;rw [if_pos hi]
  rw [e]
  (refine Ja ?_;intros)
  refine Ys fun o=>?_
  exact ⟨rfl,o.sub⟩
 refine Yf (by simp only [Bool.or_eq_false_iff,decide_eq_false_iff_not];omega) ?_
 refine B5 (R0 c k env caps bad) fun ⟨a,n,mb⟩=>?_;refine Je ?_
 (refine Ja ?_;intros;repeat(refine Gw ?_;rintro px rfl;refine Ja ?_;intros))
 refine Tr.xIntS (v:=caps.getD 0 0) (hg 0 hn) ?_
 (refine Ja ?_;intros)
 by_cases h1:rc.kind=1
 ·refine Yt (by simpa using h1) ?_
  have e:E7 caps.length rc=some (0,24*rc.index.toNat,24):=by unfold E7;rw [if_neg hi,if_pos h1]
  have hm:J8 caps.length rc.kind=8:=by unfold J8;rw [if_pos h1]
  have e1:IntKind.wrap .i64 (24*rc.index)=((24*rc.index.toNat:Nat):Int):=by rw [B3];omega
  rw [e,e1]
  (refine Ja ?_;intros)
  refine B4 (R0 c k env caps bad) ⟨some px,n,mb⟩ ?_;refine Je ?_
  refine Ys fun o=>?_
  exact ⟨rfl,o.sub⟩
 refine Yf (by simpa using h1) ?_
 by_cases h2:rc.kind=2
 ·(refine Ja ?_;intros)
  refine Yt (by simpa using h2) ?_
  have e:E7 caps.length rc=some (0,192+8*rc.index.toNat,8):=by unfold E7;rw [if_neg hi,if_neg h1,if_pos h2]
  have hm:J8 caps.length rc.kind=12:=by unfold J8;rw [if_neg h1,if_pos h2]
  have e1:IntKind.wrap .i64 (192+IntKind.wrap .i64 (8*rc.index))=((192+8*rc.index.toNat:Nat):Int):=by rw [B3,B3];omega
  rw [e,e1]
  (refine Ja ?_;intros)
  refine B4 (R0 c k env caps bad) ⟨some px,n,mb⟩ ?_;refine Je ?_
  refine Ys fun o=>?_
  exact ⟨rfl,o.sub⟩
 (refine Ja ?_;intros)
 refine Yf (by simpa using h2) ?_
 (refine Jb ?_;intros)
 refine Tr.andG (c:=decide (rc.index<4)) (fun hb=>?_) ?_
 ·exact Jz
 by_cases h3:rc.kind=3
 ·have hm:J8 caps.length rc.kind=3+caps.length:=by unfold J8;rw [if_neg h1,if_neg h2,if_pos h3]
  by_cases h4:rc.index<4
  ·refine Yt (by simp [h3,h4]) ?_
   have e:E7 caps.length rc=some (0,288+40*rc.index.toNat,40):=by unfold E7;rw [if_neg hi,if_neg h1,if_neg h2,if_pos h3,if_pos h4]
   have e1:IntKind.wrap .i64 (288+IntKind.wrap .i64 (40*rc.index))=((288+40*rc.index.toNat:Nat):Int):=by rw [B3,B3];omega
   rw [e,e1]
   (refine Ja ?_;intros)
   refine B4 (R0 c k env caps bad) ⟨some px,n,mb⟩ ?_;refine Je ?_
   refine Ys fun o=>?_
   exact ⟨rfl,o.sub⟩
  ·refine Yf (by simp [h4]) ?_
   have e:E7 caps.length rc=some (rc.index.toNat-3,0,40):=by unfold E7;rw [if_neg hi,if_neg h1,if_neg h2,if_pos h3,if_neg h4]
   have e1:IntKind.wrap .i64 (IntKind.wrap .i64 (rc.index-4)+1)=((rc.index.toNat-3:Nat):Int):=by rw [B3,B3];omega
   rw [e,e1]
   (refine Ja ?_;intros)
   refine Yt (by simpa using h3) ?_
   (refine Ja ?_;intros)
   rw [Int.toNat_natCast]
   refine Je ?_
   refine Tr.xIntS (v:=caps.getD (rc.index.toNat-3) 0) (hg _ (by omega)) ?_
   (refine Ja ?_;intros)
   refine B4 (R0 c k env caps bad) ⟨some px,n,mb⟩ ?_;refine Je ?_
   refine Ys fun o=>?_
   exact ⟨rfl,o.sub⟩
 refine Yf (by simp [h3]) ?_
 (refine Ja ?_;intros)
 refine Yf (by simpa using h3) ?_
 (refine Ja ?_;intros)
 by_cases h4:rc.kind=4
 ·refine Yt (by simpa using h4) ?_
  have e:E7 caps.length rc=some (0,448,40):=by unfold E7;rw [if_neg hi,if_neg h1,if_neg h2,if_neg h3,if_pos h4]
  rw [e]
  (refine Ja ?_;intros)
  refine B4 (R0 c k env caps bad) ⟨some px,n,mb⟩ ?_;refine Je ?_
  refine Ys fun o=>?_
  exact ⟨rfl,o.sub⟩
 refine Yf (by simpa using h4) ?_
 have e:E7 caps.length rc=some (0,488,4):=by unfold E7;rw [if_neg hi,if_neg h1,if_neg h2,if_neg h3,if_neg h4]
 rw [e]
 (refine Ja ?_;intros)
 refine B4 (R0 c k env caps bad) ⟨some px,n,mb⟩ ?_;refine Je ?_
 refine Ys fun o=>?_
 exact ⟨rfl,o.sub⟩
theorem I93:Au9 PR 8 B6=some [TypeDesc.int .i64,TypeDesc.int .i64]:=by kernel_rfl
theorem Jt2:E30 PR B6=some true:=by kernel_rfl
instance {a b:Int}:KeyC PR B6 (.agg ⟨[.int .i64 a,.int .i64 b]⟩):=⟨fun x=>by
 unfold NN.keyN;rw [I93,Jt2];rfl⟩
theorem Gf2 (r:RecS):∀ (l:List RecS) (i j:Nat),Ar5 (.agg ⟨U5 r⟩) (Ar4 j l) i=some (if r ∈ l then some (i+l.idxOf r) else none)
 | [],i,j=>by simp [Ar4,Ar5]
 | q::l,i,j=>by
  have ih:=Gf2 r l (i+1) (j+1)
  obtain ⟨qk,qi⟩:=q
  obtain ⟨rk,ri⟩:=r
  simp only [Ar4,Ar5,Bx6,U5,eqs,eq1,decide_true,List.mem_cons] at ih ⊢
  by_cases h:rk=qk∧ri=qi
  ·obtain ⟨rfl,rfl⟩:=h
   simp
  ·have e:(rk==qk && (ri==qi && true))=false:=by
    rw [Bool.and_eq_false_iff]
    by_cases h1:rk=qk
    ·right;simp;intro h2;exact h ⟨h1,h2⟩
    ·left;simpa using h1
   have hne:¬ (({ kind:=rk,index:=ri }:RecS)={ kind:=qk,index:=qi }):=fun e=>by
    rw [RecS.mk.injEq] at e;exact h e
   rw [e]
   simp only [hne,false_or]
   rw [ih,List.idxOf_cons]
   have:(({ kind:=qk,index:=qi }:RecS)=={ kind:=rk,index:=ri })=false:=by
    rw [beq_eq_false_iff_ne];exact fun e=>hne e.symm
   rw [this,cond_false]
   split<;>simp;omega
theorem Ed7:∀ (l:List RecS) (j:Nat),(Ar4 j l).length=l.length
 | [],_=>rfl
 | _::l,j=>by simp [Ar4,Ed7 l]
theorem Ic4:∀ (l:List RecS) (j i:Nat) (r:RecS),l[i]?=some r→(Ar4 j l)[i]?=some { key:=.agg ⟨U5 r⟩,val:=int 1,born:=j+i }
 | [],_,i,r,h=>by simp at h
 | q::l,j,0,r,h=>by simp at h;subst h;rfl
 | q::l,j,i+1,r,h=>by
  have:=Ic4 l (j+1) i r (by simpa using h)
  rw [Ar4,List.getElem?_cons_succ,this];congr 2;omega
theorem B22 (r:RecS) (l:List RecS):Au7 (int 0) (.agg ⟨U5 r⟩) (Ar4 0 l)=some (if r ∈ l then (int 1,true) else (int 0,false)):=by
 unfold Au7
 rw [Gf2]
 by_cases h:r ∈ l
 ·rw [if_pos h,if_pos h]
  have hi:=List.idxOf_lt_length_of_mem h
  have hg:l[l.idxOf r]?=some r:=by rw [List.getElem?_eq_getElem hi,List.getElem_idxOf]
  simp only [Nat.zero_add]
  rw [Ic4 l 0 _ r hg]
 ·rw [if_neg h,if_neg h]
theorem Ia6:∀ (l m:List RecS) (j:Nat),Ar4 j (l++m)=Ar4 j l++Ar4 (j+l.length) m
 | [],m,j=>by simp [Ar4]
 | q::l,m,j=>by simp only [List.cons_append,Ar4,Ia6 l m (j+1),List.length_cons];congr 2;congr 1;omega
theorem E03 {r:RecS} {l:List RecS} (h:¬ r ∈ l):Ep6 (int 0) (.agg ⟨U5 r⟩) (Ar4 0 l) l.length=some (int 0,l.length,.map (Ar4 0 l++[{ key:=.agg ⟨U5 r⟩,val:=int 0,born:=l.length }]) (l.length+1)):=by
 unfold Ep6;rw [Gf2,if_neg h]
theorem Hv3 (r:RecS) (e:MapEntry):∀ (l:List RecS) (i j:Nat),¬ r ∈ l→Ar5 (.agg ⟨U5 r⟩) (Ar4 j l++[e]) i=Ar5 (.agg ⟨U5 r⟩) [e] (i+l.length)
 | [],i,j,h=>by simp [Ar4]
 | q::l,i,j,h=>by
  have ih:=Hv3 r e l (i+1) (j+1) (fun hm=>h (List.mem_cons_of_mem _ hm))
  have hq:Bx6 (.agg ⟨U5 r⟩) (.agg ⟨U5 q⟩)=some false:=by
   obtain ⟨qk,qi⟩:=q
   obtain ⟨rk,ri⟩:=r
   simp only [Bx6,U5,eqs,eq1,decide_true]
   congr 1
   rw [Bool.and_eq_false_iff]
   by_cases h1:rk=qk
   ·right;simp;intro h2;exact h (by subst h1 h2;exact List.mem_cons_self ..)
   ·left;simpa using h1
  show (match Bx6 (.agg ⟨U5 r⟩) (.agg ⟨U5 q⟩) with
   | some true=>some (some i)
   | some false=>Ar5 (.agg ⟨U5 r⟩) (Ar4 (j+1) l++[e]) (i+1)
   | none=>none)=_
  rw [hq]
  simp only
  rw [ih];congr 1;simp;omega
theorem El7 {r:RecS} {l:List RecS} (h:¬ r ∈ l):Au7 (int 0) (.agg ⟨U5 r⟩) (Ar4 0 l++[{ key:=.agg ⟨U5 r⟩,val:=int 0,born:=l.length }])=some (int 0,true):=by
 unfold Au7
 rw [Hv3 r _ l 0 0 h]
 obtain ⟨rk,ri⟩:=r
 simp only [Ar5,Bx6,U5,eqs,eq1,decide_true,BEq.rfl,Bool.and_self,Nat.zero_add]
 rw [List.getElem?_append_right (by rw [Ed7];exact Nat.le_refl _),Ed7];simp
theorem Dz5:∀ (l:List RecS) (j:Nat) (n:Nat) (e:MapEntry) (i:Nat),e.born=n→j+l.length≤n→B49 (n:Int) (Ar4 j l++[e]) i=some (i+l.length)
 | [],j,n,e,i,h,hl=>by simp [Ar4,B49,h]
 | q::l,j,n,e,i,h,hl=>by
  have ih:=Dz5 l (j+1) n e (i+1) h (by simp at hl;omega)
  simp only [Ar4,List.cons_append,B49]
  have:(((j:Nat):Int)==(n:Int))=false:=by simp at hl ⊢;omega
  rw [this,cond_false,ih];congr 1;simp;omega
theorem Hr8 (f:MapEntry→MapEntry) (e:MapEntry):∀ (l:List MapEntry),modN f l.length (l++[e])=l++[f e]
 | []=>rfl
 | q::l=>by simp [modN,Hr8 f e l]
theorem E85 (r:RecS) (l:List RecS):modN (fun e=>{ e with val:=int (IntKind.wrap .i64 (0+1)) }) l.length (Ar4 0 l++[{ key:=.agg ⟨U5 r⟩,val:=int 0,born:=l.length }])=Ar4 0 (l++[r]):=by
 rw [show l.length=(Ar4 0 l).length from (Ed7 l 0).symm,Hr8,Ia6]
 simp [Ar4,Ed7];decide
theorem Fr.mem_at (F:Fr) (m:List (List UInt8)):(F.at m).mem=A67 F.S.mem F.rg m:=rfl
theorem Fr.at_ok {F:Fr} (k:FrOk F) {m:List (List UInt8)} (f:Fit F.S.mem.length F.rg m):KOk F.N (F.at m):=by
 have:=k.ok
 exact ⟨this.envs,this.tabs,this.space,this.quota,by rw [Fr.mem_at,Dw3 f];exact this.mem,this.regs,this.may,this.mayl,this.nsect,this.sects,this.now⟩
theorem Jd6 {F:Fr} (k:FrOk F) {r:RecS} {j a n:Nat} (h:E7 F.caps.length r=some (j,a,n)):∃ lo z,F.rg[j]?=some (lo,z)∧a+n≤z∧j<F.caps.length:=by
 obtain ⟨lo0,h0⟩:=k.own
 have hl:=k.len;have hn:=k.ne
 unfold E7 at h
 split at h;· cases h
 rename_i hi
 split at h
 ·rename_i h1
  have hm:J8 F.caps.length r.kind=8:=by unfold J8;rw [if_pos h1]
  cases h;exact ⟨lo0,492,h0,by omega,hn⟩
 rename_i h1
 split at h
 ·rename_i h2
  have hm:J8 F.caps.length r.kind=12:=by unfold J8;rw [if_neg h1,if_pos h2]
  cases h;exact ⟨lo0,492,h0,by omega,hn⟩
 rename_i h2
 split at h
 ·rename_i h3
  have hm:J8 F.caps.length r.kind=3+F.caps.length:=by unfold J8;rw [if_neg h1,if_neg h2,if_pos h3]
  split at h
  ·cases h;exact ⟨lo0,492,h0,by omega,hn⟩
  ·cases h
   have hlt:r.index.toNat-3<F.rg.length:=by omega
   have hg:=List.getElem?_eq_getElem hlt
   generalize hx:F.rg[r.index.toNat-3]=x at hg
   obtain ⟨lo,z⟩:=x
   have:=k.brs _ lo z (by omega) hg
   exact ⟨lo,z,hg,by omega,by omega⟩
 split at h<;>(cases h;exact ⟨lo0,492,h0,by omega,hn⟩)
def Aa3 (kind:Int):Nat:=if kind=1 then 24 else if kind=2 then 8 else if kind=3 then 40 else if kind=4 then 40 else 4
theorem D83 {nc:Nat} {r:RecS} {j a n:Nat} (h:E7 nc r=some (j,a,n)):n=Aa3 r.kind:=by
 unfold E7 at h;unfold Aa3
 split at h;· cases h
 split at h
 ·rename_i h1;cases h;rw [if_pos h1]
 rename_i h1
 rw [if_neg h1]
 split at h
 ·rename_i h2;cases h;rw [if_pos h2]
 rename_i h2
 rw [if_neg h2]
 split at h
 ·rename_i h3;rw [if_pos h3];split at h<;>(cases h;rfl)
 rename_i h3
 rw [if_neg h3]
 split at h
 ·rename_i h4;cases h;rw [if_pos h4]
 ·rename_i h4;cases h;rw [if_neg h4]
def rdX (X:CX) (r:RecS):Option (List UInt8) :=
 match E7 X.m.length r with
 | some (j,a,n)=>if r ∈ X.bad then none else some (slice (X.m.getD j []) a n)
 | none=>none
def wrX (X:CX) (r:RecS) (b:List UInt8) (ok:Bool):Bool × CX :=
 match E7 X.m.length r with
 | some (j,a,n)=>if ok=true∧¬ r ∈ X.bad then (true,{ X with m:=X.m.set j (P1 (X.m.getD j []) a b) }) else (false,X)
 | none=>(false,X)
theorem Fit.mlen {F:Fr} (k:FrOk F) {m:List (List UInt8)} (f:Fit F.S.mem.length F.rg m):m.length=F.caps.length:=by rw [f.len,k.len]
theorem Ez5 {F:Fr} (k:FrOk F) {m:List (List UInt8)} (f:Fit F.S.mem.length F.rg m) {r:RecS} {j a n:Nat} (h:E7 F.caps.length r=some (j,a,n)) :
  ∃ lo z cap,F.caps[j]?=some cap∧F.rg[j]?=some (lo,z)∧a+n≤z∧m[j]?=some (m.getD j [])∧(m.getD j []).length=z∧lo+z≤F.S.mem.length∧cap=F.caps.getD j 0:=by
 obtain ⟨lo,z,hr,ha,hj⟩:=Jd6 k h
 obtain ⟨h1,x,hx,hl⟩:=f.each j lo z hr
 have e:m.getD j []=x:=by rw [List.getD_eq_getElem?_getD,hx];rfl
 exact ⟨lo,z,F.caps.getD j 0,U8 0 hj,hr,ha,by rw [e];exact hx,by rw [e];exact hl,h1,rfl⟩
theorem Jq4 {F:Fr} (k:FrOk F) {X:CX} (f:Fit F.S.mem.length F.rg X.m) {r:RecS} {l:List UInt8} (h:rdX X r=some l):l.length=Aa3 r.kind:=by
 unfold rdX at h
 rw [f.mlen k] at h
 cases hp:E7 F.caps.length r with
 | none=>rw [hp] at h;cases h
 | some p =>
  obtain ⟨j,a,n⟩:=p
  rw [hp] at h
  obtain ⟨lo,z,cap,_,_,ha,hx,hl,_⟩:=Ez5 k f hp
  simp only at h
  split at h
  ·cases h
  ·cases h;rw [Gd7 (by omega),D83 hp]
theorem J14 {F:Fr} (k:FrOk F) {m:List (List UInt8)} (f:Fit F.S.mem.length F.rg m) {r:RecS} {j a n:Nat} (h:E7 F.caps.length r=some (j,a,n)) :
  Ag7 (F.at m) F.env ⟨1,F.caps.getD j 0,(a:Int),(n:Int),0,0,[]⟩=((0,0,slice (m.getD j []) a n),F.at m):=by
 obtain ⟨lo,z,cap,hc,hr,ha,hx,hl,hz,rfl⟩:=Ez5 k f h
 have hp:=k.pl j _ lo z hc hr a n 1 (.inl rfl) ha
 have lp:=Dw3 f
 have hb:Dy7 (A67 F.S.mem F.rg m) ((lo+a:Nat):Int) (n:Int)=some (slice (m.getD j []) a n):=by
  unfold Dy7
  rw [if_pos (by rw [lp];omega),Int.toNat_natCast,Int.toNat_natCast]
  rw [← Hd1 f k.dj hr hx ha];rfl
 have e:A33 (F.at m).tabs (F.at m).regs (F.at m).mem F.env (F.caps.getD j 0) (a:Int) (n:Int)=(slice (m.getD j []) a n,0):=by
  unfold A33
  rw [show W5 (F.at m).tabs (F.at m).regs F.env (F.caps.getD j 0) 1 (a:Int) (n:Int)=(((lo+a:Nat):Int),0) from hp]
  rw [if_neg (by simp),show Dy7 (F.at m).mem _ _=_ from hb]
 unfold Ag7
 rw [if_neg (show ¬ (F.env<0∨F.env≥((F.at m).envs.length:Int)) from k.env)]
 unfold kDo
 rw [if_pos rfl,e]
theorem Jy5 {F:Fr} (k:FrOk F) {m:List (List UInt8)} (f:Fit F.S.mem.length F.rg m) {r:RecS} {j a n:Nat} (h:E7 F.caps.length r=some (j,a,n)) {b:List UInt8} (hb:b.length=n) :
  Ag7 (F.at m) F.env ⟨2,F.caps.getD j 0,(a:Int),0,0,0,b⟩=((0,0,[]),F.at (m.set j (P1 (m.getD j []) a b))):=by
 obtain ⟨lo,z,cap,hc,hr,ha,hx,hl,hz,rfl⟩:=Ez5 k f h
 have hp:=k.pl j _ lo z hc hr a n 2 (.inr rfl) ha
 have lp:=Dw3 f
 have hs:Br6 (A67 F.S.mem F.rg m) ((lo+a:Nat):Int) b=some (A67 F.S.mem F.rg (m.set j (P1 (m.getD j []) a b))):=by
  unfold Br6
  rw [if_pos (by rw [lp];omega),Int.toNat_natCast]
  rw [← Ik5 f k.dj hr hx (by omega)];rfl
 have e:Aw7 (F.at m).tabs (F.at m).regs (F.at m).mem F.env (F.caps.getD j 0) (a:Int) b=(0,A67 F.S.mem F.rg (m.set j (P1 (m.getD j []) a b))):=by
  unfold Aw7
  rw [hb,show W5 (F.at m).tabs (F.at m).regs F.env (F.caps.getD j 0) 2 (a:Int) (n:Int)=(((lo+a:Nat):Int),0) from hp]
  rw [if_neg (by simp),show Br6 (F.at m).mem _ _=_ from hs]
 unfold Ag7
 rw [if_neg (show ¬ (F.env<0∨F.env≥((F.at m).envs.length:Int)) from k.env)]
 unfold kDo
 rw [if_neg (show ¬ ((2:Int)=1) by decide),if_pos rfl,e];rfl
theorem Js2 {F:Fr} (k:FrOk F) {X:CX} (f:Fit F.S.mem.length F.rg X.m) {r:RecS} {b:List UInt8} {ok:Bool} (hb:ok=true→b.length=Aa3 r.kind):Fit F.S.mem.length F.rg (wrX X r b ok).2.m:=by
 unfold wrX
 rw [f.mlen k]
 cases hp:E7 F.caps.length r with
 | none=>exact f
 | some p =>
  obtain ⟨j,a,n⟩:=p
  obtain ⟨lo,z,cap,hc,hr,ha,hx,hl,hz,_⟩:=Ez5 k f hp
  simp only
  split
  ·rename_i hk
   exact f.set hr (by rw [An7 (by rw [hb hk.1,← D83 hp];omega)];exact hl)
  ·exact f
instance {caps:List Int} {o:Option (Nat × Nat × Nat)}:LenC (H45 caps o) 3:=⟨by cases o<;>rfl⟩
theorem Jj4 (caps:List Int) (o:Option (Nat × Nat × Nat)):(H45 caps o).all Value.oneCell=true:=by cases o<;>rfl
instance {caps:List Int} {o:Option (Nat × Nat × Nat)} {cs:List Value} [k:LenC cs 3]:SetsC cs 0 (H45 caps o) (H45 caps o):=⟨Dg8 k.ok LenC.ok (Jj4 caps o)⟩
instance {rc:RecS}:PartC (U5 rc) 0 2 (U5 rc):=⟨rfl⟩
theorem In8 (r:RecS) (l:List RecS):(if r ∈ l then (int 1,true) else (int 0,false))=(int (if r ∈ l then 1 else 0),decide (r ∈ l)):=by split<;>simp [*]
theorem Iq9 (r:RecS) (l:List RecS):decide ((if r ∈ l then (1:Int) else 0)>0)=decide (r ∈ l):=by split<;>simp [*]
theorem Ew7 (k:Nat) (S:KS) (N:Nat) (ok:KOk N S) (hN:N+1<1000000000) (env:Int) (c:CallS) (ba:Option Addr) (bc:Nat) (ro:Bool) (h5:c.op≠5) :
  Ct A5 Ab3 [P0 k,int env,.agg ⟨B28 c ba bc⟩] [E8 k S,slC ro A3 1 ba c.b.length bc (A0 c.b)] fun v own=>∃ x d,v=.agg ⟨[int (Ag7 S env c).1.1,int (Ag7 S env c).1.2.1,.slice x (Ag7 S env c).1.2.2.length d]⟩ ∧
    own [slC false A3 1 x (Ag7 S env c).1.2.2.length d (A0 (Ag7 S env c).1.2.2),E8 k (Ag7 S env c).2,slC ro A3 1 ba c.b.length bc (A0 c.b)]:=by
 intro h r o
 obtain ⟨pq,o1⟩:=Own.ex (f:=fun pq=>slX ro A3 1 ba c.b.length bc pq (A0 c.b)) (o.perm (.swap _ _ _))
 obtain ⟨v,h',e,x,d,rfl,o2⟩:=I92 k S N ok hN env c ba bc ro pq h5 h r (o1.perm (.swap _ _ _))
 refine ⟨_,h',e,x,d,rfl,?_⟩
 have o3:=o2.picks [2] rfl
 exact (Own.inex (f:=fun pq=>slX ro A3 1 ba c.b.length bc pq (A0 c.b)) pq o3).picks [1,1,0] rfl
theorem E60 (c k:Nat) (F:Fr) (X:CX) (rc:RecS) (ok:FrOk F):Ct A5 V6 [P0 c,.agg ⟨U5 rc⟩] [cmC c k F X] fun v own =>
  (∃ l a cp,rdX X rc=some l∧l.length=Aa3 rc.kind∧v=.tuple ⟨[.slice a l.length cp,.bool true]⟩∧own [slC false A3 1 a l.length cp (A0 l),cmC c k F X]) ∨
  (rdX X rc=none∧v=.tuple ⟨[.slice none 0 0,.bool false]⟩∧own [cmC c k F X]):=by
 refine Ct.of Es0 rfl fun h r=>Tr.eq (Ep4 ..) ?_;refine Je ?_
 refine B5 (cmC c k F X) fun u=>?_;refine Je ?_
 refine Q4 2 rfl fun f=>?_
 (refine Ja ?_;intros)
 refine Yc (Gk4 c k F.env F.caps X.bad rc ok.small ok.ne) ?_;rintro _ h ⟨rfl,o⟩<;>(refine Jg o ?_;intros)
 have em:=f.mlen ok
 cases hp:E7 F.caps.length rc with
 | none =>
  (refine Jb ?_;intros)
  refine Yb (Yt rfl ?_)
  refine Ys fun o=>(?_:Tr _ _ _ _) o;refine Je ?_
  (refine Ja ?_;intros)
  refine B4 (cmC c k F X) () ?_;refine Je ?_
  refine Ys fun o=>?_
  exact .inr ⟨by unfold rdX;rw [em,hp],rfl,o.sub⟩
 | some p =>
  obtain ⟨j,a,n⟩:=p
  refine B5 (R0 c k F.env F.caps X.bad) fun ⟨ca,cn,mb⟩=>?_;refine Je ?_
  (refine Jb ?_;intros)
  refine Tr.orG (c:=decide (rc ∈ X.bad)) (fun _=>?_) ?_
  ·(refine Ja ?_;intros)
   rw [B22,In8]
   (refine Ja ?_;intros)
   refine Ys fun o=>?_
   rw [Iq9];exact ⟨by first|rfl|trivial,by first|rfl|trivial⟩
  by_cases hb:rc ∈ X.bad
  ·rw [decide_eq_true hb]
   (refine Ja ?_;intros)
   refine B4 (R0 c k F.env F.caps X.bad) ⟨ca,cn,mb⟩ ?_;refine Je ?_
   refine B4 (cmC c k F X) () ?_;refine Je ?_
   refine Ys fun o=>?_
   exact .inr ⟨by unfold rdX;rw [em,hp];exact if_pos hb,rfl,o.sub⟩
  ·rw [decide_eq_false hb]
   refine Yf rfl ?_
   (refine Ja ?_;intros)
   refine B4 (R0 c k F.env F.caps X.bad) ⟨ca,cn,mb⟩ ?_;refine Je ?_
   have J:=Ju1 k (F.at X.m) F.N (F.at_ok ok f) ok.hN F.env 1 (F.caps.getD j 0) (a:Int) (n:Int) 0 0 (by decide)
   rw [J14 ok f hp] at J
   refine Yc (J) ?_;rintro _ h ⟨y,d,rfl,o⟩<;>(refine Jf o ?_;intros)
   refine Yf rfl ?_
   (refine Ja ?_;intros)
   refine B4 (cmC c k F X) () ?_;refine Je ?_
   refine Ys fun o=>?_
   have e:rdX X rc=some (slice (X.m.getD j []) a n):=by unfold rdX;rw [em,hp];exact if_neg hb
   exact .inl ⟨_,y,d,e,Jq4 ok f e,rfl,o.sub⟩
theorem Dh7 (c k:Nat) (F:Fr) (X:CX) (rc:RecS) (ok:FrOk F) (bs:List UInt8) (g:Bool) (ba:Option Addr) (bc:Nat) (hb:g=true→bs.length=Aa3 rc.kind) :
  Ct A5 O0 [P0 c,.agg ⟨U5 rc⟩,.slice ba bs.length bc,.bool g] [cmC c k F X,slC false A3 1 ba bs.length bc (A0 bs)] fun v own =>
   v=.bool (wrX X rc bs g).1∧own [cmC c k F (wrX X rc bs g).2,slC false A3 1 ba bs.length bc (A0 bs)]:=by
 refine Ct.of Ej8 rfl fun h r=>Tr.eq (Ej7 ..) ?_;refine Je ?_
 refine B5 (cmC c k F X) fun u=>?_;refine Je ?_
 refine Q4 2 rfl fun f=>?_
 (refine Ja ?_;intros)
 refine Yc (Gk4 c k F.env F.caps X.bad rc ok.small ok.ne) ?_;rintro _ h ⟨rfl,o⟩<;>(refine Jg o ?_;intros)
 have em:=f.mlen ok
 cases hp:E7 F.caps.length rc with
 | none =>
  (refine Jb ?_;intros)
  refine Yb (Yt rfl ?_)
  refine Ys fun o=>(?_:Tr _ _ _ _) o;refine Je ?_
  refine Yb (Yt rfl ?_)
  refine Ys fun o=>(?_:Tr _ _ _ _) o;refine Je ?_
  (refine Ja ?_;intros)
  refine B4 (cmC c k F X) () ?_;refine Je ?_
  refine Ys fun o=>?_
  have e:wrX X rc bs g=(false,X):=by unfold wrX;rw [em,hp]
  rw [e]
  exact ⟨by first|rfl|trivial,o.sub⟩
 | some p =>
  obtain ⟨j,a,n⟩:=p
  refine B5 (R0 c k F.env F.caps X.bad) fun ⟨ca,cn,mb⟩=>?_;refine Je ?_
  (refine Jb ?_;intros)
  refine Yb (Yf rfl ?_)
  refine Ys fun o=>(?_:Tr _ _ _ _) o;refine Je ?_
  (refine Jb ?_;intros)
  refine Tr.orG (c:=decide (rc ∈ X.bad)) (fun _=>?_) ?_
  ·(refine Ja ?_;intros)
   rw [B22,In8]
   (refine Ja ?_;intros)
   refine Ys fun o=>?_
   rw [Iq9];exact ⟨by first|rfl|trivial,by first|rfl|trivial⟩
  by_cases hg:g=true∧¬ rc ∈ X.bad
  ·have e:wrX X rc bs g=(true,{ X with m:=X.m.set j (P1 (X.m.getD j []) a bs) }):=by unfold wrX;rw [em,hp];exact if_pos hg
   have f2:=Js2 (r:=rc) (b:=bs) (ok:=g) ok f hb
   rw [e] at f2
   obtain ⟨rfl,hg2⟩:=hg
   rw [e,decide_eq_false hg2]
   refine Yf rfl ?_
   (refine Ja ?_;intros)
   refine B4 (R0 c k F.env F.caps X.bad) ⟨ca,cn,mb⟩ ?_;refine Je ?_
   have hl:bs.length=n:=by rw [hb rfl,D83 hp]
   have J:=Ew7 k (F.at X.m) F.N (F.at_ok ok f) ok.hN F.env ⟨2,F.caps.getD j 0,(a:Int),0,0,0,bs⟩ ba bc false (show ((2:Int)≠5) by decide)
   rw [Jy5 ok f hp hl] at J
   refine Yc (J) ?_;rintro _ h ⟨y,d,rfl,o⟩<;>(refine Jf o ?_;intros)
   refine A19 (show Fit F.S.mem.length F.rg (X.m.set j (P1 (X.m.getD j []) a bs)) from f2) ?_
   refine B4 (cmC c k F { X with m:=X.m.set j (P1 (X.m.getD j []) a bs) }) () ?_;refine Je ?_
   refine Ys fun o=>?_
   exact ⟨rfl,o.sub⟩
  ·have e:wrX X rc bs g=(false,X):=by unfold wrX;rw [em,hp];exact if_neg hg
   rw [e]
   refine Yt ?_ ?_
   ·cases g with
    | false=>rfl
    | true=>simpa using hg
   refine B4 (R0 c k F.env F.caps X.bad) ⟨ca,cn,mb⟩ ?_;refine Je ?_
   refine B4 (cmC c k F X) () ?_;refine Je ?_
   refine Ys fun o=>?_
   exact ⟨by first|rfl|trivial,o.sub⟩
def Aa7 {α:Type} (dec:List UInt8→α × Int) (z:α) (X:CX) (rc:RecS):(α × Int) × CX :=
 match rdX X rc with
 | some l=>(dec l,if (dec l).2=2 then { X with bad:=X.bad++[rc] } else X)
 | none=>((z,2),X)
theorem E00 {X:CX} {rc:RecS} {l:List UInt8} (h:rdX X rc=some l):¬ rc ∈ X.bad:=by
 unfold rdX at h
 split at h
 ·split at h
  ·cases h
  ·assumption
 ·cases h
theorem I18 (l:List UInt8) (h:(N8 l).2≠1):(N8 l).1=.zero:=by
 unfold N8 at *;split<;>first|rfl|(split<;>first|rfl|(simp_all;done))
theorem I69 (l:List UInt8) (h:(P6 l).2≠1):(P6 l).1=.zero:=by
 unfold P6 at *;split<;>first|rfl|(split<;>first|rfl|(simp_all;done))
theorem Jb2 (l:List UInt8) (h:(N7 l).2≠1):(N7 l).1=.zero:=by
 unfold N7 at *;split<;>first|rfl|(split<;>first|rfl|(simp_all;done))
theorem Jq1 (c k:Nat) (F:Fr) (X:CX) (rc:RecS) (ok:FrOk F) (hk:Aa3 rc.kind=24):Ct A5 O8 [P0 c,.agg ⟨U5 rc⟩,.func (.func Af4) ⟨[]⟩ ⟨[]⟩] [cmC c k F X] fun v own =>
  v=.tuple ⟨[.agg ⟨B8 (Aa7 N8 .zero X rc).1.1⟩,int (Aa7 N8 .zero X rc).1.2]⟩∧own [cmC c k F (Aa7 N8 .zero X rc).2]:=by
 refine Ct.of A35 rfl fun h r=>Tr.eq (D89 ..) ?_;refine Je ?_
 (refine Ja ?_;intros)
 refine Yc (E60 c k F X rc ok) ?_
 rintro v h (⟨l,a,cp,hr,hl,rfl,o⟩|⟨hr,rfl,o⟩)
 ·refine (?_:Tr _ _ _ _) o
  refine Je ?_
  have e:Aa7 N8 .zero X rc=(N8 l,if (N8 l).2=2 then { X with bad:=X.bad++[rc] } else X):=by unfold Aa7;rw [hr]
  have hb:=E00 hr
  rw [e]
  rw [hk] at hl
  rw [hl]
  (refine Ja ?_;intros)
  refine Yc (I06 a cp l hl) ?_;rintro _ h ⟨rfl,o⟩<;>(refine Jf o ?_;intros)
  by_cases h2:(N8 l).2=2
  ·refine Yt (by simpa using h2) ?_
   have hz:=I18 l (by omega)
   simp only [if_pos h2]
   refine B5 (cmC c k F X) fun u=>?_;refine Je ?_
   refine B5 (R0 c k F.env F.caps X.bad) fun ⟨ca,cn,mb⟩=>?_;refine Je ?_
   (refine Ja ?_;intros)
   rw [B22,if_neg hb]
   (refine Ja ?_;intros)
   rw [E03 hb]
   (refine Ja ?_;intros)
   rw [El7 hb]
   (refine Ja ?_;intros)
   rw [Dz5 X.bad 0 X.bad.length _ 0 rfl (by omega),Nat.zero_add]
   (refine Ja ?_;intros)
   rw [E85]
   refine Tr.jmp A35 (Tr.eq (Bj0 ..) ?_);(try simp only[Nr,Nl,wl,Nat.reduceAdd,Nat.reduceMul,Int.reduceToNat])
   refine Yt (by rw [bne_iff_ne];omega) ?_
   (refine Ja ?_;intros)
   rw [show X.bad.length+1=(X.bad++[rc]).length by simp]
   refine B4 (R0 c k F.env F.caps (X.bad++[rc])) ⟨ca,cn,mb⟩ ?_;refine Je ?_
   refine B4 (cmC c k F { X with bad:=X.bad++[rc] }) () ?_;refine Je ?_
   refine Ys fun o=>?_
   exact ⟨by rw [hz]<;>rfl,o.sub⟩
  ·refine Yf (by simpa using h2) ?_
   simp only [if_neg h2]
   refine Tr.jmp A35 (Tr.eq (Bj0 ..) ?_);(try simp only[Nr,Nl,wl,Nat.reduceAdd,Nat.reduceMul,Int.reduceToNat])
   by_cases h1:(N8 l).2=1
   ·refine Yf (by simpa using h1) ?_
    (refine Ja ?_;intros)
    refine Ys fun o=>?_
    exact ⟨rfl,o.sub⟩
   ·refine Yt (by simpa using h1) ?_
    (refine Ja ?_;intros)
    refine Ys fun o=>?_
    exact ⟨by rw [I18 l h1]<;>rfl,o.sub⟩
 ·refine (?_:Tr _ _ _ _) o
  refine Je ?_
  have e:Aa7 N8 .zero X rc=((.zero,2),X):=by unfold Aa7;rw [hr]
  rw [e]
  (refine Ja ?_;intros)
  refine Ys fun o=>?_
  exact ⟨rfl,o.sub⟩
theorem Ju7 (c k:Nat) (F:Fr) (X:CX) (rc:RecS) (ok:FrOk F) (hk:Aa3 rc.kind=8):Ct A5 O6 [P0 c,.agg ⟨U5 rc⟩,.func (.func Ag1) ⟨[]⟩ ⟨[]⟩] [cmC c k F X] fun v own =>
  v=.tuple ⟨[.agg ⟨Ab1 (Aa7 P6 .zero X rc).1.1⟩,int (Aa7 P6 .zero X rc).1.2]⟩∧own [cmC c k F (Aa7 P6 .zero X rc).2]:=by
 refine Ct.of A17 rfl fun h r=>Tr.eq (D69 ..) ?_;refine Je ?_
 (refine Ja ?_;intros)
 refine Yc (E60 c k F X rc ok) ?_
 rintro v h (⟨l,a,cp,hr,hl,rfl,o⟩|⟨hr,rfl,o⟩)
 ·refine (?_:Tr _ _ _ _) o
  refine Je ?_
  have e:Aa7 P6 .zero X rc=(P6 l,if (P6 l).2=2 then { X with bad:=X.bad++[rc] } else X):=by unfold Aa7;rw [hr]
  have hb:=E00 hr
  rw [e]
  rw [hk] at hl
  rw [hl]
  (refine Ja ?_;intros)
  refine Yc (Iw3 a cp l hl) ?_;rintro _ h ⟨rfl,o⟩<;>(refine Jf o ?_;intros)
  by_cases h2:(P6 l).2=2
  ·refine Yt (by simpa using h2) ?_
   have hz:=I69 l (by omega)
   simp only [if_pos h2]
   refine B5 (cmC c k F X) fun u=>?_;refine Je ?_
   refine B5 (R0 c k F.env F.caps X.bad) fun ⟨ca,cn,mb⟩=>?_;refine Je ?_
   (refine Ja ?_;intros)
   rw [B22,if_neg hb]
   (refine Ja ?_;intros)
   rw [E03 hb]
   (refine Ja ?_;intros)
   rw [El7 hb]
   (refine Ja ?_;intros)
   rw [Dz5 X.bad 0 X.bad.length _ 0 rfl (by omega),Nat.zero_add]
   (refine Ja ?_;intros)
   rw [E85]
   refine Tr.jmp A17 (Tr.eq (Bk5 ..) ?_);(try simp only[Nr,Nl,wl,Nat.reduceAdd,Nat.reduceMul,Int.reduceToNat])
   refine Yt (by rw [bne_iff_ne];omega) ?_
   (refine Ja ?_;intros)
   rw [show X.bad.length+1=(X.bad++[rc]).length by simp]
   refine B4 (R0 c k F.env F.caps (X.bad++[rc])) ⟨ca,cn,mb⟩ ?_;refine Je ?_
   refine B4 (cmC c k F { X with bad:=X.bad++[rc] }) () ?_;refine Je ?_
   refine Ys fun o=>?_
   exact ⟨by rw [hz]<;>rfl,o.sub⟩
  ·refine Yf (by simpa using h2) ?_
   simp only [if_neg h2]
   refine Tr.jmp A17 (Tr.eq (Bk5 ..) ?_);(try simp only[Nr,Nl,wl,Nat.reduceAdd,Nat.reduceMul,Int.reduceToNat])
   by_cases h1:(P6 l).2=1
   ·refine Yf (by simpa using h1) ?_
    (refine Ja ?_;intros)
    refine Ys fun o=>?_
    exact ⟨rfl,o.sub⟩
   ·refine Yt (by simpa using h1) ?_
    (refine Ja ?_;intros)
    refine Ys fun o=>?_
    exact ⟨by rw [I69 l h1]<;>rfl,o.sub⟩
 ·refine (?_:Tr _ _ _ _) o
  refine Je ?_
  have e:Aa7 P6 .zero X rc=((.zero,2),X):=by unfold Aa7;rw [hr]
  rw [e]
  (refine Ja ?_;intros)
  refine Ys fun o=>?_
  exact ⟨rfl,o.sub⟩
theorem Iq7 (c k:Nat) (F:Fr) (X:CX) (rc:RecS) (ok:FrOk F) (hk:Aa3 rc.kind=40):Ct A5 J7 [P0 c,.agg ⟨U5 rc⟩,.func (.func Aa6) ⟨[]⟩ ⟨[]⟩] [cmC c k F X] fun v own =>
  v=.tuple ⟨[.agg ⟨I6 (Aa7 N7 .zero X rc).1.1⟩,int (Aa7 N7 .zero X rc).1.2]⟩∧own [cmC c k F (Aa7 N7 .zero X rc).2]:=by
 refine Ct.of A34 rfl fun h r=>Tr.eq (D86 ..) ?_;refine Je ?_
 (refine Ja ?_;intros)
 refine Yc (E60 c k F X rc ok) ?_
 rintro v h (⟨l,a,cp,hr,hl,rfl,o⟩|⟨hr,rfl,o⟩)
 ·refine (?_:Tr _ _ _ _) o
  refine Je ?_
  have e:Aa7 N7 .zero X rc=(N7 l,if (N7 l).2=2 then { X with bad:=X.bad++[rc] } else X):=by unfold Aa7;rw [hr]
  have hb:=E00 hr
  rw [e]
  rw [hk] at hl
  rw [hl]
  (refine Ja ?_;intros)
  refine Yc (Ix4 a cp l hl) ?_;rintro _ h ⟨rfl,o⟩<;>(refine Jf o ?_;intros)
  by_cases h2:(N7 l).2=2
  ·refine Yt (by simpa using h2) ?_
   have hz:=Jb2 l (by omega)
   simp only [if_pos h2]
   refine B5 (cmC c k F X) fun u=>?_;refine Je ?_
   refine B5 (R0 c k F.env F.caps X.bad) fun ⟨ca,cn,mb⟩=>?_;refine Je ?_
   (refine Ja ?_;intros)
   rw [B22,if_neg hb]
   (refine Ja ?_;intros)
   rw [E03 hb]
   (refine Ja ?_;intros)
   rw [El7 hb]
   (refine Ja ?_;intros)
   rw [Dz5 X.bad 0 X.bad.length _ 0 rfl (by omega),Nat.zero_add]
   (refine Ja ?_;intros)
   rw [E85]
   refine Tr.jmp A34 (Tr.eq (Bk1 ..) ?_);(try simp only[Nr,Nl,wl,Nat.reduceAdd,Nat.reduceMul,Int.reduceToNat])
   refine Yt (by rw [bne_iff_ne];omega) ?_
   (refine Ja ?_;intros)
   rw [show X.bad.length+1=(X.bad++[rc]).length by simp]
   refine B4 (R0 c k F.env F.caps (X.bad++[rc])) ⟨ca,cn,mb⟩ ?_;refine Je ?_
   refine B4 (cmC c k F { X with bad:=X.bad++[rc] }) () ?_;refine Je ?_
   refine Ys fun o=>?_
   exact ⟨by rw [hz]<;>rfl,o.sub⟩
  ·refine Yf (by simpa using h2) ?_
   simp only [if_neg h2]
   refine Tr.jmp A34 (Tr.eq (Bk1 ..) ?_);(try simp only[Nr,Nl,wl,Nat.reduceAdd,Nat.reduceMul,Int.reduceToNat])
   by_cases h1:(N7 l).2=1
   ·refine Yf (by simpa using h1) ?_
    (refine Ja ?_;intros)
    refine Ys fun o=>?_
    exact ⟨rfl,o.sub⟩
   ·refine Yt (by simpa using h1) ?_
    (refine Ja ?_;intros)
    refine Ys fun o=>?_
    exact ⟨by rw [Jb2 l h1]<;>rfl,o.sub⟩
 ·refine (?_:Tr _ _ _ _) o
  refine Je ?_
  have e:Aa7 N7 .zero X rc=((.zero,2),X):=by unfold Aa7;rw [hr]
  rw [e]
  (refine Ja ?_;intros)
  refine Ys fun o=>?_
  exact ⟨rfl,o.sub⟩
def Ha8 (g:Int):List UInt8:=[b8 g,211,Dg4 [b8 g,211],0]
def Ae3 (l:List UInt8):Int × Int:=if byI l 0<8∧Ha8 (byI l 0)=l then (byI l 0,1) else (0,2)
theorem Hx5 (g:Int):Ct A5 A30 [int g] [] fun v own =>
  (0≤g∧g<8∧∃ a c,v=.tuple ⟨[.slice a 4 c,.bool true]⟩∧own [slC false A3 1 a 4 c (A0 (Ha8 g))])∨(¬ (0≤g∧g<8)∧v=.tuple ⟨[.slice none 0 0,.bool false]⟩∧own []):=by
 refine Ct.of E76 rfl fun h r=>Tr.eq (E21 ..) ?_;refine Je ?_
 (refine Ja ?_;intros)
 by_cases hg:0≤g∧g<8
 ·refine Yf (by simp;omega) ?_
  rw [B26]
  refine Yn fun b h=>?_
  rw [show ([.int .u8 ((b8 g).toNat:Int),.int .u8 211]:List Value)=A0 [b8 g,211] from rfl]
  refine Ai1 0 rfl 1 2 rfl (by omega) ?_
  refine Je ?_
  refine Tr.pcall (Hd7 (slC false A3 1 (some ⟨b,0,none⟩) 2 2 (A0 [b8 g,211])) (some ⟨b,0,none⟩) false 2 2 2 [b8 g,211] 2 (by simp) (by simp [A7])) ?_
  (refine Ja ?_;intros)
  rw [show List.take 2 [b8 g,211]=[b8 g,211] from rfl,Ei9]
  refine Tr.xApd ⟨rfl,rfl,by simp [A7]⟩ fun a' c' h'=>?_
  refine Je ?_
  refine Ys fun o=>?_
  exact .inl ⟨hg.1,hg.2,a',c',rfl,(show Own h' (_::slC false A3 1 a' 4 c' (A0 (Ha8 g))::_) from o).sub⟩
 ·refine Yt (by simp;omega) ?_
  refine Ys fun o=>?_
  exact .inr ⟨hg,rfl,o.sub⟩
theorem Jq3 (l:List UInt8):∀ (m i:Nat) (r:List UInt8),l.length-i=m→ByteArray.toList.loop ⟨⟨l⟩⟩ i r=r.reverse++l.drop i:=by
 intro m
 induction m with
 | zero =>
  intro i r hm
  unfold ByteArray.toList.loop
  rw [if_neg (show ¬ i<(ByteArray.mk ⟨l⟩).size by show ¬ i<l.length;omega),List.drop_eq_nil_of_le (by omega)];simp
 | succ m ih =>
  intro i r hm
  have hlt:i<l.length:=by omega
  unfold ByteArray.toList.loop
  rw [if_pos (show i<(ByteArray.mk ⟨l⟩).size from hlt),ih (i+1) _ (by omega),List.drop_eq_getElem_cons hlt]
  have:(ByteArray.mk ⟨l⟩).get! i=l[i]:=by
   show (Array.mk l)[i]! = l[i]
   simp [hlt]
  rw [this];simp
theorem Hp5 (l:List UInt8):(ByteArray.mk ⟨l⟩).toList=l:=by
 unfold ByteArray.toList
 rw [Jq3 l _ 0 [] rfl];simp
theorem Gw8 (pb:HP) (ro:Bool) (a:Option Addr) (c:Nat) (l:List UInt8) (hl:l.length=4) [ks:IsSl pb a ro A3 1 4 c (A0 l)]:Ct A5 W4 [.slice a 4 c] [pb] fun v own=>v=.tuple ⟨[int (Ae3 l).1,int (Ae3 l).2]⟩∧own [pb]:=by
 refine Ct.of Gt7 rfl fun h r=>Tr.eq (Gv4 ..) ?_;refine Je ?_
 refine Yf rfl ?_
 (refine Ja ?_;intros;repeat(refine Gw ?_;rintro px rfl;refine Ja ?_;intros))
 refine Tr.xIntS (v:=byI l 0) (Al9 (by omega)) ?_
 simp only [byI,Az5]
 refine Yc (Hx5 (byI l 0)) ?_
 rintro v h (⟨h1,h2,a1,c1,rfl,o⟩|⟨hn,rfl,o⟩)
 ·refine (?_:Tr _ _ _ _) o
  refine Je ?_
  (refine Ja ?_;intros)
  rw [Hp5,Hp5]
  by_cases he:Ha8 (byI l 0)=l
  ·have e:Ae3 l=(byI l 0,1):=by unfold Ae3;rw [if_pos ⟨h2,he⟩]
   refine Yf (by simp [he]) ?_
   (refine Ja ?_;intros)
   refine Tr.xIntS (v:=byI l 0) (Al9 (by omega)) ?_
   refine Ys fun o=>?_
   rw [e];exact ⟨by simp only [byI,Az5],o.sub⟩
  ·have e:Ae3 l=(0,2):=by unfold Ae3;rw [if_neg (fun hh=>he hh.2)]
   refine Yt (by simp [he]) ?_
   refine Ys fun o=>?_
   rw [e];exact ⟨rfl,o.sub⟩
 ·refine (?_:Tr _ _ _ _) o
  refine Je ?_
  (refine Jb ?_;intros)
  refine Yb (Yt rfl ?_)
  refine Ys fun o=>(?_:Tr _ _ _ _) o;refine Je ?_
  (refine Ja ?_;intros)
  refine Ys fun o=>?_
  exact ⟨by unfold Ae3;rw [if_neg (by simp only [byI] at *;omega)],o.sub⟩
theorem Is8 (a:Option Addr) (c:Nat) (l:List UInt8) (hl:l.length=4):Ct A5 W4 [.slice a 4 c] [slC false A3 1 a 4 c (A0 l)] fun v own=>v=.tuple ⟨[int (Ae3 l).1,int (Ae3 l).2]⟩∧own [slC false A3 1 a 4 c (A0 l)]:=Gw8 (slC false A3 1 a 4 c (A0 l)) false a c l hl
theorem I95 (l:List UInt8) (h:(Ae3 l).2≠1):(Ae3 l).1=0:=by
 unfold Ae3 at *;split<;>simp_all
theorem Jq8 (c k:Nat) (F:Fr) (X:CX) (rc:RecS) (ok:FrOk F) (hk:Aa3 rc.kind=4):Ct A5 Aa2 [P0 c,.agg ⟨U5 rc⟩,.func (.func W4) ⟨[]⟩ ⟨[]⟩] [cmC c k F X] fun v own =>
  v=.tuple ⟨[int (Aa7 Ae3 0 X rc).1.1,int (Aa7 Ae3 0 X rc).1.2]⟩∧own [cmC c k F (Aa7 Ae3 0 X rc).2]:=by
 refine Ct.of Bp3 rfl fun h r=>Tr.eq (E16 ..) ?_;refine Je ?_
 (refine Ja ?_;intros)
 refine Yc (E60 c k F X rc ok) ?_
 rintro v h (⟨l,a,cp,hr,hl,rfl,o⟩|⟨hr,rfl,o⟩)
 ·refine (?_:Tr _ _ _ _) o
  refine Je ?_
  have e:Aa7 Ae3 0 X rc=(Ae3 l,if (Ae3 l).2=2 then { X with bad:=X.bad++[rc] } else X):=by unfold Aa7;rw [hr]
  have hb:=E00 hr
  rw [e]
  rw [hk] at hl
  rw [hl]
  (refine Ja ?_;intros)
  refine Yc (Is8 a cp l hl) ?_;rintro _ h ⟨rfl,o⟩<;>(refine Jf o ?_;intros)
  by_cases h2:(Ae3 l).2=2
  ·refine Yt (by simpa using h2) ?_
   have hz:=I95 l (by omega)
   simp only [if_pos h2]
   refine B5 (cmC c k F X) fun u=>?_;refine Je ?_
   refine B5 (R0 c k F.env F.caps X.bad) fun ⟨ca,cn,mb⟩=>?_;refine Je ?_
   (refine Ja ?_;intros)
   rw [B22,if_neg hb]
   (refine Ja ?_;intros)
   rw [E03 hb]
   (refine Ja ?_;intros)
   rw [El7 hb]
   (refine Ja ?_;intros)
   rw [Dz5 X.bad 0 X.bad.length _ 0 rfl (by omega),Nat.zero_add]
   (refine Ja ?_;intros)
   rw [E85]
   refine Tr.jmp Bp3 (Tr.eq (B58 ..) ?_);(try simp only[Nr,Nl,wl,Nat.reduceAdd,Nat.reduceMul,Int.reduceToNat])
   refine Yt (by rw [bne_iff_ne];omega) ?_
   rw [show X.bad.length+1=(X.bad++[rc]).length by simp]
   refine B4 (R0 c k F.env F.caps (X.bad++[rc])) ⟨ca,cn,mb⟩ ?_;refine Je ?_
   refine B4 (cmC c k F { X with bad:=X.bad++[rc] }) () ?_;refine Je ?_
   refine Ys fun o=>?_
   exact ⟨by rw [hz],o.sub⟩
  ·refine Yf (by simpa using h2) ?_
   simp only [if_neg h2]
   refine Tr.jmp Bp3 (Tr.eq (B58 ..) ?_);(try simp only[Nr,Nl,wl,Nat.reduceAdd,Nat.reduceMul,Int.reduceToNat])
   by_cases h1:(Ae3 l).2=1
   ·refine Yf (by simpa using h1) ?_
    refine Ys fun o=>?_
    exact ⟨rfl,o.sub⟩
   ·refine Yt (by simpa using h1) ?_
    refine Ys fun o=>?_
    exact ⟨by rw [I95 l h1],o.sub⟩
 ·refine (?_:Tr _ _ _ _) o
  refine Je ?_
  have e:Aa7 Ae3 0 X rc=((0,2),X):=by unfold Aa7;rw [hr]
  rw [e]
  (refine Ja ?_;intros)
  refine Ys fun o=>?_
  exact ⟨rfl,o.sub⟩
abbrev En6 (X:CX) (i:Int):(ProcS × Int) × CX:=Aa7 N8 .zero X ⟨1,i⟩
abbrev E35 (X:CX) (i:Int):(FileS × Int) × CX:=Aa7 P6 .zero X ⟨2,i⟩
abbrev D68 (X:CX) (i:Int):(PipeS × Int) × CX:=Aa7 N7 .zero X ⟨3,i⟩
abbrev Gr3 (X:CX):(PipeS × Int) × CX:=Aa7 N7 .zero X ⟨4,0⟩
abbrev Gl7 (X:CX):(Int × Int) × CX:=Aa7 Ae3 0 X ⟨5,0⟩
abbrev Bx8 (X:CX) (i:Int) (p:ProcS):Bool × CX:=wrX X ⟨1,i⟩ (A93 p) (okS p)
abbrev Bz6 (X:CX) (i:Int) (p:FileS):Bool × CX:=wrX X ⟨2,i⟩ (As8 p) (okF p)
abbrev Dd6 (X:CX) (i:Int) (p:PipeS):Bool × CX:=wrX X ⟨3,i⟩ (O5 p) (okP p)
abbrev B34 (X:CX) (rc:RecS):Bool × CX:=wrX X rc (List.replicate (Aa3 rc.kind) 0) true
theorem Ew8 (X:CX) (rc:RecS) (b:List UInt8):wrX X rc b false=(false,X):=by
 unfold wrX;split<;>simp
theorem Gk3 (c k:Nat) (F:Fr) (X:CX) (rc:RecS) (ok:FrOk F):Ct A5 Z9 [P0 c,.agg ⟨U5 rc⟩] [cmC c k F X] fun v own =>
  v=.bool (B34 X rc).1∧own [cmC c k F (B34 X rc).2]:=by
 refine Ct.of Ej0 rfl fun h r=>Tr.eq (Ej3 ..) ?_;refine Je ?_
 refine B5 (cmC c k F X) fun u=>?_;refine Je ?_
 refine Q4 2 rfl fun f=>?_
 (repeat' first|refine Gu ?_|(with_reducible first|refine Gn fun b h=>?_|apply Gx|apply Gy|rintro px rfl|apply Gw|refine fun(h:H)=>?_|intro hb)|refine Gs ?_|refine Gt ?_|exact Gz rfl|fail)
 refine Yc (Gk4 c k F.env F.caps X.bad rc ok.small ok.ne) ?_;rintro _ h ⟨rfl,o⟩<;>(refine (?_:Tr _ _ _ _) o;refine Je ?_;(repeat' first|refine Gu ?_|(with_reducible first|refine Gn fun b h=>?_|apply Gx|apply Gy|rintro px rfl|apply Gw|refine fun(h:H)=>?_|intro hb)|refine Gs ?_|refine Gt ?_|exact Gz rfl|fail))
 have em:=f.mlen ok
 cases hp:E7 F.caps.length rc with
 | none =>
  (repeat' first|refine Gu ?_|(with_reducible first|refine Gn fun b h=>?_|apply Gx|apply Gy|rintro px rfl|apply Gw|refine fun(h:H)=>?_|intro hb)|refine Gs ?_|refine Gt ?_|exact Gz rfl|fail)
  rw [show I7 (Int.toNat 0) [.int .u8 0]=A0 [] from rfl]
  refine Ai1 0 rfl 1 0 rfl (by omega) ?_
  refine Je ?_
  refine B4 (cmC c k F X) () ?_;refine Je ?_
  refine Yc (Dh7 c k F X rc ok [] false (some ⟨b,0,none⟩) 0 (by simp)) ?_;rintro _ h ⟨rfl,o⟩<;>(refine (?_:Tr _ _ _ _) o;refine Je ?_;(repeat' first|refine Gu ?_|(with_reducible first|refine Gn fun b h=>?_|apply Gx|apply Gy|rintro px rfl|apply Gw|refine fun(h:H)=>?_|intro hb)|refine Gs ?_|refine Gt ?_|exact Gz rfl|fail))
  refine Ys fun o=>?_
  have e:B34 X rc=(false,X):=by unfold B34 wrX;rw [em,hp]
  rw [Ew8] at o
  rw [e,Ew8]
  exact ⟨by first|rfl|trivial,o.sub⟩
 | some p =>
  obtain ⟨j,a,n⟩:=p
  have hn:=D83 hp
  subst hn
  have h40:Aa3 rc.kind≤40:=by unfold Aa3;(repeat' split)<;>omega
  (repeat' first|refine Gu ?_|(with_reducible first|refine Gn fun b h=>?_|apply Gx|apply Gy|rintro px rfl|apply Gw|refine fun(h:H)=>?_|intro hb)|refine Gs ?_|refine Gt ?_|exact Gz rfl|fail)
  refine Tr.ck ⟨by omega,by omega,by simp only [A7];omega⟩ ?_
  refine Yn fun b1 h=>?_
  rw [Int.toNat_natCast,show I7 (Aa3 rc.kind) [.int .u8 0]=A0 (List.replicate (Aa3 rc.kind) 0) by simp [I7,A0]]
  refine Ai1 0 rfl 1 (Aa3 rc.kind) (by simp [A0]) (by omega) ?_
  refine Je ?_
  refine B4 (cmC c k F X) () ?_;refine Je ?_
  have J:=Dh7 c k F X rc ok (List.replicate (Aa3 rc.kind) 0) true (some ⟨b1,0,none⟩) (Aa3 rc.kind) (by simp)
  rw [List.length_replicate] at J
  refine Yc (J) ?_;rintro _ h ⟨rfl,o⟩<;>(refine (?_:Tr _ _ _ _) o;refine Je ?_;(repeat' first|refine Gu ?_|(with_reducible first|refine Gn fun b h=>?_|apply Gx|apply Gy|rintro px rfl|apply Gw|refine fun(h:H)=>?_|intro hb)|refine Gs ?_|refine Gt ?_|exact Gz rfl|fail))
  refine Ys fun o=>?_
  exact ⟨rfl,o.sub⟩
theorem E64 (c k:Nat) (F:Fr) (X:CX) (rc:RecS) (ok:FrOk F):Ct A5 O0 [P0 c,.agg ⟨U5 rc⟩,.slice none 0 0,.bool false] [cmC c k F X] fun v own=>v=.bool false∧own [cmC c k F X]:=by
 intro h r o
 have o1:Own h (slC false A3 1 none 0 0 (A0 [])::cmC c k F X::r):=o.slNil false A3 (by omega)
 obtain ⟨v,h',e,rfl,o2⟩:=Dh7 c k F X rc ok [] false none 0 (by simp) h r (o1.perm (.swap _ _ _))
 rw [Ew8] at e o2
 exact ⟨_,h',e,rfl,o2.sub⟩
theorem E46 (i:Int):Ct A5 A51 [int i] [] fun v own=>v=.agg ⟨U5 ⟨1,i⟩⟩∧own []:=by
 refine Ct.of Hm8 rfl fun h r=>Tr.eq (Ho6 ..) ?_;refine Je ?_
 (refine Ja ?_;intros)
 refine Ys fun o=>?_
 exact ⟨rfl,o.sub⟩
theorem E40 (i:Int):Ct A5 A48 [int i] [] fun v own=>v=.agg ⟨U5 ⟨2,i⟩⟩∧own []:=by
 refine Ct.of Hm6 rfl fun h r=>Tr.eq (Hm7 ..) ?_;refine Je ?_
 (refine Ja ?_;intros)
 refine Ys fun o=>?_
 exact ⟨rfl,o.sub⟩
theorem E08 (i:Int):Ct A5 A50 [int i] [] fun v own=>v=.agg ⟨U5 ⟨3,i⟩⟩∧own []:=by
 refine Ct.of Hm0 rfl fun h r=>Tr.eq (Ho4 ..) ?_;refine Je ?_
 (refine Ja ?_;intros)
 refine Ys fun o=>?_
 exact ⟨rfl,o.sub⟩
theorem B21 (c k:Nat) (F:Fr) (X:CX) (ok:FrOk F) (i:Int):Ct A5 I5 [P0 c,int i] [cmC c k F X] fun v own=>v=.tuple ⟨[.agg ⟨B8 (En6 X i).1.1⟩,int (En6 X i).1.2]⟩∧own [cmC c k F (En6 X i).2]:=by
 refine Ct.of Eo7 rfl fun h r=>Tr.eq (Ep5 ..) ?_;refine Je ?_
 (refine Ja ?_;intros)
 refine Yc (E46 i) ?_;rintro _ h ⟨rfl,o⟩<;>(refine Jf o ?_;intros)
 refine Yc (Jq1 c k F X ⟨1,i⟩ ok rfl) ?_;rintro _ h ⟨rfl,o⟩<;>(refine Jf o ?_;intros)
 refine Ys fun o=>?_
 exact ⟨rfl,o.sub⟩
theorem Dx1 (c k:Nat) (F:Fr) (X:CX) (ok:FrOk F) (i:Int):Ct A5 L7 [P0 c,int i] [cmC c k F X] fun v own=>v=.tuple ⟨[.agg ⟨Ab1 (E35 X i).1.1⟩,int (E35 X i).1.2]⟩∧own [cmC c k F (E35 X i).2]:=by
 refine Ct.of Ep9 rfl fun h r=>Tr.eq (Eq2 ..) ?_;refine Je ?_
 (refine Ja ?_;intros)
 refine Yc (E40 i) ?_;rintro _ h ⟨rfl,o⟩<;>(refine Jf o ?_;intros)
 refine Yc (Ju7 c k F X ⟨2,i⟩ ok rfl) ?_;rintro _ h ⟨rfl,o⟩<;>(refine Jf o ?_;intros)
 refine Ys fun o=>?_
 exact ⟨rfl,o.sub⟩
theorem G87 (c k:Nat) (F:Fr) (X:CX) (ok:FrOk F) (i:Int):Ct A5 Ab6 [P0 c,int i] [cmC c k F X] fun v own=>v=.tuple ⟨[.agg ⟨I6 (D68 X i).1.1⟩,int (D68 X i).1.2]⟩∧own [cmC c k F (D68 X i).2]:=by
 refine Ct.of Es4 rfl fun h r=>Tr.eq (Es7 ..) ?_;refine Je ?_
 (refine Ja ?_;intros)
 refine Yc (E08 i) ?_;rintro _ h ⟨rfl,o⟩<;>(refine Jf o ?_;intros)
 refine Yc (Iq7 c k F X ⟨3,i⟩ ok rfl) ?_;rintro _ h ⟨rfl,o⟩<;>(refine Jf o ?_;intros)
 refine Ys fun o=>?_
 exact ⟨rfl,o.sub⟩
theorem Jk3 (c k:Nat) (F:Fr) (X:CX) (ok:FrOk F):Ct A5 Au6 [P0 c] [cmC c k F X] fun v own=>v=.tuple ⟨[.agg ⟨I6 (Gr3 X).1.1⟩,int (Gr3 X).1.2]⟩∧own [cmC c k F (Gr3 X).2]:=by
 refine Ct.of Er0 rfl fun h r=>Tr.eq (Er5 ..) ?_;refine Je ?_
 (refine Ja ?_;intros)
 refine Yc (Iq7 c k F X ⟨4,0⟩ ok rfl) ?_;rintro _ h ⟨rfl,o⟩<;>(refine Jf o ?_;intros)
 refine Ys fun o=>?_
 exact ⟨rfl,o.sub⟩
theorem Jb0 (c k:Nat) (F:Fr) (X:CX) (ok:FrOk F):Ct A5 Ar7 [P0 c] [cmC c k F X] fun v own=>v=.tuple ⟨[int (Gl7 X).1.1,.bool ((Gl7 X).1.2==1)]⟩∧own [cmC c k F (Gl7 X).2]:=by
 refine Ct.of Ej2 rfl fun h r=>Tr.eq (Ej6 ..) ?_;refine Je ?_
 (refine Ja ?_;intros)
 refine Yc (Jq8 c k F X ⟨5,0⟩ ok rfl) ?_;rintro _ h ⟨rfl,o⟩<;>(refine Jf o ?_;intros)
 refine Ys fun o=>?_
 exact ⟨rfl,o.sub⟩
theorem Eh8 (f:FileS):(As8 f).length=8:=rfl
theorem Bf9 (c k:Nat) (F:Fr) (X:CX) (ok:FrOk F) (i:Int) (p:ProcS):Ct A5 H0 [P0 c,int i,.agg ⟨B8 p⟩] [cmC c k F X] fun v own=>v=.bool (Bx8 X i p).1∧own [cmC c k F (Bx8 X i p).2]:=by
 refine Ct.of Ea1 rfl fun h r=>Tr.eq (D97 ..) ?_;refine Je ?_
 (refine Ja ?_;intros)
 refine Yc (Hg6 p) ?_
 rintro v h (⟨hk,a,rfl,o⟩|⟨hk,rfl,o⟩)
 ·refine (?_:Tr _ _ _ _) o
  refine Je ?_
  (refine Ja ?_;intros)
  refine Yc (E46 i) ?_;rintro _ h ⟨rfl,o⟩<;>(refine Jf o ?_;intros)
  have J:=Dh7 c k F X ⟨1,i⟩ ok (A93 p) true a 24 (fun _=>E07 p)
  rw [E07] at J
  refine Yc (J) ?_;rintro _ h ⟨rfl,o⟩<;>(refine Jf o ?_;intros)
  refine Ys fun o=>?_
  unfold Bx8;rw [hk]
  exact ⟨rfl,o.sub⟩
 ·refine (?_:Tr _ _ _ _) o
  refine Je ?_
  (refine Ja ?_;intros)
  refine Yc (E46 i) ?_;rintro _ h ⟨rfl,o⟩<;>(refine Jf o ?_;intros)
  refine Yc (E64 c k F X ⟨1,i⟩ ok) ?_;rintro _ h ⟨rfl,o⟩<;>(refine Jf o ?_;intros)
  refine Ys fun o=>?_
  unfold Bx8;rw [hk,Ew8]
  exact ⟨rfl,o.sub⟩
theorem Bt9 (c k:Nat) (F:Fr) (X:CX) (ok:FrOk F) (i:Int) (p:FileS):Ct A5 G9 [P0 c,int i,.agg ⟨Ab1 p⟩] [cmC c k F X] fun v own=>v=.bool (Bz6 X i p).1∧own [cmC c k F (Bz6 X i p).2]:=by
 refine Ct.of Eb1 rfl fun h r=>Tr.eq (D82 ..) ?_;refine Je ?_
 (refine Ja ?_;intros)
 refine Yc (Ha6 p) ?_
 rintro v h (⟨hk,a,rfl,o⟩|⟨hk,rfl,o⟩)
 ·refine (?_:Tr _ _ _ _) o
  refine Je ?_
  (refine Ja ?_;intros)
  refine Yc (E40 i) ?_;rintro _ h ⟨rfl,o⟩<;>(refine Jf o ?_;intros)
  have J:=Dh7 c k F X ⟨2,i⟩ ok (As8 p) true a 8 (fun _=>Eh8 p)
  rw [Eh8] at J
  refine Yc (J) ?_;rintro _ h ⟨rfl,o⟩<;>(refine Jf o ?_;intros)
  refine Ys fun o=>?_
  unfold Bz6;rw [hk]
  exact ⟨rfl,o.sub⟩
 ·refine (?_:Tr _ _ _ _) o
  refine Je ?_
  (refine Ja ?_;intros)
  refine Yc (E40 i) ?_;rintro _ h ⟨rfl,o⟩<;>(refine Jf o ?_;intros)
  refine Yc (E64 c k F X ⟨2,i⟩ ok) ?_;rintro _ h ⟨rfl,o⟩<;>(refine Jf o ?_;intros)
  refine Ys fun o=>?_
  unfold Bz6;rw [hk,Ew8]
  exact ⟨rfl,o.sub⟩
theorem G06 (c k:Nat) (F:Fr) (X:CX) (ok:FrOk F) (i:Int) (p:PipeS):Ct A5 Ac9 [P0 c,int i,.agg ⟨I6 p⟩] [cmC c k F X] fun v own=>v=.bool (Dd6 X i p).1∧own [cmC c k F (Dd6 X i p).2]:=by
 refine Ct.of Ea2 rfl fun h r=>Tr.eq (D78 ..) ?_;refine Je ?_
 (refine Ja ?_;intros)
 refine Yc (Hd5 p) ?_
 rintro v h (⟨hk,a,rfl,o⟩|⟨hk,rfl,o⟩)
 ·refine (?_:Tr _ _ _ _) o
  refine Je ?_
  (refine Ja ?_;intros)
  refine Yc (E08 i) ?_;rintro _ h ⟨rfl,o⟩<;>(refine Jf o ?_;intros)
  have J:=Dh7 c k F X ⟨3,i⟩ ok (O5 p) true a 40 (fun _=>De7 p.len)
  rw [De7 p.len] at J
  refine Yc (J) ?_;rintro _ h ⟨rfl,o⟩<;>(refine Jf o ?_;intros)
  refine Ys fun o=>?_
  unfold Dd6;rw [hk]
  exact ⟨rfl,o.sub⟩
 ·refine (?_:Tr _ _ _ _) o
  refine Je ?_
  (refine Ja ?_;intros)
  refine Yc (E08 i) ?_;rintro _ h ⟨rfl,o⟩<;>(refine Jf o ?_;intros)
  refine Yc (E64 c k F X ⟨3,i⟩ ok) ?_;rintro _ h ⟨rfl,o⟩<;>(refine Jf o ?_;intros)
  refine Ys fun o=>?_
  unfold Dd6;rw [hk,Ew8]
  exact ⟨rfl,o.sub⟩
theorem Dl3 (c k:Nat) (F:Fr) (X:CX) (ok:FrOk F) (i:Int):Ct A5 N6 [P0 c,int i] [cmC c k F X] fun v own=>v=.bool (B34 X ⟨1,i⟩).1∧own [cmC c k F (B34 X ⟨1,i⟩).2]:=by
 refine Ct.of D30 rfl fun h r=>Tr.eq (D22 ..) ?_;refine Je ?_
 refine Yc (E46 i) ?_;rintro _ h ⟨rfl,o⟩<;>(refine Jf o ?_;intros)
 refine Yc (Gk3 c k F X ⟨1,i⟩ ok) ?_;rintro _ h ⟨rfl,o⟩<;>(refine Jf o ?_;intros)
 refine Ys fun o=>?_
 exact ⟨rfl,o.sub⟩
theorem H84 (c k:Nat) (F:Fr) (X:CX) (ok:FrOk F) (i:Int):Ct A5 Aj6 [P0 c,int i] [cmC c k F X] fun v own=>v=.bool (B34 X ⟨2,i⟩).1∧own [cmC c k F (B34 X ⟨2,i⟩).2]:=by
 refine Ct.of D42 rfl fun h r=>Tr.eq (D49 ..) ?_;refine Je ?_
 refine Yc (E40 i) ?_;rintro _ h ⟨rfl,o⟩<;>(refine Jf o ?_;intros)
 refine Yc (Gk3 c k F X ⟨2,i⟩ ok) ?_;rintro _ h ⟨rfl,o⟩<;>(refine Jf o ?_;intros)
 refine Ys fun o=>?_
 exact ⟨rfl,o.sub⟩
theorem Ia2 (c k:Nat) (F:Fr) (X:CX) (ok:FrOk F) (i:Int):Ct A5 Aj7 [P0 c,int i] [cmC c k F X] fun v own=>v=.bool (B34 X ⟨3,i⟩).1∧own [cmC c k F (B34 X ⟨3,i⟩).2]:=by
 refine Ct.of D40 rfl fun h r=>Tr.eq (D44 ..) ?_;refine Je ?_
 refine Yc (E08 i) ?_;rintro _ h ⟨rfl,o⟩<;>(refine Jf o ?_;intros)
 refine Yc (Gk3 c k F X ⟨3,i⟩ ok) ?_;rintro _ h ⟨rfl,o⟩<;>(refine Jf o ?_;intros)
 refine Ys fun o=>?_
 exact ⟨rfl,o.sub⟩
def Ea6 (f:CX→Int→CX):Nat→Int→CX→CX
 | 0,_,X=>X
 | m+1,i,X=>Ea6 f m (i+1) (f X i)
def He4 (X:CX):CX:=(Gl7 (Gr3 X).2).2
def Ic6 (nc:Nat) (X:CX):CX:=He4 (Ea6 (fun X i=>(D68 X i).2) (3+nc) 0 X)
def H10 (nc:Nat) (X:CX):CX:=Ic6 nc (Ea6 (fun X i=>(E35 X i).2) 12 0 X)
def lookN (nc:Nat) (X:CX):CX:=H10 nc (Ea6 (fun X i=>(En6 X i).2) 8 0 X)
def Gq6 (X:CX):CX:=lookN X.m.length X
theorem I05 (c k:Nat) (F:Fr) (ok:FrOk F):∀ (m:Nat) (i:Int) (X:CX),0≤i→i+m=3+F.caps.length →
  CtJ D8 D4 Al4 [(0,P0 c),(20,int (3+F.caps.length)),(21,int i)] [cmC c k F X] fun v own=>v=.tuple ⟨[]⟩∧own [cmC c k F (He4 (Ea6 (fun X i=>(D68 X i).2) m i X))]:=by
 have hs:=ok.small
 intro m
 induction m with
 | zero =>
  intro i X h0 hi
  refine CtJ.of U9 fun h r=>Tr.eq (Bx4 ..) ?_;refine Je ?_
  refine Yf (by simp;omega) ?_
  refine Yc (Jk3 c k F X ok) ?_;rintro _ h ⟨rfl,o⟩<;>(refine Jf o ?_;intros)
  refine Yc (Jb0 c k F (Gr3 X).2 ok) ?_;rintro _ h ⟨rfl,o⟩<;>(refine Jf o ?_;intros)
  refine Ys fun o=>?_
  exact ⟨rfl,o⟩
 | succ m ih =>
  intro i X h0 hi
  have e1:=wI i
  refine CtJ.of U9 fun h r=>Tr.eq (Bx4 ..) ?_;refine Je ?_
  refine Yt (by simp;omega) ?_
  refine Yc (G87 c k F X ok i) ?_;rintro _ h ⟨rfl,o⟩<;>(refine Jf o ?_;intros)
  rw [e1]
  refine Yr (ih (i+1) (D68 X i).2 (by omega) (by omega)) ?_
  rintro _ h ⟨rfl,o⟩
  exact ⟨rfl,o⟩
theorem Ix7 (c k:Nat) (F:Fr) (ok:FrOk F):∀ (m:Nat) (i:Int) (X:CX),0≤i→i+m=12 →
  CtJ D8 D4 Am1 [(0,P0 c),(12,int i)] [cmC c k F X] fun v own=>v=.tuple ⟨[]⟩∧own [cmC c k F (Ic6 F.caps.length (Ea6 (fun X i=>(E35 X i).2) m i X))]:=by
 have hs:=ok.small
 intro m
 induction m with
 | zero =>
  intro i X h0 hi
  refine CtJ.of U9 fun h r=>Tr.eq (Bw2 ..) ?_;refine Je ?_
  refine Yf (by simp;omega) ?_
  refine B5 (cmC c k F X) fun u=>?_;refine Je ?_
  refine Tr.pcall (G65 c k F.env F.caps X.bad 3 ok.small) ?_;refine Je ?_;(refine Ja ?_;intros)
  refine B4 (cmC c k F X) () ?_;refine Je ?_
  refine Yr (I05 c k F ok (3+F.caps.length) 0 X (by omega) (by omega)) ?_
  rintro _ h ⟨rfl,o⟩
  exact ⟨rfl,o⟩
 | succ m ih =>
  intro i X h0 hi
  have e1:=wI i
  refine CtJ.of U9 fun h r=>Tr.eq (Bw2 ..) ?_;refine Je ?_
  refine Yt (by simp;omega) ?_
  refine Yc (Dx1 c k F X ok i) ?_;rintro _ h ⟨rfl,o⟩<;>(refine Jf o ?_;intros)
  rw [e1]
  refine Yr (ih (i+1) (E35 X i).2 (by omega) (by omega)) ?_
  rintro _ h ⟨rfl,o⟩
  exact ⟨rfl,o⟩
theorem Iv7 (c k:Nat) (F:Fr) (ok:FrOk F):∀ (m:Nat) (i:Int) (X:CX),0≤i→i+m=8 →
  CtJ D8 D4 Al3 [(0,P0 c),(5,int i)] [cmC c k F X] fun v own=>v=.tuple ⟨[]⟩∧own [cmC c k F (H10 F.caps.length (Ea6 (fun X i=>(En6 X i).2) m i X))]:=by
 intro m
 induction m with
 | zero =>
  intro i X h0 hi
  refine CtJ.of U9 fun h r=>Tr.eq (Bx0 ..) ?_;refine Je ?_
  refine Yf (by simp;omega) ?_
  refine Yr (Ix7 c k F ok 12 0 X (by omega) (by omega)) ?_
  rintro _ h ⟨rfl,o⟩
  exact ⟨rfl,o⟩
 | succ m ih =>
  intro i X h0 hi
  have e1:=wI i
  refine CtJ.of U9 fun h r=>Tr.eq (Bx0 ..) ?_;refine Je ?_
  refine Yt (by simp;omega) ?_
  refine Yc (B21 c k F X ok i) ?_;rintro _ h ⟨rfl,o⟩<;>(refine Jf o ?_;intros)
  rw [e1]
  refine Yr (ih (i+1) (En6 X i).2 (by omega) (by omega)) ?_
  rintro _ h ⟨rfl,o⟩
  exact ⟨rfl,o⟩
theorem Gq4 (c k:Nat) (F:Fr) (X:CX) (ok:FrOk F):Ct A5 D4 [P0 c] [cmC c k F X] fun v own=>v=.tuple ⟨[]⟩∧own [cmC c k F (Gq6 X)]:=by
 refine Ct.of U9 rfl fun h r=>Tr.eq (Er8 ..) ?_;refine Je ?_
 intro o
 obtain ⟨u,o1⟩:=Own.unfold (cmC c k F X) o
 have f:=(Own.front o1 (i:=2) rfl).pure
 have e:Gq6 X=lookN F.caps.length X:=by unfold Gq6;rw [f.mlen ok]
 rw [e]
 refine (?_:Tr _ _ _ _) o
 refine Yr (Iv7 c k F ok 8 0 X (by omega) (by omega)) ?_
 rintro _ h ⟨rfl,o⟩
 exact ⟨rfl,o⟩
end Go.EQ
