/- One that is in and never picked again holds the others up for no longer than the lease; picked later it begins anew, and does its call once. -/
import Derived.Test.YtonlefldpebcpaaGreatDoorMf
set_option linter.all false
set_option maxRecDepth 10000
namespace Go.EQ
open Go Go.NN
theorem W3 (l:List UInt8):(A0 l).length=l.length:=by simp [A0]
theorem Ec0 {l:List UInt8} {i:Nat} {x:UInt8} (h:l[i]?=some x):(A0 l)[i]?=some (.int .u8 x.toNat):=by
 unfold A0;rw [List.getElem?_map,h];rfl
theorem Ix0 (l:List UInt8) (x:Nat):(A0 l).take x=A0 (l.take x):=by unfold A0;rw [List.map_take]
theorem I63 (l m:List UInt8):A0 (l++m)=A0 l++A0 m:=by simp [A0]
def En8 (n:Int) (l:List UInt8):Int:=l.foldl (fun n c=>IntKind.wrap .u8 (n+c.toNat)) n
def Gw2 (l:List UInt8):Int:=En8 (IntKind.wrap .u8 l.length) l
theorem If4 (p:HP) (a:Option Addr) (ro:Bool) (n c d:Nat) (l:List UInt8) [ks:IsSl p a ro A7 1 n c (A0 l)] (x:Nat) (hx:x≤l.length) (hl:l.length≤B1):∀ (m i:Nat) (acc:Int),x-i=m→i≤x →
  W8 I2 Ad4 Bo2 [(3,.int .u8 acc),(9,.slice a x d),(10,int x),(11,int i)] [p] (.int .u8 (En8 acc ((l.take x).drop i))):=by
 intro m
 induction m with
 | zero =>
  intro i acc hm hi
  refine W8.of Ea9 fun h r=>Tr.eq (Ec4 ..) ?_;refine Je ?_
  refine Yf (by simp;omega) ?_
  refine Ys fun o=>?_
  rw [List.drop_eq_nil_of_le (by simp;omega)];exact ⟨rfl,rfl⟩
 | succ m ih =>
  intro i acc hm hi
  have hlt:i<(l.take x).length:=by rw [List.length_take];omega
  have hp:l[i]?=some (l.take x)[i]:=by
   rw [List.getElem_take];exact List.getElem?_eq_getElem (by omega)
  have hd:(l.take x).drop i=(l.take x)[i]::(l.take x).drop (i+1):=List.drop_eq_getElem_cons hlt
  generalize (l.take x)[i]=y at hp hd
  have e1:IntKind.wrap .i64 ((i:Int)+1)=((i+1:Nat):Int):=by rw [B6];simp only [B1] at hl;omega
  refine W8.of Ea9 fun h r=>Tr.eq (Ec4 ..) ?_;refine Je ?_
  refine Yt (by simp;omega) ?_
  refine V7 0 rfl fun h1 h2 h3=>?_
  rw [W3] at h1
  (refine Ja ?_;intros;repeat(refine Gw ?_;rintro px rfl;refine Ja ?_;intros))
  refine Tr.xIntS (v:=y.toNat) (by simpa using Ec0 hp) ?_
  rw [e1,hd]
  exact Ab1 (ih (i+1) _ (by omega) (by omega)) (r:=r) (by simp) fun o=>⟨rfl,rfl⟩
theorem Gq3 (p:HP) (a:Option Addr) (ro:Bool) (n c d:Nat) (l:List UInt8) [ks:IsSl p a ro A7 1 n c (A0 l)] (x:Nat) (hx:x≤l.length) (hl:l.length≤B1) :
  CtP A9 Ad4 [.slice a x d] [p] (.int .u8 (Gw2 (l.take x))):=by
 refine CtP.of Ea9 rfl fun h r=>Tr.eq (Hs3 ..) ?_;refine Je ?_
 have e:(l.take x).length=x:=by rw [List.length_take];omega
 have J:=If4 p a ro n c d l x hx hl _ 0 (IntKind.wrap .u8 x) rfl (by omega)
 rw [List.drop_zero] at J
 refine Ab1 J (r:=r) (by simp) fun o=>⟨?_,rfl⟩
 unfold Gw2;rw [e]
def D20:Nat→List UInt8→Int
 | _,[]=>-1
 | i,x::l=>if x≠0 then i else D20 (i+1) l
theorem G47:∀ (l:List UInt8) (i:Nat),decide (D20 i l≥0)=!l.all (·==0)
 | [],i=>by simp [D20]
 | x::l,i=>by
  unfold D20
  by_cases h:x=0
  ·rw [if_neg (by simp [h]),G47 l (i+1)];simp [h]
  ·rw [if_pos h];simp [h]
theorem I85 (x:UInt8):CtP A9 Ag6 [.int .u8 x.toNat] [] (.bool (x != 0)):=by
 refine CtP.of Gl0 rfl fun h r=>Tr.eq (Gn4 ..) ?_;refine Je ?_
 refine Ys fun o=>?_
 refine ⟨?_,rfl⟩
 congr 1
 have:((x.toNat:Int)=0)↔x=0:=by
  constructor
  ·intro h;exact UInt8.toNat.inj (by simpa using (show x.toNat=0 by omega))
  ·rintro rfl;rfl
 by_cases h:x=0
 ·subst h;rfl
 ·rw [bne_iff_ne.2 h,bne_iff_ne];intro h2;exact h (this.1 h2)
theorem Gk1 (p:HP) (a:Option Addr) (ro:Bool) (c:Nat) (l:List UInt8) [ks:IsSl p a ro A7 1 l.length c (A0 l)] (hl:l.length≤B1):∀ (m i:Nat),l.length-i=m→i≤l.length →
  W8 I2 G6 U1 [(0,.slice a l.length c),(1,.func (.func Ag6) ⟨[]⟩ ⟨[]⟩),(7,int l.length),(8,int i)] [p] (int (D20 i (l.drop i))):=by
 intro m
 induction m with
 | zero =>
  intro i hm hi
  refine W8.of Ag7 fun h r=>Tr.eq (At4 ..) ?_;refine Je ?_
  refine Yf (by simp;omega) ?_
  refine Ys fun o=>?_
  rw [List.drop_eq_nil_of_le (by omega)];exact ⟨rfl,rfl⟩
 | succ m ih =>
  intro i hm hi
  have hlt:i<l.length:=by omega
  have hp:l[i]?=some l[i]:=List.getElem?_eq_getElem hlt
  have hd:l.drop i=l[i]::l.drop (i+1):=List.drop_eq_getElem_cons hlt
  generalize l[i]=x at hp hd
  have e1:IntKind.wrap .i64 ((i:Int)+1)=((i+1:Nat):Int):=by rw [B6];simp only [B1] at hl;omega
  refine W8.of Ag7 fun h r=>Tr.eq (At4 ..) ?_;refine Je ?_
  refine Yt (by simp;omega) ?_
  (refine Ja ?_;intros;repeat(refine Gw ?_;rintro px rfl;refine Ja ?_;intros))
  refine Tr.xIntS (v:=x.toNat) (by simpa using Ec0 hp) ?_
  (refine Ja ?_;intros)
  refine B14 (I85 x) (r:=p::r) (by simp) ?_
  by_cases hx:x=0
  ·have:(x != 0)=false:=by simp [hx]
   rw [this]
   (refine Ja ?_;intros)
   rw [e1]
   refine Ab1 (ih (i+1) (by omega) (by omega)) (r:=r) (by simp) fun o=>?_
   rw [hd,D20,if_neg (by simp [hx])];exact ⟨by first|rfl|trivial,by first|rfl|trivial⟩
  ·have:(x != 0)=true:=by simp [hx]
   rw [this]
   (refine Ja ?_;intros)
   refine Ys fun o=>?_
   rw [hd,D20,if_pos hx];exact ⟨by first|rfl|trivial,by first|rfl|trivial⟩
theorem In0 (p:HP) (a:Option Addr) (ro:Bool) (c:Nat) (l:List UInt8) [ks:IsSl p a ro A7 1 l.length c (A0 l)] (hl:l.length≤B1) :
  CtP A9 Ap1 [.slice a l.length c] [p] (.bool (l.all (·==0))):=by
 have j:CtP A9 G6 [.slice a l.length c,.func (.func Ag6) ⟨[]⟩ ⟨[]⟩] [p] (int (D20 0 l)):=by
  refine CtP.of Ag7 rfl fun h r=>Tr.eq (B62 ..) ?_;refine Je ?_
  exact Ab1 (Gk1 p a ro c l hl _ 0 rfl (by omega)) (r:=r) (by simp) fun o=>⟨rfl,rfl⟩
 have j2:CtP A9 U2 [.slice a l.length c,.func (.func Ag6) ⟨[]⟩ ⟨[]⟩] [p] (.bool (!l.all (·==0))):=by
  refine CtP.of Bt1 rfl fun h r=>Tr.eq (Bt6 ..) ?_;refine Je ?_
  refine B14 j (r:=r) (by simp) ?_
  (refine Ja ?_;intros)
  refine Ys fun o=>?_
  rw [G47];exact ⟨by first|rfl|trivial,by first|rfl|trivial⟩
 refine CtP.of G63 rfl fun h r=>Tr.eq (G77 ..) ?_;refine Je ?_
 refine B14 j2 (r:=r) (by simp) ?_
 (refine Ja ?_;intros)
 refine Ys fun o=>?_
 exact ⟨by simp,rfl⟩
theorem Hi1 (p q:HP) (a:Option Addr) (ro:Bool) (c:Nat) (a2:Option Addr) (ro2:Bool) (c2:Nat) (l m:List UInt8) [ks:IsSl p a ro A7 1 l.length c (A0 l)] [ks2:IsSl q a2 ro2 A7 1 m.length c2 (A0 m)] (hl:l.length≤B1) (hlm:m.length=l.length):∀ (k i:Nat),l.length-i=k→i≤l.length →
  W8 I2 D5 Y8 [(0,.slice a l.length c),(1,.slice a2 m.length c2),(12,int l.length),(13,int i)] [p,q] (.bool (decide (l.drop i=m.drop i))):=by
 intro k
 induction k with
 | zero =>
  intro i hm hi
  refine W8.of Ap2 fun h r=>Tr.eq (A49 ..) ?_;refine Je ?_
  refine Yf (by simp;omega) ?_
  refine Ys fun o=>?_
  rw [List.drop_eq_nil_of_le (by omega),List.drop_eq_nil_of_le (by omega)];exact ⟨rfl,rfl⟩
 | succ k ih =>
  intro i hm hi
  have hlt:i<l.length:=by omega
  have hp:l[i]?=some l[i]:=List.getElem?_eq_getElem hlt
  have hd:l.drop i=l[i]::l.drop (i+1):=List.drop_eq_getElem_cons hlt
  have hlt2:i<m.length:=by omega
  have hp2:m[i]?=some m[i]:=List.getElem?_eq_getElem hlt2
  have hd2:m.drop i=m[i]::m.drop (i+1):=List.drop_eq_getElem_cons hlt2
  generalize l[i]=x at hp hd
  generalize m[i]=y at hp2 hd2
  have e1:IntKind.wrap .i64 ((i:Int)+1)=((i+1:Nat):Int):=by rw [B6];simp only [B1] at hl;omega
  refine W8.of Ap2 fun h r=>Tr.eq (A49 ..) ?_;refine Je ?_
  refine Yt (by simp;omega) ?_
  (refine Ja ?_;intros;repeat(refine Gw ?_;rintro px rfl;refine Ja ?_;intros))
  refine Tr.xIntS (v:=x.toNat) (by simpa using Ec0 hp) ?_
  (refine Ja ?_;intros;repeat(refine Gw ?_;rintro px rfl;refine Ja ?_;intros))
  refine Tr.xIntS (v:=y.toNat) (by simpa using Ec0 hp2) ?_
  by_cases hx:x=y
  ·subst hx
   refine Yf (by simp) ?_
   rw [e1]
   refine Ab1 (ih (i+1) (by omega) (by omega)) (r:=r) (by simp) fun o=>?_
   rw [hd,hd2];exact ⟨by simp,rfl⟩
  ·refine Yt (by rw [bne_iff_ne];intro h2;exact hx (UInt8.toNat.inj (by omega))) ?_
   refine Ys fun o=>?_
   rw [hd,hd2];exact ⟨by simp [hx],rfl⟩
theorem Ey9 (p q:HP) (a:Option Addr) (ro:Bool) (c:Nat) (a2:Option Addr) (ro2:Bool) (c2:Nat) (l m:List UInt8) [ks:IsSl p a ro A7 1 l.length c (A0 l)] [ks2:IsSl q a2 ro2 A7 1 m.length c2 (A0 m)] (hl:l.length≤B1) :
  CtP A9 D5 [.slice a l.length c,.slice a2 m.length c2] [p,q] (.bool (decide (l=m))):=by
 refine CtP.of Ap2 rfl fun h r=>Tr.eq (Dl3 ..) ?_;refine Je ?_
 by_cases h:m.length=l.length
 ·refine Yf (by simp [h]) ?_
  have J:=Hi1 p q a ro c a2 ro2 c2 l m hl h _ 0 rfl (by omega)
  simp only [List.drop_zero] at J
  exact Ab1 J (r:=r) (by simp) fun o=>⟨rfl,rfl⟩
 ·refine Yt (by rw [bne_iff_ne];omega) ?_
  refine Ys fun o=>?_
  exact ⟨by rw [decide_eq_false (fun e=>h (by rw [e]))],rfl⟩
theorem G25 (p:HP) (ro:Bool) (a:Option Addr) (c:Nat) (l:List UInt8) [ks:IsSl p a ro A7 1 l.length c (A0 l)] (hn:l.length≤B1) :
  Ct A9 E9 [.slice a l.length c] [p] fun v own=>∃ a' c',v=.slice a' l.length c'∧own [slC false A7 1 a' l.length c' (A0 l),p]:=by
 refine Ct.of Bf1 rfl fun h r=>Tr.eq (Bf2 ..) ?_;refine Je ?_
 refine V7 0 rfl fun hl hc _=>?_
 refine Tr.cond (fun hb=>?_) fun hb=>?_
 ·obtain rfl:a=none:=by simpa using hb
  refine G4 false A7 1 (by omega) ?_
  intro o
  have o1:=(o.tail.head ks.en).slNone
  obtain rfl:l=[]:=by
   have:=o1.2.2.1
   cases l with
   | nil=>rfl
   | cons x l=>simp [A0] at this
  obtain rfl:c=0:=o1.2.1
  exact ⟨_,_,rfl,none,0,rfl,o⟩
 ·(refine Ja ?_;intros)
  refine Av2 0 rfl 1 0 rfl (by omega) ?_;refine Je ?_
  (refine Ja ?_;intros)
  refine Tr.xApd ⟨by simp [A0],by simp [A0,Value.oneCell],by omega⟩ fun a' c' h'=>?_
  refine Je ?_
  refine Ys fun o=>⟨a',c',by simp,by simpa using o⟩
end Go.EQ
namespace Go.NN
section
variable {l:List HP} {h:H} {α:Type} {Q:α→H→Prop} {ro:Bool} {e:TypeId} {cs:List Value}
instance {f:Fn} {a c:Array Value} {k:Option α}:Dx (one (.func f a c) k) k:=⟨rfl⟩
theorem Tr.xPCells {a:Option Addr} {n c sz:Nat} {vs cs':List Value} {l':List HP} {k:H→Option (α × H)} [k1:LkO l a false e sz n c cs] (hn:0<n) (hj:vs≠[]∧vs.length≤cs.length∧vs.all Value.oneCell=true∧vs++cs.drop vs.length=cs') [k2:UpO l a (slC false e sz a n c cs') e sz n c cs l'] (t:∀ h',Tr l' h' (k h') Q):Tr l h (NN.pCells a vs h k) Q:=fun ow=>by
 obtain ⟨i,p,hi,hp⟩:=k1.ix
 obtain ⟨y,rfl⟩:=((ow.front hi).head hp).slSome hn
 have:NN.pCells (Option.some y) vs h k=NN.pAgg ((B2 y).add 0) vs h k:=by
  show NN.pAgg (B2 y) vs h k=_
  congr 1
 rw [this]
 exact Tr.xPAggS (k1:=k1) ⟨hj.1,by omega,hj.2.2.1,by simpa using hj.2.2.2⟩ (k2:=k2) t ow
end
end Go.NN

set_option maxRecDepth 10000
namespace Go.EQ
open Go Go.NN
def b8 (x:Int):UInt8:=UInt8.ofNat (x%256).toNat
theorem Do7 (x:Int):IntKind.wrap .u8 x=x%256:=Im3 x
theorem Bm9 (x:Int):IntKind.wrap .u8 x=((b8 x).toNat:Int):=by
 rw [Do7,b8,UInt8.toNat_ofNat']
 omega
def Bw8 (l:List UInt8):UInt8:=b8 (Gw2 l)
theorem Hk1:∀ (l:List UInt8) (n:Int),0≤n∧n<256→0≤En8 n l∧En8 n l<256
 | [],n,h=>h
 | x::l,n,h=>Hk1 l _ (by show 0≤IntKind.wrap .u8 (n+x.toNat)∧IntKind.wrap .u8 (n+x.toNat)<256;rw [Do7];omega)
theorem Dy9 (l:List UInt8):Gw2 l=((Bw8 l).toNat:Int):=by
 have:=Hk1 l (IntKind.wrap .u8 l.length) (by rw [Do7];omega)
 unfold Bw8
 rw [← Bm9,Do7]
 unfold Gw2 at *;omega
structure FileS where
 kind:Int
 pipe:Int
 refs:Int
 flags:Int
abbrev FileS.zero:FileS:=⟨0,0,0,0⟩
abbrev Aj8 (f:FileS):List Value:=[int f.kind,int f.pipe,int f.refs,int f.flags]
def okF (f:FileS):Bool:=decide (f.kind≥1) && decide (f.kind≤3) && decide (f.pipe≥0) && decide (f.pipe≤7) && (f.kind != 3 || f.pipe==0) && decide (f.refs≥1) && decide (f.refs≤64) && (f.flags==0 || f.flags==1)
def Bd6 (f:FileS):List UInt8:=[b8 f.kind,b8 f.pipe,b8 f.refs,b8 f.flags,179]
def Al4 (f:FileS):List UInt8:=Bd6 f++[Bw8 (Bd6 f),0,0]
theorem I52 (f:FileS):Ct A9 Dq5 [.agg ⟨Aj8 f⟩] [] fun v own=>v=.bool (okF f)∧own []:=by
 refine Ct.of H54 rfl fun h r=>Tr.eq (H97 ..) ?_;refine Je ?_
 (refine Ja ?_;intros)
 refine Ys fun o=>?_
 refine ⟨?_,o.sub⟩
 rfl
theorem Iy3 (a:Option Addr) (c:Nat) (f:FileS):Ct A9 Au2 [.agg ⟨Aj8 f⟩,.slice a 8 c] [slC false A7 1 a 8 c (A0 (List.replicate 8 0))] fun v own=>v=.bool (okF f)∧own [slC false A7 1 a 8 c (A0 (if okF f then Al4 f else List.replicate 8 0))]:=by
 refine Ct.of Hp2 rfl fun h r=>Tr.eq (Hs6 ..) ?_;refine Je ?_
 (refine Ja ?_;intros)
 refine Yc (I52 f) ?_;rintro _ h ⟨rfl,o⟩<;>(refine Jf o ?_;intros)
 cases hk:okF f with
 | false =>
  (refine Ja ?_;intros)
  refine Ys fun o=>?_
  rw [if_neg (by simp)]
  exact ⟨rfl,o.sub⟩
 | true =>
  (refine Ja ?_;intros)
  simp only [Bm9,List.drop_zero,List.take]
  refine V7 2 rfl fun hl hc _=>?_
  refine Tr.xPCells (cs':=A0 (Bd6 f++[0,0,0])) (by omega) ⟨by simp,by simp [A0],by simp [Value.oneCell],rfl⟩ fun h=>?_
  (refine Ja ?_;intros)
  refine Tr.pcall (Gq3 (slC false A7 1 a 8 c (A0 (Bd6 f++[0,0,0]))) a false 8 c c (Bd6 f++[0,0,0]) 5 (by simp [Bd6]) (by simp [Bd6,B1])) ?_
  refine Je ?_
  (refine Ja ?_;intros;repeat(refine Gw ?_;rintro px rfl;refine Ja ?_;intros))
  rw [show List.take 5 (Bd6 f++[0,0,0]:List UInt8)=Bd6 f from rfl,Dy9]
  refine Tr.xVS (cs':=A0 (Al4 f)) ⟨by simp [A0,Bd6],rfl,rfl⟩ fun h=>?_
  refine Ys fun o=>?_
  simp only [if_true]
  exact ⟨trivial,o.sub⟩
theorem D22 {l:List Value} (h:l.all (fun v=>match v with|.int _ _=>true|_=>false)=true):Ar7 (.agg ⟨l⟩) (.agg ⟨l⟩)=true:=by
 show Bv8 l l=true
 induction l with
 | nil=>rfl
 | cons v l ih =>
  simp only [List.all_cons,Bool.and_eq_true] at h
  show (A57 v v && Bv8 l l)=true
  rw [ih h.2,Bool.and_true]
  cases v<;>first|(simp [A57];done)|exact absurd h.1 (by simp)
abbrev Hi4 (k:Nat):HP:=pt k (.cells Al9 false [int 8,.func (.func Au2) ⟨[]⟩ ⟨[]⟩,.func (.func At5) ⟨[]⟩ ⟨[]⟩])
theorem Hq5 (k:Nat) (f:FileS):Ct A9 Y5 [P0 k,.agg ⟨Aj8 f⟩] [Hi4 k] fun v own=>(okF f=true∧∃ a,v=.tuple ⟨[.slice a 8 8,.bool true]⟩∧own [Hi4 k,slC false A7 1 a 8 8 (A0 (Al4 f))])∨(okF f=false∧v=.tuple ⟨[.slice none 0 0,.bool false]⟩∧own [Hi4 k]):=by
 refine Ct.of B96 rfl fun h r=>Tr.eq (B95 ..) ?_;refine Je ?_
 (refine Ja ?_;intros)
 refine Tr.ck ⟨by omega,by omega,by simp [B1]⟩ ?_
 refine Yn fun b1 h=>?_
 rw [show L5 (Int.toNat 8) [.int .u8 0]=A0 (List.replicate 8 0) from rfl]
 refine Av2 0 rfl 1 8 rfl (by omega) ?_
 simp only [List.set_cons_zero]
 refine Je ?_
 (refine Jb ?_;intros)
 refine Yb (Yf rfl ?_)
 (refine Jb ?_;intros)
 refine Yc (Iy3 (some ⟨b1,0,none⟩) 8 f) ?_;rintro _ h ⟨rfl,o⟩<;>(refine Jg o ?_;intros)
 refine Ys fun o=>(?_:Tr _ _ _ _) o;refine Je ?_
 cases hk:okF f with
 | false =>
  (refine Ja ?_;intros)
  refine Ys fun o=>?_
  exact .inr ⟨rfl,rfl,o.sub⟩
 | true =>
  (refine Ja ?_;intros)
  refine Ys fun o=>?_
  simp only [if_true] at o
  exact .inl ⟨rfl,_,rfl,o.sub⟩
theorem Ix9:Ct A9 Ar3 [int 8,.func (.func Au2) ⟨[]⟩ ⟨[]⟩,.func (.func At5) ⟨[]⟩ ⟨[]⟩] [] fun v own=>∃ k,v=P0 k∧own [pt k (.cells Al9 false [int 8,.func (.func Au2) ⟨[]⟩ ⟨[]⟩,.func (.func At5) ⟨[]⟩ ⟨[]⟩])]:=by
 refine Ct.of Ef8 rfl fun h r=>Tr.eq (El5 ..) ?_;refine Je ?_
 rw [show mm2 false (mm2 true 8 0) 64=8 from rfl]
 (refine Ja ?_;intros)
 refine Ys fun o=>?_
 exact ⟨_,rfl,o.sub⟩
theorem G45:Ct A9 Bg3 [] [] fun v own=>∃ k,v=P0 k∧own [pt k (.cells Al9 false [int 8,.func (.func Au2) ⟨[]⟩ ⟨[]⟩,.func (.func At5) ⟨[]⟩ ⟨[]⟩])]:=by
 refine Ct.of G60 rfl fun h r=>Tr.eq (G49 ..) ?_;refine Je ?_
 refine Yc (Ix9) ?_;rintro _ h ⟨k,rfl,o⟩<;>(refine Jf o ?_;intros)
 refine Ys fun o=>?_
 exact ⟨_,rfl,o.sub⟩
theorem Gr9 (f:FileS):Ct A9 A84 [.agg ⟨Aj8 f⟩] [] fun v own=>(okF f=true∧∃ a,v=.tuple ⟨[.slice a 8 8,.bool true]⟩∧own [slC false A7 1 a 8 8 (A0 (Al4 f))])∨(okF f=false∧v=.tuple ⟨[.slice none 0 0,.bool false]⟩∧own []):=by
 refine Ct.of Gw4 rfl fun h r=>Tr.eq (Gw5 ..) ?_;refine Je ?_
 (refine Ja ?_;intros)
 refine Yc (G45) ?_;rintro _ h ⟨k,rfl,o⟩<;>(refine Jf o ?_;intros)
 refine Tr.same (D22 rfl) ?_
 refine Yc (Hq5 k f) ?_
 rintro v h (⟨hk,a,rfl,o⟩|⟨hk,rfl,o⟩)
 ·refine (?_:Tr _ _ _ _) o
  refine Je ?_
  (refine Ja ?_;intros)
  refine Ys fun o=>?_
  exact .inl ⟨hk,a,rfl,o.sub⟩
 ·refine (?_:Tr _ _ _ _) o
  refine Je ?_
  (refine Ja ?_;intros)
  refine Ys fun o=>?_
  exact .inr ⟨hk,rfl,o.sub⟩
theorem Af8 {l:List UInt8} {i:Nat} (h:i<l.length):(A0 l)[i]?=some (.int .u8 ((l.getD i 0).toNat:Int)):=by
 rw [List.getD_eq_getElem?_getD,List.getElem?_eq_getElem h];exact Ec0 (List.getElem?_eq_getElem h)
theorem Ap7 (x:UInt8):IntKind.wrap .i64 (x.toNat:Int)=(x.toNat:Int):=by
 have:=x.toNat_lt;rw [B6];omega
abbrev byI (l:List UInt8) (i:Nat):Int:=((l.getD i 0).toNat:Int)
def Da7 (l:List UInt8):FileS:=⟨byI l 0,byI l 1,byI l 2,byI l 3⟩
def isF (l:List UInt8):Bool:=okF (Da7 l) && decide (Al4 (Da7 l)=l)
theorem I08 (a:Option Addr) (c:Nat) (l:List UInt8) (hl:l.length=8):Ct A9 At5 [.slice a 8 c] [slC false A7 1 a 8 c (A0 l)] fun v own=>v=.tuple ⟨[.agg ⟨Aj8 (Da7 l)⟩,.bool (isF l)]⟩∧own [slC false A7 1 a 8 c (A0 l)]:=by
 have key:∀ a1:Option Addr,CtP A9 D5 [.slice a1 8 8,.slice a 8 c] [slC false A7 1 a1 8 8 (A0 (Al4 (Da7 l))),slC false A7 1 a 8 c (A0 l)] (.bool (decide (Al4 (Da7 l)=l))):=fun a1=>by
  have J:=Ey9 (slC false A7 1 a1 8 8 (A0 (Al4 (Da7 l)))) (slC false A7 1 a l.length c (A0 l)) a1 false 8 a false c (Al4 (Da7 l)) l (by simp [Al4,Bd6,B1])
  rwa [hl,show (Al4 (Da7 l)).length=8 from rfl] at J
 refine Ct.of Hp1 rfl fun h r=>Tr.eq (Hp3 ..) ?_;refine Je ?_
 refine Yn fun b1 h=>?_
 (refine Ja ?_;intros;repeat(refine Gw ?_;rintro px rfl;refine Ja ?_;intros))
 refine Tr.xIntS (v:=byI l 0) (Af8 (by omega)) ?_
 (refine Ja ?_;intros)
 refine Tr.xIntS (v:=byI l 1) (Af8 (by omega)) ?_
 (refine Ja ?_;intros)
 refine Tr.xIntS (v:=byI l 2) (Af8 (by omega)) ?_
 (refine Ja ?_;intros)
 refine Tr.xIntS (v:=byI l 3) (Af8 (by omega)) ?_
 simp only [byI,Ap7]
 refine Yn fun b2 h=>?_
 (refine Jb ?_;intros)
 refine Yc (Gr9 (Da7 l)) ?_
 rintro v h (⟨hk,a1,rfl,o⟩|⟨hk,rfl,o⟩)
 ·refine (?_:Tr _ _ _ _) o
  refine Je ?_
  (refine Jb ?_;intros)
  refine Yb (Yt rfl ?_)
  refine Tr.pcall (key a1) ?_;refine Je ?_;(refine Jb ?_;intros)
  refine Tr.same (D22 rfl) ?_
  refine Ys fun o=>(?_:Tr _ _ _ _) o;refine Je ?_
  (refine Ja ?_;intros)
  refine Ys fun o=>?_
  exact ⟨by unfold isF;rw [hk,Bool.true_and];rfl,o.sub⟩
 ·refine (?_:Tr _ _ _ _) o
  refine Je ?_
  (refine Ja ?_;intros)
  refine Ys fun o=>?_
  exact ⟨by unfold isF;rw [hk];rfl,o.sub⟩
theorem Eh2 (n:Nat) (pb:HP) (ro:Bool) (a:Option Addr) (c:Nat) (l:List UInt8) (hl:l.length=n) (hn:n≤B1) [ks:IsSl pb a ro A7 1 n c (A0 l)]:Ct A9 E9 [.slice a n c] [pb] fun v own=>∃ a' c',v=.slice a' n c'∧own [slC false A7 1 a' n c' (A0 l),pb]:=by
 subst hl;exact G25 pb ro a c l hn
theorem Ek7 (n:Nat) (pb:HP) (ro:Bool) (a:Option Addr) (c:Nat) (l:List UInt8) (hl:l.length=n) (hn:n≤B1) [ks:IsSl pb a ro A7 1 n c (A0 l)]:CtP A9 Ap1 [.slice a n c] [pb] (.bool (l.all (·==0))):=by
 subst hl;exact In0 pb a ro c l hn
theorem Hd6 (k:Nat) (pb:HP) (ro:Bool) (a:Option Addr) (c:Nat) (l:List UInt8) (hl:l.length=8) [ks:IsSl pb a ro A7 1 8 c (A0 l)]:Ct A9 Y2 [P0 k,.slice a 8 c] [Hi4 k,pb] fun v own=>v=.tuple ⟨[.agg ⟨Aj8 (if isF l then Da7 l else .zero)⟩,.bool (isF l)]⟩∧own [Hi4 k,pb]:=by
 refine Ct.of Da0 rfl fun h r=>Tr.eq (B94 ..) ?_;refine Je ?_
 (refine Ja ?_;intros)
 refine Yf rfl ?_
 (refine Jb ?_;intros)
 refine Yc (Eh2 8 pb ro a c l hl (by simp [B1])) ?_;rintro _ h ⟨a1,c1,rfl,o⟩<;>(refine Jg o ?_;intros)
 refine Yc (I08 a1 c1 l hl) ?_;rintro _ h ⟨rfl,o⟩<;>(refine Jg o ?_;intros)
 cases hk:isF l with
 | false =>
  (refine Ja ?_;intros)
  refine Ys fun o=>?_
  exact ⟨rfl,o.sub⟩
 | true =>
  (refine Ja ?_;intros)
  refine Ys fun o=>?_
  exact ⟨rfl,o.sub⟩
def Aa2 (l:List UInt8):FileS × Int:=if l.all (·==0) then (.zero,0) else if isF l then (Da7 l,1) else (.zero,2)
theorem Ht9 (pb:HP) (ro:Bool) (a:Option Addr) (c:Nat) (l:List UInt8) (hl:l.length=8) [ks:IsSl pb a ro A7 1 8 c (A0 l)]:Ct A9 Au6 [.slice a 8 c] [pb] fun v own=>v=.tuple ⟨[.agg ⟨Aj8 (Aa2 l).1⟩,int (Aa2 l).2]⟩∧own [pb]:=by
 refine Ct.of Gw3 rfl fun h r=>Tr.eq (Gx7 ..) ?_;refine Je ?_
 refine Yn fun b1 h=>?_
 refine Yb (Yt rfl ?_)
 refine Tr.pcall (Ek7 8 pb ro a c l hl (by simp [B1])) ?_;refine Je ?_;(refine Jb ?_;intros)
 refine Ys fun o=>(?_:Tr _ _ _ _) o;refine Je ?_
 cases hb:l.all (·==0) with
 | true =>
  (refine Ja ?_;intros)
  refine Ys fun o=>?_
  exact ⟨by unfold Aa2;rw [hb];rfl,o.sub⟩
 | false =>
  (refine Jb ?_;intros)
  refine Yc (G45) ?_;rintro _ h ⟨k,rfl,o⟩<;>(refine Jg o ?_;intros)
  refine Yc (Hd6 k pb ro a c l hl) ?_;rintro _ h ⟨rfl,o⟩<;>(refine Jg o ?_;intros)
  cases hk:isF l with
  | false =>
   (refine Ja ?_;intros)
   refine Ys fun o=>?_
   exact ⟨by unfold Aa2;rw [hb,hk];rfl,o.sub⟩
  | true =>
   (refine Ja ?_;intros)
   refine Ys fun o=>?_
   exact ⟨by unfold Aa2;rw [hb,hk];rfl,o.sub⟩
theorem H53 (a:Option Addr) (c:Nat) (l:List UInt8) (hl:l.length=8):Ct A9 Au6 [.slice a 8 c] [slC false A7 1 a 8 c (A0 l)] fun v own=>v=.tuple ⟨[.agg ⟨Aj8 (Aa2 l).1⟩,int (Aa2 l).2]⟩∧own [slC false A7 1 a 8 c (A0 l)]:=Ht9 (slC false A7 1 a 8 c (A0 l)) false a c l hl
structure PipeS where
 head:Int
 count:Int
 readers:Int
 writers:Int
 data:List UInt8
 len:data.length=32
abbrev PipeS.zero:PipeS:=⟨0,0,0,0,List.replicate 32 0,rfl⟩
abbrev G1 (p:PipeS):List Value:=int p.head::int p.count::int p.readers::int p.writers::A0 p.data
theorem Ae6 {p:PipeS} (hd:p.data.length=32):(G1 p).length=36:=by simp [G1,W3,hd]
theorem H19 {p:PipeS} (hd:p.data.length=32):4+32≤(G1 p).length∧((G1 p).drop 4).take 32=A0 p.data:=⟨by rw [Ae6 hd];exact Nat.le_refl _,by
 rw [show (G1 p).drop 4=A0 p.data from rfl,List.take_of_length_le (by rw [W3,hd];exact Nat.le_refl _)]⟩
theorem G29 (p:PipeS):(G1 p).all Value.oneCell=true:=by simp [G1,Ai5,Value.oneCell]
theorem H02 (p:PipeS):Ar7 (.agg ⟨G1 p⟩) (.agg ⟨G1 p⟩)=true:=D22 (by simp [G1,A0])
instance {p:PipeS}:LenC (G1 p) 36:=⟨Ae6 p.len⟩
instance {p:PipeS}:PartC (G1 p) 0 36 (G1 p):=⟨B10 (Ae6 p.len)⟩
instance {p:PipeS} {cs:List Value} [k:LenC cs 36]:SetsC cs 0 (G1 p) (G1 p):=⟨Bl1 k.ok (Ae6 p.len) (G29 p)⟩
instance {p:PipeS}:SameC (.agg ⟨G1 p⟩):=⟨H02 p⟩
def okP (p:PipeS):Bool:=decide (0≤p.head∧p.head≤31) && decide (0≤p.count∧p.count≤32) && decide (0≤p.readers∧p.readers≤8) && decide (0≤p.writers∧p.writers≤8)
def Aj9 (p:PipeS):List UInt8:=[1,b8 p.head,b8 p.count,b8 p.readers,b8 p.writers,197]
def M7 (p:PipeS):List UInt8:=Aj9 p++Bw8 (Aj9 p)::0::p.data
theorem Bm7 {p:PipeS} (hd:p.data.length=32):(M7 p).length=40:=by simp [M7,Aj9,hd]
theorem I73 (n m:Int):CtP A9 Au1 [int n,int m] [] (.bool (decide (0≤n∧n≤m))):=by
 refine CtP.of Hv8 rfl fun h r=>Tr.eq (Hw7 ..) ?_;refine Je ?_
 (refine Ja ?_;intros)
 refine Ys fun o=>?_
 refine ⟨?_,rfl⟩
 refine congrArg Value.bool ?_;rw [Bool.eq_iff_iff];simp only [Bool.and_eq_true,Bool.or_eq_true,Bool.not_eq_true',Bool.not_eq_false',decide_eq_true_eq,decide_eq_false_iff_not,bne_iff_ne,beq_iff_eq,ne_eq,B6,Aa1,W9,ge_iff_le,gt_iff_lt];first|done|omega
instance {n m:Int} {l:List HP}:PCi A9 Au1 [.int .i64 n,.int .i64 m] l (.bool (decide (0≤n∧n≤m))):=PCi.of (I73 n m)
theorem Hj9 (p:PipeS):Ct A9 B11 [.agg ⟨G1 p⟩] [] fun v own=>v=.bool (okP p)∧own []:=by
 refine Ct.of Ib2 rfl fun h r=>Tr.eq (Ik7 ..) ?_;refine Je ?_
 (refine Ja ?_;intros)
 refine Ys fun o=>?_
 exact ⟨rfl,o.sub⟩
theorem I09 (a:Option Addr) (c:Nat) (p:PipeS):Ct A9 Bn7 [.agg ⟨G1 p⟩,.slice a 40 c] [slC false A7 1 a 40 c (A0 (List.replicate 40 0))] fun v own=>v=.bool (okP p)∧own [slC false A7 1 a 40 c (A0 (if okP p then M7 p else List.replicate 40 0))]:=by
 have hd:=p.len
 refine Ct.of H24 rfl fun h r=>Tr.eq (H89 ..) ?_;refine Je ?_
 refine Yn fun b1 h=>?_
 (refine Ja ?_;intros)
 refine Yc (Hj9 p) ?_;rintro _ h ⟨rfl,o⟩<;>(refine Jg o ?_;intros)
 cases hk:okP p with
 | false =>
  (refine Ja ?_;intros)
  refine Ys fun o=>?_
  rw [if_neg (by simp)]
  exact ⟨rfl,o.sub⟩
 | true =>
  (refine Ja ?_;intros)
  simp only [Bm9,List.drop_zero,List.take]
  refine V7 2 rfl fun hl hc _=>?_
  refine Tr.xPCells (cs':=A0 (Aj9 p++List.replicate 34 0)) (by omega) ⟨by simp,by simp [A0],by simp [Value.oneCell],rfl⟩ fun h=>?_
  (refine Ja ?_;intros)
  refine Tr.pcall (Gq3 (slC false A7 1 a 40 c (A0 (Aj9 p++List.replicate 34 0))) a false 40 c c (Aj9 p++List.replicate 34 0) 6 (by simp [Aj9]) (by simp [Aj9,B1])) ?_
  refine Je ?_
  (refine Ja ?_;intros;repeat(refine Gw ?_;rintro px rfl;refine Ja ?_;intros))
  rw [show List.take 6 (Aj9 p++List.replicate 34 0:List UInt8)=Aj9 p from rfl,Dy9]
  refine Tr.xVS (cs':=A0 (Aj9 p++Bw8 (Aj9 p)::List.replicate 33 0)) ⟨by simp [A0,Aj9],rfl,rfl⟩ fun h=>?_
  (refine Ja ?_;intros)
  refine Tr.xCellsB (xs:=A0 p.data) (H19 p.len) ?_
  rw [Gx2 (by omega),Ew3]
  refine Tr.xPAggS (cs':=A0 (M7 p)) ⟨?_,?_,Ai5 _,?_⟩ fun h=>?_
  ·intro e;have:=congrArg List.length e;simp [A0,hd] at this
  ·simp [A0,hd,Aj9]
  ·rw [W3,hd]
   simp [A0,M7,Aj9]
  refine Ys fun o=>?_
  simp only [if_true]
  exact ⟨trivial,o.sub⟩
abbrev Gi0 (k:Nat):HP:=pt k (.cells Bu3 false [int 40,.func (.func Bn7) ⟨[]⟩ ⟨[]⟩,.func (.func Bp4) ⟨[]⟩ ⟨[]⟩])
theorem Hw2 (k:Nat) (f:PipeS):Ct A9 Y3 [P0 k,.agg ⟨G1 f⟩] [Gi0 k] fun v own=>(okP f=true∧∃ a,v=.tuple ⟨[.slice a 40 40,.bool true]⟩∧own [Gi0 k,slC false A7 1 a 40 40 (A0 (M7 f))])∨(okP f=false∧v=.tuple ⟨[.slice none 0 0,.bool false]⟩∧own [Gi0 k]):=by
 refine Ct.of B97 rfl fun h r=>Tr.eq (B89 ..) ?_;refine Je ?_
 (refine Ja ?_;intros)
 refine Tr.ck ⟨by omega,by omega,by simp [B1]⟩ ?_
 refine Yn fun b1 h=>?_
 rw [show L5 (Int.toNat 40) [.int .u8 0]=A0 (List.replicate 40 0) from rfl]
 refine Av2 0 rfl 1 40 rfl (by omega) ?_
 simp only [List.set_cons_zero]
 refine Je ?_
 (refine Jb ?_;intros)
 refine Yb (Yf rfl ?_)
 (refine Jb ?_;intros)
 refine Yc (I09 (some ⟨b1,0,none⟩) 40 f) ?_;rintro _ h ⟨rfl,o⟩<;>(refine Jg o ?_;intros)
 refine Ys fun o=>(?_:Tr _ _ _ _) o;refine Je ?_
 cases hk:okP f with
 | false =>
  (refine Ja ?_;intros)
  refine Ys fun o=>?_
  exact .inr ⟨rfl,rfl,o.sub⟩
 | true =>
  (refine Ja ?_;intros)
  refine Ys fun o=>?_
  simp only [if_true] at o
  exact .inl ⟨rfl,_,rfl,o.sub⟩
theorem I00:Ct A9 As8 [int 40,.func (.func Bn7) ⟨[]⟩ ⟨[]⟩,.func (.func Bp4) ⟨[]⟩ ⟨[]⟩] [] fun v own=>∃ k,v=P0 k∧own [Gi0 k]:=by
 refine Ct.of Eo0 rfl fun h r=>Tr.eq (Ep0 ..) ?_;refine Je ?_
 rw [show mm2 false (mm2 true 40 0) 64=40 from rfl]
 (refine Ja ?_;intros)
 refine Ys fun o=>?_
 exact ⟨_,rfl,o.sub⟩
theorem G26:Ct A9 Bn4 [] [] fun v own=>∃ k,v=P0 k∧own [Gi0 k]:=by
 refine Ct.of Hj1 rfl fun h r=>Tr.eq (Hk4 ..) ?_;refine Je ?_
 refine Yc (I00) ?_;rintro _ h ⟨k,rfl,o⟩<;>(refine Jf o ?_;intros)
 refine Ys fun o=>?_
 exact ⟨_,rfl,o.sub⟩
theorem Gl6 (f:PipeS):Ct A9 Be5 [.agg ⟨G1 f⟩] [] fun v own=>(okP f=true∧∃ a,v=.tuple ⟨[.slice a 40 40,.bool true]⟩∧own [slC false A7 1 a 40 40 (A0 (M7 f))])∨(okP f=false∧v=.tuple ⟨[.slice none 0 0,.bool false]⟩∧own []):=by
 refine Ct.of G67 rfl fun h r=>Tr.eq (G90 ..) ?_;refine Je ?_
 refine Yn fun b1 h=>?_
 (refine Ja ?_;intros)
 refine Yc (G26) ?_;rintro _ h ⟨k,rfl,o⟩<;>(refine Jg o ?_;intros)
 (refine Ja ?_;intros)
 refine Yc (Hw2 k f) ?_
 rintro v h (⟨hk,a,rfl,o⟩|⟨hk,rfl,o⟩)
 ·refine (?_:Tr _ _ _ _) o
  refine Je ?_
  (refine Ja ?_;intros)
  refine Ys fun o=>?_
  exact .inl ⟨hk,a,rfl,o.sub⟩
 ·refine (?_:Tr _ _ _ _) o
  refine Je ?_
  (refine Ja ?_;intros)
  refine Ys fun o=>?_
  exact .inr ⟨hk,rfl,o.sub⟩
def D36 (l:List UInt8):List UInt8:=(l++List.replicate 32 0).take 32
theorem Ie1 (l:List UInt8):(D36 l).length=32:=by simp [D36]
theorem El3 {l:List UInt8} (h:l.length=32):D36 l=l:=by simp [D36,← h]
def Bh1 (l:List UInt8):PipeS:=⟨byI l 1,byI l 2,byI l 3,byI l 4,D36 (l.drop 8),Ie1 _⟩
def isP (l:List UInt8):Bool:=okP (Bh1 l) && decide (M7 (Bh1 l)=l)
theorem I18 (a:Option Addr) (c:Nat) (l:List UInt8) (hl:l.length=40):Ct A9 Bp4 [.slice a 40 c] [slC false A7 1 a 40 c (A0 l)] fun v own=>v=.tuple ⟨[.agg ⟨G1 (Bh1 l)⟩,.bool (isP l)]⟩∧own [slC false A7 1 a 40 c (A0 l)]:=by
 have hd:=(Bh1 l).len
 have hp:D36 (l.drop 8)=l.drop 8:=El3 (by simp [hl])
 have key:∀ a1:Option Addr,CtP A9 D5 [.slice a1 40 40,.slice a 40 c] [slC false A7 1 a1 40 40 (A0 (M7 (Bh1 l))),slC false A7 1 a 40 c (A0 l)] (.bool (decide (M7 (Bh1 l)=l))):=fun a1=>by
  have e:=Bm7 hd
  have J:=Ey9 (slC false A7 1 a1 (M7 (Bh1 l)).length 40 (A0 (M7 (Bh1 l)))) (slC false A7 1 a l.length c (A0 l)) a1 false 40 a false c (M7 (Bh1 l)) l (by rw [e];simp [B1])
  rwa [hl,e] at J
 refine Ct.of H22 rfl fun h r=>Tr.eq (H88 ..) ?_;refine Je ?_
 refine Yn fun b1 h=>?_
 refine V7 1 rfl fun hl2 hc2 _=>?_
 (refine Ja ?_;intros;repeat(refine Gw ?_;rintro px rfl;refine Ja ?_;intros))
 refine Tr.xIntS (v:=byI l 1) (Af8 (by omega)) ?_
 (refine Ja ?_;intros)
 refine Tr.xIntS (v:=byI l 2) (Af8 (by omega)) ?_
 (refine Ja ?_;intros)
 refine Tr.xIntS (v:=byI l 3) (Af8 (by omega)) ?_
 (refine Ja ?_;intros)
 refine Tr.xIntS (v:=byI l 4) (Af8 (by omega)) ?_
 simp only [byI,Ap7]
 refine Yn fun b2 h=>?_
 (refine Jb ?_;intros)
 rw [Gx2 (show 8<c by omega),Hg2]
 refine Tr.xAggS (xs:=A0 (l.drop 8)) ⟨by omega,by simp [W3,hl],?_⟩ ?_
 ·rw [Da5,List.take_of_length_le (by simp [W3,hl])]
 rw [show pCells (some (⟨b2,4,none⟩:Addr))=pAgg ⟨b2,4,none⟩ from rfl]
 refine Tr.xPAgg (cs':=G1 (Bh1 l)) ⟨by simp [W3,hl],Ai5 _,by simp [G1,Bh1,byI,W3,hl,hp]⟩ fun h=>?_
 (refine Ja ?_;intros)
 refine Yc (Gl6 (Bh1 l)) ?_
 rintro v h (⟨hk,a1,rfl,o⟩|⟨hk,rfl,o⟩)
 ·refine (?_:Tr _ _ _ _) o
  refine Je ?_
  (refine Jb ?_;intros)
  refine Yb (Yt rfl ?_)
  refine Tr.pcall (key a1) ?_;refine Je ?_;(refine Jb ?_;intros)
  refine Ys fun o=>(?_:Tr _ _ _ _) o;refine Je ?_
  (refine Ja ?_;intros)
  refine Ys fun o=>?_
  exact ⟨by unfold isP;rw [hk,Bool.true_and],o.sub⟩
 ·refine (?_:Tr _ _ _ _) o
  refine Je ?_
  (refine Ja ?_;intros)
  refine Ys fun o=>?_
  exact ⟨by unfold isP;rw [hk];rfl,o.sub⟩
theorem Ho1 (k:Nat) (pb:HP) (ro:Bool) (a:Option Addr) (c:Nat) (l:List UInt8) (hl:l.length=40) [ks:IsSl pb a ro A7 1 40 c (A0 l)]:Ct A9 Y4 [P0 k,.slice a 40 c] [Gi0 k,pb] fun v own=>v=.tuple ⟨[.agg ⟨G1 (if isP l then Bh1 l else .zero)⟩,.bool (isP l)]⟩∧own [Gi0 k,pb]:=by
 have hd:=(Bh1 l).len
 have hp:D36 (l.drop 8)=l.drop 8:=El3 (by simp [hl])
 refine Ct.of B91 rfl fun h r=>Tr.eq (B90 ..) ?_;refine Je ?_
 (refine Ja ?_;intros)
 refine Yf rfl ?_
 (refine Jb ?_;intros)
 refine Yc (Eh2 40 pb ro a c l hl (by simp [B1])) ?_;rintro _ h ⟨a1,c1,rfl,o⟩<;>(refine Jg o ?_;intros)
 refine Yc (I18 a1 c1 l hl) ?_;rintro _ h ⟨rfl,o⟩<;>(refine Jg o ?_;intros)
 cases hk:isP l with
 | false =>
  (refine Ja ?_;intros)
  refine Ys fun o=>?_
  exact ⟨rfl,o.sub⟩
 | true =>
  (refine Ja ?_;intros)
  refine Ys fun o=>?_
  exact ⟨rfl,o.sub⟩
def U7 (l:List UInt8):PipeS × Int:=if l.all (·==0) then (.zero,0) else if isP l then (Bh1 l,1) else (.zero,2)
theorem Hr5 (pb:HP) (ro:Bool) (a:Option Addr) (c:Nat) (l:List UInt8) (hl:l.length=40) [ks:IsSl pb a ro A7 1 40 c (A0 l)]:Ct A9 Ap3 [.slice a 40 c] [pb] fun v own=>v=.tuple ⟨[.agg ⟨G1 (U7 l).1⟩,int (U7 l).2]⟩∧own [pb]:=by
 have hd:=(Bh1 l).len
 have hp:D36 (l.drop 8)=l.drop 8:=El3 (by simp [hl])
 refine Ct.of G51 rfl fun h r=>Tr.eq (G75 ..) ?_;refine Je ?_
 refine Yn fun b1 h=>?_
 refine Yb (Yt rfl ?_)
 refine Tr.pcall (Ek7 40 pb ro a c l hl (by simp [B1])) ?_;refine Je ?_;(refine Jb ?_;intros)
 refine Ys fun o=>(?_:Tr _ _ _ _) o;refine Je ?_
 cases hb:l.all (·==0) with
 | true =>
  (refine Ja ?_;intros)
  refine Ys fun o=>?_
  exact ⟨by unfold U7;rw [hb];rfl,o.sub⟩
 | false =>
  (refine Jb ?_;intros)
  refine Yc (G26) ?_;rintro _ h ⟨k,rfl,o⟩<;>(refine Jg o ?_;intros)
  refine Yc (Ho1 k pb ro a c l hl) ?_;rintro _ h ⟨rfl,o⟩<;>(refine Jg o ?_;intros)
  cases hk:isP l with
  | false =>
   (refine Ja ?_;intros)
   refine Ys fun o=>?_
   exact ⟨by unfold U7;rw [hb,hk];rfl,o.sub⟩
  | true =>
   (refine Ja ?_;intros)
   refine Ys fun o=>?_
   exact ⟨by unfold U7;rw [hb,hk];rfl,o.sub⟩
theorem H21 (a:Option Addr) (c:Nat) (l:List UInt8) (hl:l.length=40):Ct A9 Ap3 [.slice a 40 c] [slC false A7 1 a 40 c (A0 l)] fun v own=>v=.tuple ⟨[.agg ⟨G1 (U7 l).1⟩,int (U7 l).2]⟩∧own [slC false A7 1 a 40 c (A0 l)]:=Hr5 (slC false A7 1 a 40 c (A0 l)) false a c l hl
structure ProcS where
 state:Int
 parent:Int
 group:Int
 code:Int
 pending:Int
 mask:Int
 ignored:Int
 caught:Int
 fds:List Int
 len:fds.length=8
abbrev G96:List Int:=[0,0,0,0,0,0,0,0]
abbrev ProcS.zero:ProcS:=⟨0,0,0,0,0,0,0,0,G96,rfl⟩
abbrev E0 (p:ProcS):List Value:=int p.state::int p.parent::int p.group::int p.code::int p.pending::int p.mask::int p.ignored::int p.caught::p.fds.map int
theorem B16 (p:ProcS):(E0 p).length=16:=by simp [E0,p.len]
theorem Ii0 (p:ProcS):(E0 p).all Value.oneCell=true:=by simp [E0,Value.oneCell]
instance {p:ProcS}:LenC (E0 p) 16:=⟨B16 p⟩
instance {p:ProcS}:PartC (E0 p) 0 16 (E0 p):=⟨B10 (B16 p)⟩
instance {p:ProcS}:PartC (E0 p) 8 8 (p.fds.map int):=⟨by
 have h:Nat.ble (8+8) (E0 p).length=true:=by rw [B16];rfl
 have e:((E0 p).drop 8).take 8=p.fds.map int:=by rw [show (E0 p).drop 8=p.fds.map int from rfl,List.take_of_length_le (by simp [p.len])]
 rw [Df3,h,e];rfl⟩
instance {p:ProcS} {cs:List Value} [k:LenC cs 16]:SetsC cs 0 (E0 p) (E0 p):=⟨Bl1 k.ok (B16 p) (Ii0 p)⟩
instance {p:ProcS}:SameC (.agg ⟨E0 p⟩):=⟨D22 (by simp [E0])⟩
def Ei7 (n w:Int):Bool:=B21 .i64 n 65534==0 && M8 .i64 n w==0
def okS (p:ProcS):Bool :=
 !(decide (p.state<1) || decide (p.state>3) || decide (p.parent<0) || decide (p.parent>8) || decide (p.group<0) || decide (p.group≥8) || decide (p.code<0) || decide (p.code>255)) &&
 (!(!Ei7 p.pending 0 || !Ei7 p.mask 16896 || !Ei7 p.ignored 16896 || !Ei7 p.caught 16896 || M8 .i64 p.ignored p.caught != 0) &&
 (!(p.fds.any fun f=>decide (f<0) || decide (f>12)) &&
 (if p.state=2 then p.pending==0 && decide (p.fds=G96) else p.code==0)))
def hi2 (n:Int):UInt8:=if 0≤n∧n≤65535 then b8 (n / 256) else 0
def lo2 (n:Int):UInt8:=if 0≤n∧n≤65535 then b8 n else 0
abbrev put2 (n:Int):List UInt8:=[hi2 n,lo2 n]
def El0 (p:ProcS):List UInt8:=[b8 p.state,b8 p.parent,b8 p.group,b8 p.code]++(put2 p.pending++(put2 p.mask++(put2 p.ignored++(put2 p.caught++(p.fds.map b8++[167])))))
theorem Ip1 (n:Int):(put2 n).length=2:=rfl
theorem Ih1 (p:ProcS):(El0 p).length=21:=by simp [El0,Ip1,p.len]
def Ay4 (p:ProcS):List UInt8:=El0 p++[Bw8 (El0 p),0,0]
theorem Ej0 (p:ProcS):(Ay4 p).length=24:=by simp [Ay4,Ih1]
theorem Iz2 (n w:Int):CtP A9 An5 [int n,int w] [] (.bool (Ei7 n w)):=by
 refine CtP.of Ho3 rfl fun h r=>Tr.eq (Hm0 ..) ?_;refine Je ?_
 exact Jz
instance {n w:Int} {l:List HP}:PCi A9 An5 [.int .i64 n,.int .i64 w] l (.bool (Ei7 n w)):=PCi.of (Iz2 n w)
theorem Ix6 (f:Int):CtP A9 Bk4 [int f] [] (.bool (decide (f<0) || decide (f>12))):=by
 refine CtP.of Hg6 rfl fun h r=>Tr.eq (Hm4 ..) ?_;refine Je ?_
 exact Jz
theorem Ge1 (p:HP) (a:Option Addr) (ro:Bool) (c:Nat) (l:List Int) (g:FuncId) (f:Int→Bool) {e:TypeId} [ks:IsSl p a ro e 1 l.length c (l.map int)] (hl:l.length≤B1) (hf:∀ x,CtP A9 g [int x] [] (.bool (f x))):∀ (m i:Nat),l.length-i=m→i≤l.length →
  W8 I2 E2 O5 [(0,.slice a l.length c),(1,.func (.func g) ⟨[]⟩ ⟨[]⟩),(7,int l.length),(8,int i)] [p] (int (Bw2 f i (l.drop i))):=by
 intro m
 induction m with
 | zero =>
  intro i hm hi
  refine W8.of N7 fun h r=>Tr.eq (V2 ..) ?_;refine Je ?_
  refine Yf (by simp;omega) ?_
  refine Ys fun o=>?_
  rw [List.drop_eq_nil_of_le (by omega)];exact ⟨rfl,rfl⟩
 | succ m ih =>
  intro i hm hi
  have hlt:i<l.length:=by omega
  have hp:l[i]?=some l[i]:=List.getElem?_eq_getElem hlt
  have hd:l.drop i=l[i]::l.drop (i+1):=List.drop_eq_getElem_cons hlt
  generalize l[i]=x at hp hd
  have e1:IntKind.wrap .i64 ((i:Int)+1)=((i+1:Nat):Int):=by rw [B6];simp only [B1] at hl;omega
  refine W8.of N7 fun h r=>Tr.eq (V2 ..) ?_;refine Je ?_
  refine Yt (by simp;omega) ?_
  (refine Ja ?_;unhygienic intros;repeat(refine Gw ?_;rintro px rfl;refine Ja ?_;unhygienic intros))
  refine Tr.xIntS (v:=x) (by simp [hp]) ?_
  (refine Ja ?_;unhygienic intros)
  refine Tr.pcall (hf x) ?_
  cases hx:f x with
  | true =>
   (refine Ja ?_;unhygienic intros)
   refine Ys fun o=>?_
   rw [hd,Bw2,if_pos hx];exact ⟨by first|rfl|trivial,by first|rfl|trivial⟩
  | false =>
   (refine Ja ?_;unhygienic intros)
   rw [e1]
   refine Ab1 (ih (i+1) (by omega) (by omega)) (r:=r) (by simp) fun o=>?_
   rw [hd,Bw2,if_neg (by simp [hx])];exact ⟨by first|rfl|trivial,by first|rfl|trivial⟩
theorem Gh4 (p:HP) (a:Option Addr) (ro:Bool) (c:Nat) (l:List Int) (g:FuncId) (f:Int→Bool) {e:TypeId} [ks:IsSl p a ro e 1 l.length c (l.map int)] (hl:l.length≤B1) (hf:∀ x,CtP A9 g [int x] [] (.bool (f x))) :
  CtP A9 G2 [.slice a l.length c,.func (.func g) ⟨[]⟩ ⟨[]⟩] [p] (.bool (l.any f)):=by
 have j:CtP A9 E2 [.slice a l.length c,.func (.func g) ⟨[]⟩ ⟨[]⟩] [p] (int (Bw2 f 0 l)):=by
  refine CtP.of N7 rfl fun h r=>Tr.eq (A89 ..) ?_;refine Je ?_
  exact Ab1 (Ge1 p a ro c l g f hl hf _ 0 rfl (by omega)) (r:=r) (by simp) fun o=>⟨rfl,rfl⟩
 refine CtP.of Ax9 rfl fun h r=>Tr.eq (Ay0 ..) ?_;refine Je ?_
 refine B14 j (r:=r) (by simp) ?_
 (refine Ja ?_;unhygienic intros)
 refine Ys fun o=>?_
 rw [Ew4];exact ⟨by first|rfl|trivial,by first|rfl|trivial⟩
theorem Hn9:∀ (l m:List Int),l.length=m.length→eqs (l.map int) (m.map int)=some (decide (l=m))
 | [],[],_=>rfl
 | [],_::_,h=>by simp at h
 | _::_,[],h=>by simp at h
 | a::l,b::m,h=>by
  have ih:=Hn9 l m (by simpa using h)
  simp only [List.map_cons,eqs,eq1,decide_true,ih]
  by_cases h1:a=b<;>by_cases h2:l=m<;>simp [h1,h2]
theorem Gi9:∀ (l:List Int),I6 (List.replicate l.length (TypeDesc.int .i64)) (l.map int)=true
 | []=>rfl
 | a::l=>by
  have:=Gi9 l
  simp only [List.length_cons,List.replicate_succ,List.map_cons,I6,decide_true,this,Bool.and_self]
theorem eq8 {α:Type} (l m:List Int) (hl:l.length=8) (hm:m.length=8) (k:Bool→Option α):Df0 PR Gu3 (l.map int) (m.map int) k=k (decide (l=m)):=by
 have e:Al6 PR 8 Gu3=some (List.replicate 8 (TypeDesc.int .i64)):=by kernel_rfl
 have f1:=Gi9 l;have f2:=Gi9 m
 rw [hl] at f1;rw [hm] at f2
 rw [Df0,e]
 simp only [f1,f2,Hn9 l m (by omega),Bool.and_self,ckB,cond_true,eqK]
theorem I55 (p:ProcS):Ct A9 Dr8 [.agg ⟨E0 p⟩] [] fun v own=>v=.bool (okS p)∧own []:=by
 have h8:=p.len
 refine Ct.of H04 rfl fun h r=>Tr.eq (Ia3 ..) ?_;refine Je ?_
 (refine Ja ?_;unhygienic intros)
 refine Tr.cond (fun h1=>?_) fun h1=>?_
 ·refine Ys fun o=>?_
  refine ⟨?_,o.sub⟩
  unfold okS;rw [h1];rfl
 (refine Ja ?_;unhygienic intros)
 refine Tr.cond (fun h2=>?_) fun h2=>?_
 ·refine Ys fun o=>?_
  refine ⟨?_,o.sub⟩
  unfold okS;rw [h1,h2];rfl
 (refine Ja ?_;unhygienic intros)
 refine Gv2 0 rfl [int p.state,int p.parent,int p.group,int p.code,int p.pending,int p.mask,int p.ignored,int p.caught] (p.fds.map int) [] (by simp [E0]) 1 8 8 8 ⟨by simp [h8],by omega,by simp,by simp [E0],by omega,by omega⟩ ?_
 refine Je ?_
 have J:=Gh4 (e:=D2) (slX false D2 1 (some ⟨b,8,none⟩) p.fds.length 8 ([int p.state,int p.parent,int p.group,int p.code,int p.pending,int p.mask,int p.ignored,int p.caught],[]) (p.fds.map int)) (some ⟨b,8,none⟩) false 8 p.fds Bk4 (fun f=>decide (f<0) || decide (f>12)) (by rw [h8];simp [B1]) Ix6
 rw [h8] at J
 refine Tr.pcall (J) ?_;refine Je ?_;(refine Ja ?_;unhygienic intros)
 refine Ey6 0 rfl (E0 p) (by simp [E0]) ?_
 refine Je ?_
 cases h3:p.fds.any fun f=>decide (f<0) || decide (f>12) with
 | true =>
  (refine Ja ?_;unhygienic intros)
  refine Ys fun o=>?_
  refine ⟨?_,o.sub⟩
  unfold okS;rw [h1,h2,h3];rfl
 | false =>
  (refine Ja ?_;unhygienic intros)
  have e:okS p=if p.state=2 then p.pending==0 && decide (p.fds=G96) else p.code==0:=by unfold okS;rw [h1,h2,h3];rfl
  rw [e]
  by_cases h4:p.state=2
  ·refine Yt (by simpa using h4) ?_
   rw [if_pos h4]
   (repeat' first|refine Gu ?_|(with_reducible first|refine Gn fun b h=>?_|apply Gx|apply Gy|rintro px rfl|apply Gw|refine fun(h:H)=>?_|intro hb)|refine Gs ?_|refine Gt ?_|exact Gz rfl|fail)
   rw [show ([int 0,int 0,int 0,int 0,int 0,int 0,int 0,int 0]:List Value)=G96.map int from rfl,eq8 _ _ h8 rfl]
   (repeat' first|refine Gu ?_|(with_reducible first|refine Gn fun b h=>?_|apply Gx|apply Gy|rintro px rfl|apply Gw|refine fun(h:H)=>?_|intro hb)|refine Gs ?_|refine Gt ?_|exact Gz rfl|fail)
   refine Ys fun o=>?_
   exact ⟨rfl,o.sub⟩
  ·refine Yf (by simpa using h4) ?_
   rw [if_neg h4]
   (refine Ja ?_;unhygienic intros)
   refine Ys fun o=>?_
   exact ⟨rfl,o.sub⟩
theorem Iy0 (a:Option Addr) (c:Nat) (cs:List Value) (j:Nat) (n:Int) (hj:j+2≤cs.length) (hm:cs.length≤B1):Ct A9 Bm0 [.slice a cs.length c,int j,int n] [slC false A7 1 a cs.length c cs] fun v own =>
  (∃ ok,v=.bool ok)∧own [slC false A7 1 a cs.length c (if 0≤n∧n≤65535 then (cs.set j (.int .u8 ((b8 (n / 256)).toNat:Int))).set (j+1) (.int .u8 ((b8 n).toNat:Int)) else cs)]:=by
 simp only [B1] at hm
 have e1:IntKind.wrap .i64 ((cs.length:Int)-2)=(cs.length:Int)-2:=by rw [B6];omega
 have e2:=wN j
 refine Ct.of Hb7 rfl fun h r=>Tr.eq (Hd5 ..) ?_;refine Je ?_
 rw [e1,e2]
 (refine Ja ?_;unhygienic intros)
 by_cases h:0≤n∧n≤65535
 ·refine Yf (by simp;omega) ?_
  rw [if_pos h]
  (refine Ja ?_;unhygienic intros;repeat(refine Gw ?_;rintro px rfl;refine Ja ?_;unhygienic intros))
  rw [Int.toNat_natCast,show Int.fdiv n (2 ^ 8)=n / 256 by rw [Int.fdiv_eq_ediv_of_nonneg _ (by omega)];rfl,Bm9,Bm9]
  refine Je ?_
  refine Tr.xVS (cs':=cs.set j (.int .u8 ((b8 (n / 256)).toNat:Int))) ⟨by omega,rfl,rfl⟩ fun h=>?_
  (refine Ja ?_;unhygienic intros)
  rw [Int.toNat_natCast]
  refine Je ?_
  refine Tr.xVS (cs':=(cs.set j (.int .u8 ((b8 (n / 256)).toNat:Int))).set (j+1) (.int .u8 ((b8 n).toNat:Int))) ⟨by simp;omega,rfl,rfl⟩ fun h=>?_
  refine Ys fun o=>?_
  exact ⟨⟨_,rfl⟩,o.sub⟩
 ·refine Yt (by simp;omega) ?_
  rw [if_neg h]
  refine Ys fun o=>?_
  exact ⟨⟨_,rfl⟩,o.sub⟩
theorem Ed0 (l:List UInt8) (j:Nat) (x:UInt8):(A0 l).set j (.int .u8 (x.toNat:Int))=A0 (l.set j x):=by simp [A0,List.map_set]
theorem Eh6 (a:Option Addr) (c m:Nat) (l:List UInt8) (j:Nat) (n:Int) (hm:l.length=m) (hj:j+2≤m) (h1:l[j]?=some 0) (h2:l[j+1]?=some 0) (hl:m≤B1):Ct A9 Bm0 [.slice a m c,int j,int n] [slC false A7 1 a m c (A0 l)] fun v own =>
  (∃ ok,v=.bool ok)∧own [slC false A7 1 a m c (A0 ((l.set j (hi2 n)).set (j+1) (lo2 n)))]:=by
 subst hm
 have J:=Iy0 a c (A0 l) j n (by rw [W3];omega) (by rw [W3];omega)
 rw [W3] at J
 have e:(if 0≤n∧n≤65535 then ((A0 l).set j (.int .u8 ((b8 (n / 256)).toNat:Int))).set (j+1) (.int .u8 ((b8 n).toNat:Int)) else A0 l)=A0 ((l.set j (hi2 n)).set (j+1) (lo2 n)):=by
  unfold hi2 lo2
  split
  ·rw [Ed0,Ed0]
  ·rw [Ez0 h1,Ez0 h2]
 rw [e] at J
 exact J
def two (l:List UInt8) (j:Nat):Int:=byI l j*256+byI l (j+1)
theorem I34 (x y:UInt8):H90 .i64 (IntKind.wrap .i64 (IntKind.wrap .i64 (x.toNat:Int)*2 ^ 8)) (IntKind.wrap .i64 (y.toNat:Int))=(x.toNat:Int)*256+y.toNat:=by
 have hx:=x.toNat_lt;have hy:=y.toNat_lt
 have e1:IntKind.wrap .i64 (IntKind.wrap .i64 (x.toNat:Int)*2 ^ 8)=((x.toNat*256:Nat):Int):=by rw [Ap7,B6];omega
 rw [e1,Ap7]
 unfold H90
 have e0:IntKind.bits .i64=64:=rfl
 rw [e0,BitVec.ofInt_natCast,BitVec.ofInt_natCast,BitVec.toNat_or,BitVec.toNat_ofNat,BitVec.toNat_ofNat,Nat.mod_eq_of_lt (by omega),Nat.mod_eq_of_lt (by omega)]
 have e2:x.toNat*256 ||| y.toNat=x.toNat*256+y.toNat:=by
  have:=Nat.two_pow_add_eq_or_of_lt (i:=8) (b:=y.toNat) (by omega) x.toNat
  rw [show 2 ^ 8*x.toNat=x.toNat*256 by omega] at this
  exact this.symm
 rw [e2,B6];omega
theorem E61 (a:Option Addr) (c n:Nat) (l:List UInt8) (j:Nat) (hn:l.length=n) (hj:j+2≤n) (hm:n≤B1):CtP A9 B72 [.slice a n c,int j] [slC false A7 1 a n c (A0 l)] (.tuple ⟨[int (two l j),.bool true]⟩):=by
 simp only [B1] at hm
 have e1:IntKind.wrap .i64 ((n:Int)-2)=(n:Int)-2:=by rw [B6];omega
 have e2:=wN j
 refine CtP.of Hm9 rfl fun h r=>Tr.eq (Hf9 ..) ?_;refine Je ?_
 rw [e1,e2]
 (refine Ja ?_;unhygienic intros)
 refine Yf (by simp;omega) ?_
 (refine Ja ?_;unhygienic intros;repeat(refine Gw ?_;rintro px rfl;refine Ja ?_;unhygienic intros))
 rw [Int.toNat_natCast]
 refine Je ?_
 refine Tr.xIntS (v:=byI l j) (Af8 (by omega)) ?_
 (refine Ja ?_;unhygienic intros)
 rw [Int.toNat_natCast]
 refine Je ?_
 refine Tr.xIntS (v:=byI l (j+1)) (Af8 (by omega)) ?_
 refine Ys fun o=>?_
 rw [I34];exact ⟨rfl,rfl⟩
theorem I06 (a:Option Addr) (c:Nat) (p:ProcS):Ct A9 P9 [.agg ⟨E0 p⟩,.slice a 24 c] [slC false A7 1 a 24 c (A0 (List.replicate 24 0))] fun v own=>v=.bool (okS p)∧own [slC false A7 1 a 24 c (A0 (if okS p then Ay4 p else List.replicate 24 0))]:=by
 refine Ct.of I9 rfl fun h r=>Tr.eq (Hw8 ..) ?_;refine Je ?_
 refine Yn fun b1 h=>?_
 (refine Ja ?_;intros)
 refine Yc (I55 p) ?_;rintro _ h ⟨rfl,o⟩<;>(refine Jf o ?_;intros)
 cases hk:okS p with
 | false =>
  (refine Ja ?_;intros)
  refine Ys fun o=>?_
  rw [if_neg (by simp)]
  exact ⟨rfl,o.sub⟩
 | true =>
  simp only [if_true]
  obtain ⟨st,pa,gr,co,pe,ma,ig,ca,fds,len⟩:=p
  match fds,len with
  | [f0,f1,f2,f3,f4,f5,f6,f7],len =>
  (refine Ja ?_;intros)
  rename_i b2 h2
  refine V7 2 rfl fun hl hc _=>?_
  simp only [List.map]
  refine Tr.jmp I9 (Tr.eq (A85 ..) ?_);(try simp only[Nr,Nl,wl,Nat.reduceAdd,Nat.reduceMul,Int.reduceToNat])
  (refine Jd ?_;intros;repeat(refine Gw ?_;rintro px rfl;refine Jd ?_;intros))
  refine Tr.jmp I9 (Tr.eq (A85 ..) ?_);(try simp only[Nr,Nl,wl,Nat.reduceAdd,Nat.reduceMul,Int.reduceToNat])
  (refine Jd ?_;intros)
  refine Tr.jmp I9 (Tr.eq (A85 ..) ?_);(try simp only[Nr,Nl,wl,Nat.reduceAdd,Nat.reduceMul,Int.reduceToNat])
  (refine Jd ?_;intros)
  refine Tr.jmp I9 (Tr.eq (A85 ..) ?_);(try simp only[Nr,Nl,wl,Nat.reduceAdd,Nat.reduceMul,Int.reduceToNat])
  (refine Jd ?_;intros)
  refine Tr.jmp I9 (Tr.eq (A85 ..) ?_);(try simp only[Nr,Nl,wl,Nat.reduceAdd,Nat.reduceMul,Int.reduceToNat])
  (refine Jd ?_;intros)
  simp only [Bm9,Ed0,List.replicate,List.set_cons_zero,List.set_cons_succ,Nat.mul_one]
  refine Tr.jmp I9 (Tr.eq (A98 ..) ?_);(try simp only[Nr,Nl,wl,Nat.reduceAdd,Nat.reduceMul,Int.reduceToNat])
  (refine Jd ?_;intros)
  refine Yc (Eh6 (some px) c 24 [b8 st,b8 pa,b8 gr,b8 co,0,0,0,0,0,0,0,0,0,0,0,0,0,0,0,0,0,0,0,0] 4 pe rfl (by omega) rfl rfl (by simp [B1])) ?_;rintro _ h ⟨⟨_,rfl⟩,o⟩<;>(refine Jf o ?_;intros)
  refine Tr.jmp I9 (Tr.eq (A98 ..) ?_);(try simp only[Nr,Nl,wl,Nat.reduceAdd,Nat.reduceMul,Int.reduceToNat])
  (refine Jd ?_;intros)
  refine Yc (Eh6 (some px) c 24 [b8 st,b8 pa,b8 gr,b8 co,hi2 pe,lo2 pe,0,0,0,0,0,0,0,0,0,0,0,0,0,0,0,0,0,0] 6 ma rfl (by omega) rfl rfl (by simp [B1])) ?_;rintro _ h ⟨⟨_,rfl⟩,o⟩<;>(refine Jf o ?_;intros)
  refine Tr.jmp I9 (Tr.eq (A98 ..) ?_);(try simp only[Nr,Nl,wl,Nat.reduceAdd,Nat.reduceMul,Int.reduceToNat])
  (refine Jd ?_;intros)
  refine Yc (Eh6 (some px) c 24 [b8 st,b8 pa,b8 gr,b8 co,hi2 pe,lo2 pe,hi2 ma,lo2 ma,0,0,0,0,0,0,0,0,0,0,0,0,0,0,0,0] 8 ig rfl (by omega) rfl rfl (by simp [B1])) ?_;rintro _ h ⟨⟨_,rfl⟩,o⟩<;>(refine Jf o ?_;intros)
  refine Tr.jmp I9 (Tr.eq (A98 ..) ?_);(try simp only[Nr,Nl,wl,Nat.reduceAdd,Nat.reduceMul,Int.reduceToNat])
  (refine Jd ?_;intros)
  refine Yc (Eh6 (some px) c 24 [b8 st,b8 pa,b8 gr,b8 co,hi2 pe,lo2 pe,hi2 ma,lo2 ma,hi2 ig,lo2 ig,0,0,0,0,0,0,0,0,0,0,0,0,0,0] 10 ca rfl (by omega) rfl rfl (by simp [B1])) ?_;rintro _ h ⟨⟨_,rfl⟩,o⟩<;>(refine Jf o ?_;intros)
  refine Tr.jmp I9 (Tr.eq (A98 ..) ?_);(try simp only[Nr,Nl,wl,Nat.reduceAdd,Nat.reduceMul,Int.reduceToNat])
  (refine Jd ?_;intros)
  refine Tr.jmp I9 (Tr.eq (Aa7 ..) ?_);(try simp only[Nr,Nl,wl,Nat.reduceAdd,Nat.reduceMul,Int.reduceToNat])
  (refine Jd ?_;intros)
  refine Tr.jmp I9 (Tr.eq (Aa7 ..) ?_);(try simp only[Nr,Nl,wl,Nat.reduceAdd,Nat.reduceMul,Int.reduceToNat])
  (refine Jd ?_;intros)
  refine Tr.jmp I9 (Tr.eq (Aa7 ..) ?_);(try simp only[Nr,Nl,wl,Nat.reduceAdd,Nat.reduceMul,Int.reduceToNat])
  (refine Jd ?_;intros)
  refine Tr.jmp I9 (Tr.eq (Aa7 ..) ?_);(try simp only[Nr,Nl,wl,Nat.reduceAdd,Nat.reduceMul,Int.reduceToNat])
  (refine Jd ?_;intros)
  refine Tr.jmp I9 (Tr.eq (Aa7 ..) ?_);(try simp only[Nr,Nl,wl,Nat.reduceAdd,Nat.reduceMul,Int.reduceToNat])
  (refine Jd ?_;intros)
  refine Tr.jmp I9 (Tr.eq (Aa7 ..) ?_);(try simp only[Nr,Nl,wl,Nat.reduceAdd,Nat.reduceMul,Int.reduceToNat])
  (refine Jd ?_;intros)
  refine Tr.jmp I9 (Tr.eq (Aa7 ..) ?_);(try simp only[Nr,Nl,wl,Nat.reduceAdd,Nat.reduceMul,Int.reduceToNat])
  (refine Jd ?_;intros)
  refine Tr.jmp I9 (Tr.eq (Aa7 ..) ?_);(try simp only[Nr,Nl,wl,Nat.reduceAdd,Nat.reduceMul,Int.reduceToNat])
  (refine Jd ?_;intros)
  refine Tr.jmp I9 (Tr.eq (Aa7 ..) ?_);(try simp only[Nr,Nl,wl,Nat.reduceAdd,Nat.reduceMul,Int.reduceToNat])
  (refine Jd ?_;intros)
  simp only [Bm9,Ed0,List.set_cons_zero,List.set_cons_succ,Nat.mul_one]
  rw [show (.int .u8 167:Value)=.int .u8 ((167:UInt8).toNat:Int) from rfl,Ed0]
  simp only [List.set_cons_zero,List.set_cons_succ]
  refine Tr.pcall (Gq3 (slC false A7 1 (some px) 24 c (A0 [b8 st,b8 pa,b8 gr,b8 co,hi2 pe,lo2 pe,hi2 ma,lo2 ma,hi2 ig,lo2 ig,hi2 ca,lo2 ca,b8 f0,b8 f1,b8 f2,b8 f3,b8 f4,b8 f5,b8 f6,b8 f7,167,0,0,0])) (some px) false 24 c c [b8 st,b8 pa,b8 gr,b8 co,hi2 pe,lo2 pe,hi2 ma,lo2 ma,hi2 ig,lo2 ig,hi2 ca,lo2 ca,b8 f0,b8 f1,b8 f2,b8 f3,b8 f4,b8 f5,b8 f6,b8 f7,167,0,0,0] 21 (by simp) (by simp [B1])) ?_
  refine Je ?_
  (refine Ja ?_;intros)
  rw [Dy9]
  (refine Jd ?_;intros)
  refine Ys fun o=>?_
  rw [Ed0] at o
  simp only [List.set_cons_zero,List.set_cons_succ] at o
  simp only [Ay4,El0,put2,List.map,List.cons_append,List.nil_append]
  exact ⟨trivial,o.sub⟩
abbrev Gj6 (k:Nat):HP:=pt k (.cells Bu2 false [int 24,.func (.func P9) ⟨[]⟩ ⟨[]⟩,.func (.func Z8) ⟨[]⟩ ⟨[]⟩])
theorem Hu7 (k:Nat) (f:ProcS):Ct A9 Y6 [P0 k,.agg ⟨E0 f⟩] [Gj6 k] fun v own=>(okS f=true∧∃ a,v=.tuple ⟨[.slice a 24 24,.bool true]⟩∧own [Gj6 k,slC false A7 1 a 24 24 (A0 (Ay4 f))])∨(okS f=false∧v=.tuple ⟨[.slice none 0 0,.bool false]⟩∧own [Gj6 k]):=by
 refine Ct.of B98 rfl fun h r=>Tr.eq (B92 ..) ?_;refine Je ?_
 (refine Ja ?_;intros)
 refine Tr.ck ⟨by omega,by omega,by simp [B1]⟩ ?_
 refine Yn fun b1 h=>?_
 rw [show L5 (Int.toNat 24) [.int .u8 0]=A0 (List.replicate 24 0) from rfl]
 refine Av2 0 rfl 1 24 rfl (by omega) ?_
 simp only [List.set_cons_zero]
 refine Je ?_
 (refine Jb ?_;intros)
 refine Yb (Yf rfl ?_)
 (refine Jb ?_;intros)
 refine Yc (I06 (some ⟨b1,0,none⟩) 24 f) ?_;rintro _ h ⟨rfl,o⟩<;>(refine Jg o ?_;intros)
 refine Ys fun o=>(?_:Tr _ _ _ _) o;refine Je ?_
 cases hk:okS f with
 | false =>
  (refine Ja ?_;intros)
  refine Ys fun o=>?_
  exact .inr ⟨rfl,rfl,o.sub⟩
 | true =>
  (refine Ja ?_;intros)
  refine Ys fun o=>?_
  simp only [if_true] at o
  exact .inl ⟨rfl,_,rfl,o.sub⟩
theorem I29:Ct A9 As4 [int 24,.func (.func P9) ⟨[]⟩ ⟨[]⟩,.func (.func Z8) ⟨[]⟩ ⟨[]⟩] [] fun v own=>∃ k,v=P0 k∧own [Gj6 k]:=by
 refine Ct.of Em0 rfl fun h r=>Tr.eq (Ei3 ..) ?_;refine Je ?_
 rw [show mm2 false (mm2 true 24 0) 64=24 from rfl]
 (refine Ja ?_;intros)
 refine Ys fun o=>?_
 exact ⟨_,rfl,o.sub⟩
theorem Gz6:Ct A9 Bf4 [] [] fun v own=>∃ k,v=P0 k∧own [Gj6 k]:=by
 refine Ct.of G76 rfl fun h r=>Tr.eq (G66 ..) ?_;refine Je ?_
 refine Yc (I29) ?_;rintro _ h ⟨k,rfl,o⟩<;>(refine Jf o ?_;intros)
 refine Ys fun o=>?_
 exact ⟨_,rfl,o.sub⟩
theorem Gp3 (f:ProcS):Ct A9 A80 [.agg ⟨E0 f⟩] [] fun v own=>(okS f=true∧∃ a,v=.tuple ⟨[.slice a 24 24,.bool true]⟩∧own [slC false A7 1 a 24 24 (A0 (Ay4 f))])∨(okS f=false∧v=.tuple ⟨[.slice none 0 0,.bool false]⟩∧own []):=by
 refine Ct.of Gw8 rfl fun h r=>Tr.eq (Gw1 ..) ?_;refine Je ?_
 (refine Ja ?_;intros)
 refine Yc (Gz6) ?_;rintro _ h ⟨k,rfl,o⟩<;>(refine Jg o ?_;intros)
 refine Yc (Hu7 k f) ?_
 rintro v h (⟨hk,a,rfl,o⟩|⟨hk,rfl,o⟩)
 ·refine (?_:Tr _ _ _ _) o
  refine Je ?_
  (refine Ja ?_;intros)
  refine Ys fun o=>?_
  exact .inl ⟨hk,a,rfl,o.sub⟩
 ·refine (?_:Tr _ _ _ _) o
  refine Je ?_
  (refine Ja ?_;intros)
  refine Ys fun o=>?_
  exact .inr ⟨hk,rfl,o.sub⟩
def Bh6 (l:List UInt8):ProcS:=⟨byI l 0,byI l 1,byI l 2,byI l 3,two l 4,two l 6,two l 8,two l 10,[byI l 12,byI l 13,byI l 14,byI l 15,byI l 16,byI l 17,byI l 18,byI l 19],rfl⟩
def isS (l:List UInt8):Bool:=okS (Bh6 l) && decide (Ay4 (Bh6 l)=l)
theorem I04 (a:Option Addr) (c:Nat) (l:List UInt8) (hl:l.length=24):Ct A9 Z8 [.slice a 24 c] [slC false A7 1 a 24 c (A0 l)] fun v own=>v=.tuple ⟨[.agg ⟨E0 (Bh6 l)⟩,.bool (isS l)]⟩∧own [slC false A7 1 a 24 c (A0 l)]:=by
 have key:∀ a1:Option Addr,CtP A9 D5 [.slice a1 24 24,.slice a 24 c] [slC false A7 1 a1 24 24 (A0 (Ay4 (Bh6 l))),slC false A7 1 a 24 c (A0 l)] (.bool (decide (Ay4 (Bh6 l)=l))):=fun a1=>by
  have e:=Ej0 (Bh6 l)
  have J:=Ey9 (slC false A7 1 a1 (Ay4 (Bh6 l)).length 24 (A0 (Ay4 (Bh6 l)))) (slC false A7 1 a l.length c (A0 l)) a1 false 24 a false c (Ay4 (Bh6 l)) l (by rw [e];simp [B1])
  rwa [hl,e] at J
 refine Ct.of Q0 rfl fun h r=>Tr.eq (Ht0 ..) ?_;refine Je ?_
 refine Yn fun b1 h=>?_
 refine V7 1 rfl fun hl2 hc2 _=>?_
 (refine Ja ?_;intros;repeat(refine Gw ?_;rintro px rfl;refine Ja ?_;intros))
 refine Tr.xIntS (v:=byI l 0) (Af8 (by omega)) ?_
 (refine Ja ?_;intros)
 refine Tr.xIntS (v:=byI l 1) (Af8 (by omega)) ?_
 (refine Ja ?_;intros)
 refine Tr.xIntS (v:=byI l 2) (Af8 (by omega)) ?_
 (refine Ja ?_;intros)
 refine Tr.xIntS (v:=byI l 3) (Af8 (by omega)) ?_
 (refine Ja ?_;intros)
 simp only [byI,Ap7]
 refine Tr.jmp Q0 (Tr.eq (A67 ..) ?_);(try simp only[Nr,Nl,wl,Nat.reduceAdd,Nat.reduceMul,Int.reduceToNat])
 (refine Jd ?_;intros)
 refine Tr.pcall (E61 (some px) c 24 l 4 hl (by omega) (by simp [B1])) ?_;refine Je ?_;(refine Ja ?_;intros)
 refine Tr.jmp Q0 (Tr.eq (A67 ..) ?_);(try simp only[Nr,Nl,wl,Nat.reduceAdd,Nat.reduceMul,Int.reduceToNat])
 (refine Jd ?_;intros)
 refine Tr.pcall (E61 (some px) c 24 l 6 hl (by omega) (by simp [B1])) ?_;refine Je ?_;(refine Ja ?_;intros)
 refine Tr.jmp Q0 (Tr.eq (A67 ..) ?_);(try simp only[Nr,Nl,wl,Nat.reduceAdd,Nat.reduceMul,Int.reduceToNat])
 (refine Jd ?_;intros)
 refine Tr.pcall (E61 (some px) c 24 l 8 hl (by omega) (by simp [B1])) ?_;refine Je ?_;(refine Ja ?_;intros)
 refine Tr.jmp Q0 (Tr.eq (A67 ..) ?_);(try simp only[Nr,Nl,wl,Nat.reduceAdd,Nat.reduceMul,Int.reduceToNat])
 (refine Jd ?_;intros)
 refine Tr.pcall (E61 (some px) c 24 l 10 hl (by omega) (by simp [B1])) ?_;refine Je ?_;(refine Ja ?_;intros)
 refine Tr.jmp Q0 (Tr.eq (A67 ..) ?_);(try simp only[Nr,Nl,wl,Nat.reduceAdd,Nat.reduceMul,Int.reduceToNat])
 (refine Jd ?_;intros)
 refine Tr.jmp Q0 (Tr.eq (Aa3 ..) ?_);(try simp only[Nr,Nl,wl,Nat.reduceAdd,Nat.reduceMul,Int.reduceToNat])
 (refine Jd ?_;intros)
 refine Tr.xIntS (v:=byI l 12) (Af8 (by omega)) ?_
 (refine Jd ?_;intros)
 simp only [byI,Ap7]
 refine Tr.jmp Q0 (Tr.eq (Aa3 ..) ?_);(try simp only[Nr,Nl,wl,Nat.reduceAdd,Nat.reduceMul,Int.reduceToNat])
 (refine Jd ?_;intros)
 refine Tr.xIntS (v:=byI l 13) (Af8 (by omega)) ?_
 (refine Jd ?_;intros)
 simp only [byI,Ap7]
 refine Tr.jmp Q0 (Tr.eq (Aa3 ..) ?_);(try simp only[Nr,Nl,wl,Nat.reduceAdd,Nat.reduceMul,Int.reduceToNat])
 (refine Jd ?_;intros)
 refine Tr.xIntS (v:=byI l 14) (Af8 (by omega)) ?_
 (refine Jd ?_;intros)
 simp only [byI,Ap7]
 refine Tr.jmp Q0 (Tr.eq (Aa3 ..) ?_);(try simp only[Nr,Nl,wl,Nat.reduceAdd,Nat.reduceMul,Int.reduceToNat])
 (refine Jd ?_;intros)
 refine Tr.xIntS (v:=byI l 15) (Af8 (by omega)) ?_
 (refine Jd ?_;intros)
 simp only [byI,Ap7]
 refine Tr.jmp Q0 (Tr.eq (Aa3 ..) ?_);(try simp only[Nr,Nl,wl,Nat.reduceAdd,Nat.reduceMul,Int.reduceToNat])
 (refine Jd ?_;intros)
 refine Tr.xIntS (v:=byI l 16) (Af8 (by omega)) ?_
 (refine Jd ?_;intros)
 simp only [byI,Ap7]
 refine Tr.jmp Q0 (Tr.eq (Aa3 ..) ?_);(try simp only[Nr,Nl,wl,Nat.reduceAdd,Nat.reduceMul,Int.reduceToNat])
 (refine Jd ?_;intros)
 refine Tr.xIntS (v:=byI l 17) (Af8 (by omega)) ?_
 (refine Jd ?_;intros)
 simp only [byI,Ap7]
 refine Tr.jmp Q0 (Tr.eq (Aa3 ..) ?_);(try simp only[Nr,Nl,wl,Nat.reduceAdd,Nat.reduceMul,Int.reduceToNat])
 (refine Jd ?_;intros)
 refine Tr.xIntS (v:=byI l 18) (Af8 (by omega)) ?_
 (refine Jd ?_;intros)
 simp only [byI,Ap7]
 refine Tr.jmp Q0 (Tr.eq (Aa3 ..) ?_);(try simp only[Nr,Nl,wl,Nat.reduceAdd,Nat.reduceMul,Int.reduceToNat])
 (refine Jd ?_;intros)
 refine Tr.xIntS (v:=byI l 19) (Af8 (by omega)) ?_
 (refine Jd ?_;intros)
 simp only [byI,Ap7]
 refine Tr.jmp Q0 (Tr.eq (Aa3 ..) ?_);(try simp only[Nr,Nl,wl,Nat.reduceAdd,Nat.reduceMul,Int.reduceToNat])
 refine Yf rfl ?_
 refine Tr.xAgg (xs:=E0 (Bh6 l)) ⟨Nat.le_of_ble_eq_true rfl,rfl⟩ ?_
 refine Yc (Gp3 (Bh6 l)) ?_
 rintro v h (⟨hk,a1,rfl,o⟩|⟨hk,rfl,o⟩)
 ·refine (?_:Tr _ _ _ _) o
  refine Je ?_
  refine Tr.dx ?_
  refine Tr.dx ?_
  refine Tr.dx ?_
  refine Tr.xAgg (xs:=E0 (Bh6 l)) ⟨Nat.le_of_ble_eq_true rfl,rfl⟩ ?_
  refine Yb (Yt rfl ?_)
  refine Tr.pcall (key a1) ?_
  refine Tr.dx ?_
  refine Tr.xAgg (xs:=E0 (Bh6 l)) ⟨Nat.le_of_ble_eq_true rfl,rfl⟩ ?_
  (refine Ja ?_;intros)
  refine Ys fun o=>(?_:Tr _ _ _ _) o;refine Je ?_
  (refine Ja ?_;intros)
  refine Ys fun o=>?_
  exact ⟨by unfold isS;rw [hk,Bool.true_and],o.sub⟩
 ·refine (?_:Tr _ _ _ _) o
  refine Je ?_
  refine Tr.dx ?_
  refine Tr.dx ?_
  refine Tr.dx ?_
  refine Tr.xAgg (xs:=E0 (Bh6 l)) ⟨Nat.le_of_ble_eq_true rfl,rfl⟩ ?_
  (refine Ja ?_;intros)
  refine Ys fun o=>?_
  exact ⟨by unfold isS;rw [hk];rfl,o.sub⟩
theorem Hi3 (k:Nat) (pb:HP) (ro:Bool) (a:Option Addr) (c:Nat) (l:List UInt8) (hl:l.length=24) [ks:IsSl pb a ro A7 1 24 c (A0 l)]:Ct A9 Y7 [P0 k,.slice a 24 c] [Gj6 k,pb] fun v own=>v=.tuple ⟨[.agg ⟨E0 (if isS l then Bh6 l else .zero)⟩,.bool (isS l)]⟩∧own [Gj6 k,pb]:=by
 refine Ct.of B93 rfl fun h r=>Tr.eq (B99 ..) ?_;refine Je ?_
 (refine Ja ?_;intros)
 refine Yf rfl ?_
 (refine Jb ?_;intros)
 refine Yc (Eh2 24 pb ro a c l hl (by simp [B1])) ?_;rintro _ h ⟨a1,c1,rfl,o⟩<;>(refine Jg o ?_;intros)
 refine Yc (I04 a1 c1 l hl) ?_;rintro _ h ⟨rfl,o⟩<;>(refine Jg o ?_;intros)
 cases hk:isS l with
 | false =>
  (refine Ja ?_;intros)
  refine Ys fun o=>?_
  exact ⟨rfl,o.sub⟩
 | true =>
  (refine Ja ?_;intros)
  refine Ys fun o=>?_
  exact ⟨rfl,o.sub⟩
def Aa4 (l:List UInt8):ProcS × Int:=if l.all (·==0) then (.zero,0) else if isS l then (Bh6 l,1) else (.zero,2)
theorem Hx0 (pb:HP) (ro:Bool) (a:Option Addr) (c:Nat) (l:List UInt8) (hl:l.length=24) [ks:IsSl pb a ro A7 1 24 c (A0 l)]:Ct A9 Av0 [.slice a 24 c] [pb] fun v own=>v=.tuple ⟨[.agg ⟨E0 (Aa4 l).1⟩,int (Aa4 l).2]⟩∧own [pb]:=by
 refine Ct.of Gv3 rfl fun h r=>Tr.eq (Gx9 ..) ?_;refine Je ?_
 refine Yn fun b1 h=>?_
 refine Yb (Yt rfl ?_)
 refine Tr.pcall (Ek7 24 pb ro a c l hl (by simp [B1])) ?_;refine Je ?_;(refine Jb ?_;intros)
 refine Ys fun o=>(?_:Tr _ _ _ _) o;refine Je ?_
 cases hb:l.all (·==0) with
 | true =>
  (refine Ja ?_;intros)
  refine Ys fun o=>?_
  exact ⟨by unfold Aa4;rw [hb];rfl,o.sub⟩
 | false =>
  (refine Jb ?_;intros)
  refine Yc (Gz6) ?_;rintro _ h ⟨k,rfl,o⟩<;>(refine Jg o ?_;intros)
  refine Yc (Hi3 k pb ro a c l hl) ?_;rintro _ h ⟨rfl,o⟩<;>(refine Jg o ?_;intros)
  cases hk:isS l with
  | false =>
   (refine Ja ?_;intros)
   refine Ys fun o=>?_
   exact ⟨by unfold Aa4;rw [hb,hk];rfl,o.sub⟩
  | true =>
   (refine Ja ?_;intros)
   refine Ys fun o=>?_
   exact ⟨by unfold Aa4;rw [hb,hk];rfl,o.sub⟩
theorem H48 (a:Option Addr) (c:Nat) (l:List UInt8) (hl:l.length=24):Ct A9 Av0 [.slice a 24 c] [slC false A7 1 a 24 c (A0 l)] fun v own=>v=.tuple ⟨[.agg ⟨E0 (Aa4 l).1⟩,int (Aa4 l).2]⟩∧own [slC false A7 1 a 24 c (A0 l)]:=Hx0 (slC false A7 1 a 24 c (A0 l)) false a c l hl
def N6 (l:List UInt8) (a:Nat) (b:List UInt8):List UInt8:=l.take a++b++l.drop (a+b.length)
theorem Ah8 {l b:List UInt8} {a:Nat} (h:a+b.length≤l.length):(N6 l a b).length=l.length:=by simp [N6];omega
theorem Bn8 {l b:List UInt8} {a:Nat} (h:a+b.length≤l.length) (i:Nat):(N6 l a b)[i]?=if a≤i∧i<a+b.length then b[i-a]? else l[i]?:=by
 unfold N6
 by_cases h1:i<a
 ·rw [if_neg (by omega),List.append_assoc,List.getElem?_append_left (by simp;omega),List.getElem?_take,if_pos h1]
 ·rw [List.append_assoc,List.getElem?_append_right (by simp;omega),List.length_take,Nat.min_eq_left (by omega)]
  by_cases h2:i<a+b.length
  ·rw [if_pos ⟨by omega,h2⟩,List.getElem?_append_left (by omega)]
  ·rw [if_neg (by omega),List.getElem?_append_right (by omega),List.getElem?_drop];congr 1;omega
def slice (l:List UInt8) (a n:Nat):List UInt8:=(l.drop a).take n
theorem B15 (l:List UInt8) (a n i:Nat):(slice l a n)[i]?=if i<n then l[a+i]? else none:=by
 unfold slice;rw [List.getElem?_take];split
 ·rw [List.getElem?_drop]
 ·rfl
theorem G21 {l:List UInt8} {a n:Nat} (h:a+n≤l.length):(slice l a n).length=n:=by simp [slice];omega
abbrev Rg:=List (Nat × Nat)
def U3:List UInt8→Rg→List (List UInt8)→List UInt8
 | l,(lo,_)::rg,x::m=>U3 (N6 l lo x) rg m
 | l,_,_=>l
structure Fit (size:Nat) (rg:Rg) (m:List (List UInt8)):Prop where
 len:m.length=rg.length
 each:∀ (j lo n:Nat),rg[j]?=some (lo,n)→lo+n≤size∧∃ x,m[j]?=some x∧x.length=n
def RgOk (rg:Rg):Prop:=∀ (i j lo n lo' n':Nat),i≠j→rg[i]?=some (lo,n)→rg[j]?=some (lo',n')→lo+n≤lo'∨lo'+n'≤lo
theorem Fit.tail {size:Nat} {p:Nat × Nat} {rg:Rg} {x:List UInt8} {m:List (List UInt8)} (f:Fit size (p::rg) (x::m)):Fit size rg m:=⟨by simpa using f.len,fun j lo n h=>by simpa using f.each (j+1) lo n (by simpa using h)⟩
theorem Fit.head {size lo n:Nat} {rg:Rg} {x:List UInt8} {m:List (List UInt8)} (f:Fit size ((lo,n)::rg) (x::m)):lo+n≤size∧x.length=n:=by
 obtain ⟨h,y,hy,hl⟩:=f.each 0 lo n rfl
 simp at hy;subst hy;exact ⟨h,hl⟩
theorem RgOk.tail {p:Nat × Nat} {rg:Rg} (k:RgOk (p::rg)):RgOk rg:=fun i j lo n lo' n' hij hi hj=>k (i+1) (j+1) lo n lo' n' (by omega) (by simpa using hi) (by simpa using hj)
theorem Db9:∀ {rg:Rg} {m:List (List UInt8)} {l:List UInt8},Fit l.length rg m→(U3 l rg m).length=l.length
 | [],m,l,f=>by simp [U3]
 | (lo,n)::rg,[],l,f=>by simp [U3]
 | (lo,n)::rg,x::m,l,f=>by
  have h:=f.head
  have e:=Ah8 (l:=l) (b:=x) (a:=lo) (by omega)
  unfold U3
  rw [Db9 (by rw [e];exact f.tail),e]
theorem Dv0:∀ {rg:Rg} {m:List (List UInt8)} {l:List UInt8},Fit l.length rg m→∀ i,(∀ (j lo n:Nat),rg[j]?=some (lo,n)→i<lo∨lo+n≤i)→(U3 l rg m)[i]?=l[i]?
 | [],m,l,f,i,h=>by simp [U3]
 | (lo,n)::rg,[],l,f,i,h=>by simp [U3]
 | (lo,n)::rg,x::m,l,f,i,h=>by
  have h0:=f.head
  have e:=Ah8 (l:=l) (b:=x) (a:=lo) (by omega)
  unfold U3
  rw [Dv0 (by rw [e];exact f.tail) i (fun j lo' n' hj=>h (j+1) lo' n' (by simpa using hj)),Bn8 (by omega),if_neg]
  have:=h 0 lo n rfl;omega
theorem Db3:∀ {rg:Rg} {m:List (List UInt8)} {l:List UInt8},Fit l.length rg m→RgOk rg→∀ (j lo n:Nat) (x:List UInt8),rg[j]?=some (lo,n)→m[j]?=some x→∀ i,i<n→(U3 l rg m)[lo+i]?=x[i]?
 | [],m,l,f,k,j,lo,n,x,h,hx,i,hi=>by simp at h
 | (lo0,n0)::rg,[],l,f,k,j,lo,n,x,h,hx,i,hi=>by simp at hx
 | (lo0,n0)::rg,x0::m,l,f,k,j,lo,n,x,h,hx,i,hi=>by
  have h0:=f.head
  have e:=Ah8 (l:=l) (b:=x0) (a:=lo0) (by omega)
  unfold U3
  cases j with
  | zero =>
   simp at h hx
   obtain ⟨rfl,rfl⟩:=h;subst hx
   rw [Dv0 (by rw [e];exact f.tail) (lo0+i) (fun j lo' n' hj=>by
    have:=k 0 (j+1) lo0 n0 lo' n' (by omega) rfl (by simpa using hj)
    omega),Bn8 (by omega),if_pos (by omega)]
   congr 1;omega
  | succ j=>exact Db3 (by rw [e];exact f.tail) k.tail j lo n x (by simpa using h) (by simpa using hx) i hi
theorem H52 {rg:Rg} {m:List (List UInt8)} {l:List UInt8} (f:Fit l.length rg m) (k:RgOk rg) {j lo n:Nat} {x:List UInt8} (h:rg[j]?=some (lo,n)) (hx:m[j]?=some x) {a c:Nat} (hc:a+c≤n):slice (U3 l rg m) (lo+a) c=slice x a c:=by
 refine List.ext_getElem? fun i=>?_
 rw [B15,B15]
 split
 ·rw [Nat.add_assoc,Db3 f k j lo n x h hx (a+i) (by omega)]
 ·rfl
theorem Fit.set {size:Nat} {rg:Rg} {m:List (List UInt8)} (f:Fit size rg m) {j lo n:Nat} (h:rg[j]?=some (lo,n)) {y:List UInt8} (hy:y.length=n):Fit size rg (m.set j y):=⟨by simpa using f.len,fun i lo' n' hi=>by
 obtain ⟨h1,z,hz,hl⟩:=f.each i lo' n' hi
 refine ⟨h1,?_⟩
 by_cases hij:j=i
 ·subst hij
  rw [h] at hi;cases hi
  exact ⟨y,by simp [(List.getElem?_eq_some_iff.1 hz).1],hy⟩
 ·exact ⟨z,by rw [List.getElem?_set_ne hij];exact hz,hl⟩⟩
theorem Hv7 {rg:Rg} {m:List (List UInt8)} {l:List UInt8} (f:Fit l.length rg m) (k:RgOk rg) {j lo n:Nat} {x:List UInt8} (h:rg[j]?=some (lo,n)) (hx:m[j]?=some x) {a:Nat} {b:List UInt8} (hc:a+b.length≤n):N6 (U3 l rg m) (lo+a) b=U3 l rg (m.set j (N6 x a b)):=by
 obtain ⟨h1,y,hy,hl⟩:=f.each j lo n h
 rw [hx] at hy;cases hy
 have e:=Ah8 (l:=x) (b:=b) (a:=a) (by omega)
 have f2:=f.set h (y:=N6 x a b) (by omega)
 have lp:=Db9 f
 refine List.ext_getElem? fun i=>?_
 rw [Bn8 (by omega)]
 by_cases hi:lo≤i∧i<lo+n
 ·obtain ⟨i',rfl⟩:∃ i',i=lo+i':=⟨i-lo,by omega⟩
  rw [Db3 f2 k j lo n (N6 x a b) h (by simp [(List.getElem?_eq_some_iff.1 hx).1]) i' (by omega),Bn8 (by omega),Db3 f k j lo n x h hx i' (by omega)]
  by_cases h2:a≤i'∧i'<a+b.length
  ·rw [if_pos (by omega),if_pos h2];congr 1;omega
  ·rw [if_neg (by omega),if_neg h2]
 ·rw [if_neg (by omega)]
  by_cases ho:∃ (j' lo' n':Nat),rg[j']?=some (lo',n')∧lo'≤i∧i<lo'+n'
  ·obtain ⟨j',lo',n',hj',h3,h4⟩:=ho
   have hne:j≠j':=fun e=>by subst e;rw [h] at hj';cases hj';omega
   obtain ⟨_,z,hz,_⟩:=f.each j' lo' n' hj'
   obtain ⟨i',rfl⟩:∃ i',i=lo'+i':=⟨i-lo',by omega⟩
   rw [Db3 f k j' lo' n' z hj' hz i' (by omega),Db3 f2 k j' lo' n' z hj' (by rw [List.getElem?_set_ne hne];exact hz) i' (by omega)]
  ·have hall:∀ (j' lo' n':Nat),rg[j']?=some (lo',n')→i<lo'∨lo'+n'≤i:=fun j' lo' n' hj'=>by
    by_cases hh:lo'≤i∧i<lo'+n'
    ·exact absurd ⟨j',lo',n',hj',hh.1,hh.2⟩ ho
    ·omega
   rw [Dv0 f i hall,Dv0 f2 i hall]
structure RecS where
 kind:Int
 index:Int
deriving DecidableEq
abbrev Ac8 (r:RecS):List Value:=[int r.kind,int r.index]
structure Fr where
 S:KS
 N:Nat
 env:Int
 caps:List Int
 rg:Rg
structure FrOk (F:Fr):Prop where
 ok:KOk F.N F.S
 hN:F.N+1<1000000000
 ne:0<F.caps.length
 small:F.caps.length≤40
 len:F.rg.length=F.caps.length
 env:¬ (F.env<0∨F.env≥(F.S.envs.length:Int))
 pl:∀ (j:Nat) (cap:Int) (lo n:Nat),F.caps[j]?=some cap→F.rg[j]?=some (lo,n)→∀ (a m:Nat) (right:Int),right=1∨right=2→a+m≤n→S6 F.S.tabs F.S.regs F.env cap right a m=(((lo+a:Nat):Int),0)
 dj:RgOk F.rg
 own:∃ lo,F.rg[0]?=some (lo,492)
 brs:∀ (j lo n:Nat),0<j→F.rg[j]?=some (lo,n)→n=40
def Fr.at (F:Fr) (m:List (List UInt8)):KS:=I1 F.S (U3 F.S.mem F.rg m)
structure CX where
 m:List (List UInt8)
 bad:List RecS
def Aj2:Nat→List RecS→List MapEntry
 | _,[]=>[]
 | i,r::l=>{ key:=.agg ⟨Ac8 r⟩,val:=int 1,born:=i }::Aj2 (i+1) l
abbrev I74 (c k:Nat) (env:Int) (caps:List Int) (bad:List RecS) (x:Option Addr × Nat × Nat):List HP :=
 [pt c (.cells Dn2 false [P0 k,int env,.slice x.1 caps.length x.2.1,.map (some x.2.2)]),slC false B5 1 x.1 caps.length x.2.1 (caps.map int),pt x.2.2 (.map (Aj2 0 bad) bad.length)]
def W6 (c k:Nat) (env:Int) (caps:List Int) (bad:List RecS):HP:=hex fun x=>sl (I74 c k env caps bad x)
instance {c k:Nat} {env:Int} {caps:List Int} {bad:List RecS}:Chk (W6 c k env caps bad) (I74 c k env caps bad):=⟨rfl⟩
abbrev cmF (c k:Nat) (F:Fr) (x:CX):List HP:=[D4 k (F.at x.m),W6 c k F.env F.caps x.bad,pu (Fit F.S.mem.length F.rg x.m)]
def cmC (c k:Nat) (F:Fr) (x:CX):HP:=hex fun _:Unit=>sl (cmF c k F x)
instance {c k:Nat} {F:Fr} {x:CX}:Chk (cmC c k F x) (fun _:Unit=>cmF c k F x):=⟨rfl⟩
def Aa6 (nc:Nat) (kind:Int):Int:=if kind=1 then 8 else if kind=2 then 12 else if kind=3 then 3+nc else 1
def J5 (nc:Nat) (r:RecS):Option (Nat × Nat × Nat) :=
 if r.index<0∨r.index≥Aa6 nc r.kind then none
 else if r.kind=1 then some (0,24*r.index.toNat,24)
 else if r.kind=2 then some (0,192+8*r.index.toNat,8)
 else if r.kind=3 then if r.index<4 then some (0,288+40*r.index.toNat,40) else some (r.index.toNat-3,0,40)
 else if r.kind=4 then some (0,448,40)
 else some (0,488,4)
def Hm7 (caps:List Int):Option (Nat × Nat × Nat)→List Value
 | some (j,a,n)=>[int (caps.getD j 0),int a,int n]
 | none=>[int 0,int 0,int 0]
theorem Hj8 (c k:Nat) (env:Int) (caps:List Int) (bad:List RecS) (kind:Int) (hs:caps.length≤40):CtP A9 Ac9 [P0 c,int kind] [W6 c k env caps bad] (int (Aa6 caps.length kind)):=by
 have e:IntKind.wrap .i64 (IntKind.wrap .i64 (4+(caps.length:Int))-1)=3+(caps.length:Int):=by rw [B6,B6];omega
 refine CtP.of D78 rfl fun h r=>Tr.eq (D60 ..) ?_;refine Je ?_
 refine B4 (W6 c k env caps bad) fun ⟨a,n,mb⟩=>?_;refine Je ?_
 unfold Aa6
 by_cases h1:kind=1
 ·refine Yt (by simpa using h1) ?_
  rw [if_pos h1];exact Jz
 refine Yf (by simpa using h1) ?_
 rw [if_neg h1]
 by_cases h2:kind=2
 ·refine Yt (by simpa using h2) ?_
  rw [if_pos h2];exact Jz
 refine Yf (by simpa using h2) ?_
 rw [if_neg h2]
 by_cases h3:kind=3
 ·refine Yt (by simpa using h3) ?_
  rw [if_pos h3];(refine Ja ?_;intros)
  refine Ys fun o=>?_
  rw [e];exact ⟨by first|rfl|trivial,by first|rfl|trivial⟩
 refine Yf (by simpa using h3) ?_
 rw [if_neg h3];exact Jz
theorem G05 (c k:Nat) (env:Int) (caps:List Int) (bad:List RecS) (rc:RecS) (hs:caps.length≤40) (hn:0<caps.length):Ct A9 Ab0 [P0 c,.agg ⟨Ac8 rc⟩] [W6 c k env caps bad] fun v own =>
  v=.tuple ⟨[.agg ⟨Hm7 caps (J5 caps.length rc)⟩,.bool (J5 caps.length rc).isSome]⟩∧own [W6 c k env caps bad]:=by
 have hg:∀ j,j<caps.length→(caps.map int)[j]?=some (int (caps.getD j 0)):=fun j hj=>by rw [List.getElem?_map,P6 0 hj];rfl
 refine Ct.of D07 rfl fun h r=>Tr.eq (D06 ..) ?_;refine Je ?_
 (refine Jb ?_;intros)
 refine Tr.orG (c:=decide (rc.index≥Aa6 caps.length rc.kind)) (fun hb=>?_) ?_
 ·(refine Ja ?_;intros)
  refine Tr.pcall (Hj8 c k env caps bad rc.kind hs) ?_;refine Je ?_;exact Jz
 by_cases hi:rc.index<0∨rc.index≥Aa6 caps.length rc.kind
 ·refine Yt (by simp only [Bool.or_eq_true,decide_eq_true_eq];exact hi) ?_
  have e:J5 caps.length rc=none:=by unfold J5;rw [if_pos hi]
  rw [e]
  (refine Ja ?_;intros)
  refine Ys fun o=>?_
  exact ⟨rfl,o.sub⟩
 refine Yf (by simp only [Bool.or_eq_false_iff,decide_eq_false_iff_not];omega) ?_
 refine B4 (W6 c k env caps bad) fun ⟨a,n,mb⟩=>?_;refine Je ?_
 (refine Ja ?_;intros;repeat(refine Gw ?_;rintro px rfl;refine Ja ?_;intros))
 refine Tr.xIntS (v:=caps.getD 0 0) (hg 0 hn) ?_
 (refine Ja ?_;intros)
 by_cases h1:rc.kind=1
 ·refine Yt (by simpa using h1) ?_
  have e:J5 caps.length rc=some (0,24*rc.index.toNat,24):=by unfold J5;rw [if_neg hi,if_pos h1]
  have hm:Aa6 caps.length rc.kind=8:=by unfold Aa6;rw [if_pos h1]
  have e1:IntKind.wrap .i64 (24*rc.index)=((24*rc.index.toNat:Nat):Int):=by rw [B6];omega
  rw [e,e1]
  (refine Ja ?_;intros)
  refine B0 (W6 c k env caps bad) ⟨some px,n,mb⟩ ?_;refine Je ?_
  refine Ys fun o=>?_
  exact ⟨rfl,o.sub⟩
 refine Yf (by simpa using h1) ?_
 by_cases h2:rc.kind=2
 ·(refine Ja ?_;intros)
  refine Yt (by simpa using h2) ?_
  have e:J5 caps.length rc=some (0,192+8*rc.index.toNat,8):=by unfold J5;rw [if_neg hi,if_neg h1,if_pos h2]
  have hm:Aa6 caps.length rc.kind=12:=by unfold Aa6;rw [if_neg h1,if_pos h2]
  have e1:IntKind.wrap .i64 (192+IntKind.wrap .i64 (8*rc.index))=((192+8*rc.index.toNat:Nat):Int):=by rw [B6,B6];omega
  rw [e,e1]
  (refine Ja ?_;intros)
  refine B0 (W6 c k env caps bad) ⟨some px,n,mb⟩ ?_;refine Je ?_
  refine Ys fun o=>?_
  exact ⟨rfl,o.sub⟩
 (refine Ja ?_;intros)
 refine Yf (by simpa using h2) ?_
 (refine Jb ?_;intros)
 refine Tr.andG (c:=decide (rc.index<4)) (fun hb=>?_) ?_
 ·exact Jz
 by_cases h3:rc.kind=3
 ·have hm:Aa6 caps.length rc.kind=3+caps.length:=by unfold Aa6;rw [if_neg h1,if_neg h2,if_pos h3]
  by_cases h4:rc.index<4
  ·refine Yt (by simp [h3,h4]) ?_
   have e:J5 caps.length rc=some (0,288+40*rc.index.toNat,40):=by unfold J5;rw [if_neg hi,if_neg h1,if_neg h2,if_pos h3,if_pos h4]
   have e1:IntKind.wrap .i64 (288+IntKind.wrap .i64 (40*rc.index))=((288+40*rc.index.toNat:Nat):Int):=by rw [B6,B6];omega
   rw [e,e1]
   (refine Ja ?_;intros)
   refine B0 (W6 c k env caps bad) ⟨some px,n,mb⟩ ?_;refine Je ?_
   refine Ys fun o=>?_
   exact ⟨rfl,o.sub⟩
  ·refine Yf (by simp [h4]) ?_
   have e:J5 caps.length rc=some (rc.index.toNat-3,0,40):=by unfold J5;rw [if_neg hi,if_neg h1,if_neg h2,if_pos h3,if_neg h4]
   have e1:IntKind.wrap .i64 (IntKind.wrap .i64 (rc.index-4)+1)=((rc.index.toNat-3:Nat):Int):=by rw [B6,B6];omega
   rw [e,e1]
   (refine Ja ?_;intros)
   refine Yt (by simpa using h3) ?_
   (refine Ja ?_;intros)
   rw [Int.toNat_natCast]
   refine Je ?_
   refine Tr.xIntS (v:=caps.getD (rc.index.toNat-3) 0) (hg _ (by omega)) ?_
   (refine Ja ?_;intros)
   refine B0 (W6 c k env caps bad) ⟨some px,n,mb⟩ ?_;refine Je ?_
   refine Ys fun o=>?_
   exact ⟨rfl,o.sub⟩
 refine Yf (by simp [h3]) ?_
 (refine Ja ?_;intros)
 refine Yf (by simpa using h3) ?_
 (refine Ja ?_;intros)
 by_cases h4:rc.kind=4
 ·refine Yt (by simpa using h4) ?_
  have e:J5 caps.length rc=some (0,448,40):=by unfold J5;rw [if_neg hi,if_neg h1,if_neg h2,if_neg h3,if_pos h4]
  rw [e]
  (refine Ja ?_;intros)
  refine B0 (W6 c k env caps bad) ⟨some px,n,mb⟩ ?_;refine Je ?_
  refine Ys fun o=>?_
  exact ⟨rfl,o.sub⟩
 refine Yf (by simpa using h4) ?_
 have e:J5 caps.length rc=some (0,488,4):=by unfold J5;rw [if_neg hi,if_neg h1,if_neg h2,if_neg h3,if_neg h4]
 rw [e]
 (refine Ja ?_;intros)
 refine B0 (W6 c k env caps bad) ⟨some px,n,mb⟩ ?_;refine Je ?_
 refine Ys fun o=>?_
 exact ⟨rfl,o.sub⟩
theorem Ih4:Al6 PR 8 E5=some [TypeDesc.int .i64,TypeDesc.int .i64]:=by kernel_rfl
theorem I15:En9 PR E5=some true:=by kernel_rfl
instance {a b:Int}:KeyC PR E5 (.agg ⟨[.int .i64 a,.int .i64 b]⟩):=⟨fun x=>by
 unfold NN.keyN;rw [Ih4,I15];rfl⟩
theorem Et6 (r:RecS):∀ (l:List RecS) (i j:Nat),Aj7 (.agg ⟨Ac8 r⟩) (Aj2 j l) i=some (if r ∈ l then some (i+l.idxOf r) else none)
 | [],i,j=>by simp [Aj2,Aj7]
 | q::l,i,j=>by
  have ih:=Et6 r l (i+1) (j+1)
  obtain ⟨qk,qi⟩:=q
  obtain ⟨rk,ri⟩:=r
  simp only [Aj2,Aj7,Bj7,Ac8,eqs,eq1,decide_true,List.mem_cons] at ih ⊢
  by_cases h:rk=qk∧ri=qi
  ·obtain ⟨rfl,rfl⟩:=h
   simp
  ·have e:(rk==qk && (ri==qi && true))=false:=by
    rw [Bool.and_eq_false_iff]
    by_cases h1:rk=qk
    ·right;simp;intro h2;exact h ⟨h1,h2⟩
    ·left;simpa using h1
   have hne:¬ (({ kind:=rk,index:=ri }:RecS)={ kind:=qk,index:=qi }):=fun e=>by
    rw [RecS.mk.injEq] at e;exact h e
   rw [e]
   simp only [hne,false_or]
   rw [ih,List.idxOf_cons]
   have:(({ kind:=qk,index:=qi }:RecS)=={ kind:=rk,index:=ri })=false:=by
    rw [beq_eq_false_iff_ne];exact fun e=>hne e.symm
   rw [this,cond_false]
   split<;>simp;omega
theorem Dx4:∀ (l:List RecS) (j:Nat),(Aj2 j l).length=l.length
 | [],_=>rfl
 | _::l,j=>by simp [Aj2,Dx4 l]
theorem Hc2:∀ (l:List RecS) (j i:Nat) (r:RecS),l[i]?=some r→(Aj2 j l)[i]?=some { key:=.agg ⟨Ac8 r⟩,val:=int 1,born:=j+i }
 | [],_,i,r,h=>by simp at h
 | q::l,j,0,r,h=>by simp at h;subst h;rfl
 | q::l,j,i+1,r,h=>by
  have:=Hc2 l (j+1) i r (by simpa using h)
  rw [Aj2,List.getElem?_cons_succ,this];congr 2;omega
theorem B19 (r:RecS) (l:List RecS):Ao6 (int 0) (.agg ⟨Ac8 r⟩) (Aj2 0 l)=some (if r ∈ l then (int 1,true) else (int 0,false)):=by
 unfold Ao6
 rw [Et6]
 by_cases h:r ∈ l
 ·rw [if_pos h,if_pos h]
  have hi:=List.idxOf_lt_length_of_mem h
  have hg:l[l.idxOf r]?=some r:=by rw [List.getElem?_eq_getElem hi,List.getElem_idxOf]
  simp only [Nat.zero_add]
  rw [Hc2 l 0 _ r hg]
 ·rw [if_neg h,if_neg h]
theorem Hn8:∀ (l m:List RecS) (j:Nat),Aj2 j (l++m)=Aj2 j l++Aj2 (j+l.length) m
 | [],m,j=>by simp [Aj2]
 | q::l,m,j=>by simp only [List.cons_append,Aj2,Hn8 l m (j+1),List.length_cons];congr 2;congr 1;omega
theorem Eh5 {r:RecS} {l:List RecS} (h:¬ r ∈ l):D61 (int 0) (.agg ⟨Ac8 r⟩) (Aj2 0 l) l.length=some (int 0,l.length,.map (Aj2 0 l++[{ key:=.agg ⟨Ac8 r⟩,val:=int 0,born:=l.length }]) (l.length+1)):=by
 unfold D61;rw [Et6,if_neg h]
theorem G16 (r:RecS) (e:MapEntry):∀ (l:List RecS) (i j:Nat),¬ r ∈ l→Aj7 (.agg ⟨Ac8 r⟩) (Aj2 j l++[e]) i=Aj7 (.agg ⟨Ac8 r⟩) [e] (i+l.length)
 | [],i,j,h=>by simp [Aj2]
 | q::l,i,j,h=>by
  have ih:=G16 r e l (i+1) (j+1) (fun hm=>h (List.mem_cons_of_mem _ hm))
  have hq:Bj7 (.agg ⟨Ac8 r⟩) (.agg ⟨Ac8 q⟩)=some false:=by
   obtain ⟨qk,qi⟩:=q
   obtain ⟨rk,ri⟩:=r
   simp only [Bj7,Ac8,eqs,eq1,decide_true]
   congr 1
   rw [Bool.and_eq_false_iff]
   by_cases h1:rk=qk
   ·right;simp;intro h2;exact h (by subst h1 h2;exact List.mem_cons_self ..)
   ·left;simpa using h1
  show (match Bj7 (.agg ⟨Ac8 r⟩) (.agg ⟨Ac8 q⟩) with
   | some true=>some (some i)
   | some false=>Aj7 (.agg ⟨Ac8 r⟩) (Aj2 (j+1) l++[e]) (i+1)
   | none=>none)=_
  rw [hq]
  simp only
  rw [ih];congr 1;simp;omega
theorem D43 {r:RecS} {l:List RecS} (h:¬ r ∈ l):Ao6 (int 0) (.agg ⟨Ac8 r⟩) (Aj2 0 l++[{ key:=.agg ⟨Ac8 r⟩,val:=int 0,born:=l.length }])=some (int 0,true):=by
 unfold Ao6
 rw [G16 r _ l 0 0 h]
 obtain ⟨rk,ri⟩:=r
 simp only [Aj7,Bj7,Ac8,eqs,eq1,decide_true,BEq.rfl,Bool.and_self,Nat.zero_add]
 rw [List.getElem?_append_right (by rw [Dx4];exact Nat.le_refl _),Dx4];simp
theorem Dj1:∀ (l:List RecS) (j:Nat) (n:Nat) (e:MapEntry) (i:Nat),e.born=n→j+l.length≤n→Bq0 (n:Int) (Aj2 j l++[e]) i=some (i+l.length)
 | [],j,n,e,i,h,hl=>by simp [Aj2,Bq0,h]
 | q::l,j,n,e,i,h,hl=>by
  have ih:=Dj1 l (j+1) n e (i+1) h (by simp at hl;omega)
  simp only [Aj2,List.cons_append,Bq0]
  have:(((j:Nat):Int)==(n:Int))=false:=by simp at hl ⊢;omega
  rw [this,cond_false,ih];congr 1;simp;omega
theorem G10 (f:MapEntry→MapEntry) (e:MapEntry):∀ (l:List MapEntry),modN f l.length (l++[e])=l++[f e]
 | []=>rfl
 | q::l=>by simp [modN,G10 f e l]
theorem Eh7 (r:RecS) (l:List RecS):modN (fun e=>{ e with val:=int (IntKind.wrap .i64 (0+1)) }) l.length (Aj2 0 l++[{ key:=.agg ⟨Ac8 r⟩,val:=int 0,born:=l.length }])=Aj2 0 (l++[r]):=by
 rw [show l.length=(Aj2 0 l).length from (Dx4 l 0).symm,G10,Hn8]
 simp [Aj2,Dx4];decide
theorem Fr.mem_at (F:Fr) (m:List (List UInt8)):(F.at m).mem=U3 F.S.mem F.rg m:=rfl
theorem Fr.at_ok {F:Fr} (k:FrOk F) {m:List (List UInt8)} (f:Fit F.S.mem.length F.rg m):KOk F.N (F.at m):=by
 have:=k.ok
 exact ⟨this.envs,this.tabs,this.space,this.quota,by rw [Fr.mem_at,Db9 f];exact this.mem,this.regs,this.may,this.mayl,this.nsect,this.sects,this.now⟩
theorem It3 {F:Fr} (k:FrOk F) {r:RecS} {j a n:Nat} (h:J5 F.caps.length r=some (j,a,n)):∃ lo z,F.rg[j]?=some (lo,z)∧a+n≤z∧j<F.caps.length:=by
 obtain ⟨lo0,h0⟩:=k.own
 have hl:=k.len;have hn:=k.ne
 unfold J5 at h
 split at h;· cases h
 rename_i hi
 split at h
 ·rename_i h1
  have hm:Aa6 F.caps.length r.kind=8:=by unfold Aa6;rw [if_pos h1]
  cases h;exact ⟨lo0,492,h0,by omega,hn⟩
 rename_i h1
 split at h
 ·rename_i h2
  have hm:Aa6 F.caps.length r.kind=12:=by unfold Aa6;rw [if_neg h1,if_pos h2]
  cases h;exact ⟨lo0,492,h0,by omega,hn⟩
 rename_i h2
 split at h
 ·rename_i h3
  have hm:Aa6 F.caps.length r.kind=3+F.caps.length:=by unfold Aa6;rw [if_neg h1,if_neg h2,if_pos h3]
  split at h
  ·cases h;exact ⟨lo0,492,h0,by omega,hn⟩
  ·cases h
   have hlt:r.index.toNat-3<F.rg.length:=by omega
   have hg:=List.getElem?_eq_getElem hlt
   generalize hx:F.rg[r.index.toNat-3]=x at hg
   obtain ⟨lo,z⟩:=x
   have:=k.brs _ lo z (by omega) hg
   exact ⟨lo,z,hg,by omega,by omega⟩
 split at h<;>(cases h;exact ⟨lo0,492,h0,by omega,hn⟩)
def Af7 (kind:Int):Nat:=if kind=1 then 24 else if kind=2 then 8 else if kind=3 then 40 else if kind=4 then 40 else 4
theorem Ej1 {nc:Nat} {r:RecS} {j a n:Nat} (h:J5 nc r=some (j,a,n)):n=Af7 r.kind:=by
 unfold J5 at h;unfold Af7
 split at h;· cases h
 split at h
 ·rename_i h1;cases h;rw [if_pos h1]
 rename_i h1
 rw [if_neg h1]
 split at h
 ·rename_i h2;cases h;rw [if_pos h2]
 rename_i h2
 rw [if_neg h2]
 split at h
 ·rename_i h3;rw [if_pos h3];split at h<;>(cases h;rfl)
 rename_i h3
 rw [if_neg h3]
 split at h
 ·rename_i h4;cases h;rw [if_pos h4]
 ·rename_i h4;cases h;rw [if_neg h4]
def rdX (X:CX) (r:RecS):Option (List UInt8) :=
 match J5 X.m.length r with
 | some (j,a,n)=>if r ∈ X.bad then none else some (slice (X.m.getD j []) a n)
 | none=>none
def wrX (X:CX) (r:RecS) (b:List UInt8) (ok:Bool):Bool × CX :=
 match J5 X.m.length r with
 | some (j,a,n)=>if ok=true∧¬ r ∈ X.bad then (true,{ X with m:=X.m.set j (N6 (X.m.getD j []) a b) }) else (false,X)
 | none=>(false,X)
theorem Fit.mlen {F:Fr} (k:FrOk F) {m:List (List UInt8)} (f:Fit F.S.mem.length F.rg m):m.length=F.caps.length:=by rw [f.len,k.len]
theorem Ek4 {F:Fr} (k:FrOk F) {m:List (List UInt8)} (f:Fit F.S.mem.length F.rg m) {r:RecS} {j a n:Nat} (h:J5 F.caps.length r=some (j,a,n)) :
  ∃ lo z cap,F.caps[j]?=some cap∧F.rg[j]?=some (lo,z)∧a+n≤z∧m[j]?=some (m.getD j [])∧(m.getD j []).length=z∧lo+z≤F.S.mem.length∧cap=F.caps.getD j 0:=by
 obtain ⟨lo,z,hr,ha,hj⟩:=It3 k h
 obtain ⟨h1,x,hx,hl⟩:=f.each j lo z hr
 have e:m.getD j []=x:=by rw [List.getD_eq_getElem?_getD,hx];rfl
 exact ⟨lo,z,F.caps.getD j 0,P6 0 hj,hr,ha,by rw [e];exact hx,by rw [e];exact hl,h1,rfl⟩
theorem Ix8 {F:Fr} (k:FrOk F) {X:CX} (f:Fit F.S.mem.length F.rg X.m) {r:RecS} {l:List UInt8} (h:rdX X r=some l):l.length=Af7 r.kind:=by
 unfold rdX at h
 rw [f.mlen k] at h
 cases hp:J5 F.caps.length r with
 | none=>rw [hp] at h;cases h
 | some p =>
  obtain ⟨j,a,n⟩:=p
  rw [hp] at h
  obtain ⟨lo,z,cap,_,_,ha,hx,hl,_⟩:=Ek4 k f hp
  simp only at h
  split at h
  ·cases h
  ·cases h;rw [G21 (by omega),Ej1 hp]
theorem I89 {F:Fr} (k:FrOk F) {m:List (List UInt8)} (f:Fit F.S.mem.length F.rg m) {r:RecS} {j a n:Nat} (h:J5 F.caps.length r=some (j,a,n)) :
  V9 (F.at m) F.env ⟨1,F.caps.getD j 0,(a:Int),(n:Int),0,0,[]⟩=((0,0,slice (m.getD j []) a n),F.at m):=by
 obtain ⟨lo,z,cap,hc,hr,ha,hx,hl,hz,rfl⟩:=Ek4 k f h
 have hp:=k.pl j _ lo z hc hr a n 1 (.inl rfl) ha
 have lp:=Db9 f
 have hb:D55 (U3 F.S.mem F.rg m) ((lo+a:Nat):Int) (n:Int)=some (slice (m.getD j []) a n):=by
  unfold D55
  rw [if_pos (by rw [lp];omega),Int.toNat_natCast,Int.toNat_natCast]
  rw [← H52 f k.dj hr hx ha];rfl
 have e:Ar6 (F.at m).tabs (F.at m).regs (F.at m).mem F.env (F.caps.getD j 0) (a:Int) (n:Int)=(slice (m.getD j []) a n,0):=by
  unfold Ar6
  rw [show S6 (F.at m).tabs (F.at m).regs F.env (F.caps.getD j 0) 1 (a:Int) (n:Int)=(((lo+a:Nat):Int),0) from hp]
  rw [if_neg (by simp),show D55 (F.at m).mem _ _=_ from hb]
 unfold V9
 rw [if_neg (show ¬ (F.env<0∨F.env≥((F.at m).envs.length:Int)) from k.env)]
 unfold kDo
 rw [if_pos rfl,e]
theorem I75 {F:Fr} (k:FrOk F) {m:List (List UInt8)} (f:Fit F.S.mem.length F.rg m) {r:RecS} {j a n:Nat} (h:J5 F.caps.length r=some (j,a,n)) {b:List UInt8} (hb:b.length=n) :
  V9 (F.at m) F.env ⟨2,F.caps.getD j 0,(a:Int),0,0,0,b⟩=((0,0,[]),F.at (m.set j (N6 (m.getD j []) a b))):=by
 obtain ⟨lo,z,cap,hc,hr,ha,hx,hl,hz,rfl⟩:=Ek4 k f h
 have hp:=k.pl j _ lo z hc hr a n 2 (.inr rfl) ha
 have lp:=Db9 f
 have hs:Be3 (U3 F.S.mem F.rg m) ((lo+a:Nat):Int) b=some (U3 F.S.mem F.rg (m.set j (N6 (m.getD j []) a b))):=by
  unfold Be3
  rw [if_pos (by rw [lp];omega),Int.toNat_natCast]
  rw [← Hv7 f k.dj hr hx (by omega)];rfl
 have e:An3 (F.at m).tabs (F.at m).regs (F.at m).mem F.env (F.caps.getD j 0) (a:Int) b=(0,U3 F.S.mem F.rg (m.set j (N6 (m.getD j []) a b))):=by
  unfold An3
  rw [hb,show S6 (F.at m).tabs (F.at m).regs F.env (F.caps.getD j 0) 2 (a:Int) (n:Int)=(((lo+a:Nat):Int),0) from hp]
  rw [if_neg (by simp),show Be3 (F.at m).mem _ _=_ from hs]
 unfold V9
 rw [if_neg (show ¬ (F.env<0∨F.env≥((F.at m).envs.length:Int)) from k.env)]
 unfold kDo
 rw [if_neg (show ¬ ((2:Int)=1) by decide),if_pos rfl,e];rfl
theorem Iz3 {F:Fr} (k:FrOk F) {X:CX} (f:Fit F.S.mem.length F.rg X.m) {r:RecS} {b:List UInt8} {ok:Bool} (hb:ok=true→b.length=Af7 r.kind):Fit F.S.mem.length F.rg (wrX X r b ok).2.m:=by
 unfold wrX
 rw [f.mlen k]
 cases hp:J5 F.caps.length r with
 | none=>exact f
 | some p =>
  obtain ⟨j,a,n⟩:=p
  obtain ⟨lo,z,cap,hc,hr,ha,hx,hl,hz,_⟩:=Ek4 k f hp
  simp only
  split
  ·rename_i hk
   exact f.set hr (by rw [Ah8 (by rw [hb hk.1,← Ej1 hp];omega)];exact hl)
  ·exact f
instance {caps:List Int} {o:Option (Nat × Nat × Nat)}:LenC (Hm7 caps o) 3:=⟨by cases o<;>rfl⟩
theorem In1 (caps:List Int) (o:Option (Nat × Nat × Nat)):(Hm7 caps o).all Value.oneCell=true:=by cases o<;>rfl
instance {caps:List Int} {o:Option (Nat × Nat × Nat)} {cs:List Value} [k:LenC cs 3]:SetsC cs 0 (Hm7 caps o) (Hm7 caps o):=⟨Bl1 k.ok LenC.ok (In1 caps o)⟩
instance {rc:RecS}:PartC (Ac8 rc) 0 2 (Ac8 rc):=⟨rfl⟩
theorem H01 (r:RecS) (l:List RecS):(if r ∈ l then (int 1,true) else (int 0,false))=(int (if r ∈ l then 1 else 0),decide (r ∈ l)):=by split<;>simp [*]
theorem Hx1 (r:RecS) (l:List RecS):decide ((if r ∈ l then (1:Int) else 0)>0)=decide (r ∈ l):=by split<;>simp [*]
theorem Ed7 (k:Nat) (S:KS) (N:Nat) (ok:KOk N S) (hN:N+1<1000000000) (env:Int) (c:CallS) (ba:Option Addr) (bc:Nat) (ro:Bool) (h5:c.op≠5) :
  Ct A9 M0 [P0 k,int env,.agg ⟨Bp1 c ba bc⟩] [D4 k S,slC ro A7 1 ba c.b.length bc (A0 c.b)] fun v own=>∃ x d,v=.agg ⟨[int (V9 S env c).1.1,int (V9 S env c).1.2.1,.slice x (V9 S env c).1.2.2.length d]⟩ ∧
    own [slC false A7 1 x (V9 S env c).1.2.2.length d (A0 (V9 S env c).1.2.2),D4 k (V9 S env c).2,slC ro A7 1 ba c.b.length bc (A0 c.b)]:=by
 intro h r o
 obtain ⟨pq,o1⟩:=Own.ex (f:=fun pq=>slX ro A7 1 ba c.b.length bc pq (A0 c.b)) (o.perm (.swap _ _ _))
 obtain ⟨v,h',e,x,d,rfl,o2⟩:=Ib4 k S N ok hN env c ba bc ro pq h5 h r (o1.perm (.swap _ _ _))
 refine ⟨_,h',e,x,d,rfl,?_⟩
 have o3:=o2.picks [2] rfl
 exact (Own.inex (f:=fun pq=>slX ro A7 1 ba c.b.length bc pq (A0 c.b)) pq o3).picks [1,1,0] rfl
theorem Ej3 (c k:Nat) (F:Fr) (X:CX) (rc:RecS) (ok:FrOk F):Ct A9 P8 [P0 c,.agg ⟨Ac8 rc⟩] [cmC c k F X] fun v own =>
  (∃ l a cp,rdX X rc=some l∧l.length=Af7 rc.kind∧v=.tuple ⟨[.slice a l.length cp,.bool true]⟩∧own [slC false A7 1 a l.length cp (A0 l),cmC c k F X]) ∨
  (rdX X rc=none∧v=.tuple ⟨[.slice none 0 0,.bool false]⟩∧own [cmC c k F X]):=by
 refine Ct.of Ea6 rfl fun h r=>Tr.eq (Ea0 ..) ?_;refine Je ?_
 refine B4 (cmC c k F X) fun u=>?_;refine Je ?_
 refine P3 2 rfl fun f=>?_
 (refine Ja ?_;intros)
 refine Yc (G05 c k F.env F.caps X.bad rc ok.small ok.ne) ?_;rintro _ h ⟨rfl,o⟩<;>(refine Jg o ?_;intros)
 have em:=f.mlen ok
 cases hp:J5 F.caps.length rc with
 | none =>
  (refine Jb ?_;intros)
  refine Yb (Yt rfl ?_)
  refine Ys fun o=>(?_:Tr _ _ _ _) o;refine Je ?_
  (refine Ja ?_;intros)
  refine B0 (cmC c k F X) () ?_;refine Je ?_
  refine Ys fun o=>?_
  exact .inr ⟨by unfold rdX;rw [em,hp],rfl,o.sub⟩
 | some p =>
  obtain ⟨j,a,n⟩:=p
  refine B4 (W6 c k F.env F.caps X.bad) fun ⟨ca,cn,mb⟩=>?_;refine Je ?_
  (refine Jb ?_;intros)
  refine Tr.orG (c:=decide (rc ∈ X.bad)) (fun _=>?_) ?_
  ·(refine Ja ?_;intros)
   rw [B19,H01]
   (refine Ja ?_;intros)
   refine Ys fun o=>?_
   rw [Hx1];exact ⟨by first|rfl|trivial,by first|rfl|trivial⟩
  by_cases hb:rc ∈ X.bad
  ·rw [decide_eq_true hb]
   (refine Ja ?_;intros)
   refine B0 (W6 c k F.env F.caps X.bad) ⟨ca,cn,mb⟩ ?_;refine Je ?_
   refine B0 (cmC c k F X) () ?_;refine Je ?_
   refine Ys fun o=>?_
   exact .inr ⟨by unfold rdX;rw [em,hp];exact if_pos hb,rfl,o.sub⟩
  ·rw [decide_eq_false hb]
   refine Yf rfl ?_
   (refine Ja ?_;intros)
   refine B0 (W6 c k F.env F.caps X.bad) ⟨ca,cn,mb⟩ ?_;refine Je ?_
   have J:=Gu7 k (F.at X.m) F.N (F.at_ok ok f) ok.hN F.env 1 (F.caps.getD j 0) (a:Int) (n:Int) 0 0 (by decide)
   rw [I89 ok f hp] at J
   refine Yc (J) ?_;rintro _ h ⟨y,d,rfl,o⟩<;>(refine Jf o ?_;intros)
   refine Yf rfl ?_
   (refine Ja ?_;intros)
   refine B0 (cmC c k F X) () ?_;refine Je ?_
   refine Ys fun o=>?_
   have e:rdX X rc=some (slice (X.m.getD j []) a n):=by unfold rdX;rw [em,hp];exact if_neg hb
   exact .inl ⟨_,y,d,e,Ix8 ok f e,rfl,o.sub⟩
theorem D29 (c k:Nat) (F:Fr) (X:CX) (rc:RecS) (ok:FrOk F) (bs:List UInt8) (g:Bool) (ba:Option Addr) (bc:Nat) (hb:g=true→bs.length=Af7 rc.kind) :
  Ct A9 O7 [P0 c,.agg ⟨Ac8 rc⟩,.slice ba bs.length bc,.bool g] [cmC c k F X,slC false A7 1 ba bs.length bc (A0 bs)] fun v own =>
   v=.bool (wrX X rc bs g).1∧own [cmC c k F (wrX X rc bs g).2,slC false A7 1 ba bs.length bc (A0 bs)]:=by
 refine Ct.of D09 rfl fun h r=>Tr.eq (D08 ..) ?_;refine Je ?_
 refine B4 (cmC c k F X) fun u=>?_;refine Je ?_
 refine P3 2 rfl fun f=>?_
 (refine Ja ?_;intros)
 refine Yc (G05 c k F.env F.caps X.bad rc ok.small ok.ne) ?_;rintro _ h ⟨rfl,o⟩<;>(refine Jg o ?_;intros)
 have em:=f.mlen ok
 cases hp:J5 F.caps.length rc with
 | none =>
  (refine Jb ?_;intros)
  refine Yb (Yt rfl ?_)
  refine Ys fun o=>(?_:Tr _ _ _ _) o;refine Je ?_
  refine Yb (Yt rfl ?_)
  refine Ys fun o=>(?_:Tr _ _ _ _) o;refine Je ?_
  (refine Ja ?_;intros)
  refine B0 (cmC c k F X) () ?_;refine Je ?_
  refine Ys fun o=>?_
  have e:wrX X rc bs g=(false,X):=by unfold wrX;rw [em,hp]
  rw [e]
  exact ⟨by first|rfl|trivial,o.sub⟩
 | some p =>
  obtain ⟨j,a,n⟩:=p
  refine B4 (W6 c k F.env F.caps X.bad) fun ⟨ca,cn,mb⟩=>?_;refine Je ?_
  (refine Jb ?_;intros)
  refine Yb (Yf rfl ?_)
  refine Ys fun o=>(?_:Tr _ _ _ _) o;refine Je ?_
  (refine Jb ?_;intros)
  refine Tr.orG (c:=decide (rc ∈ X.bad)) (fun _=>?_) ?_
  ·(refine Ja ?_;intros)
   rw [B19,H01]
   (refine Ja ?_;intros)
   refine Ys fun o=>?_
   rw [Hx1];exact ⟨by first|rfl|trivial,by first|rfl|trivial⟩
  by_cases hg:g=true∧¬ rc ∈ X.bad
  ·have e:wrX X rc bs g=(true,{ X with m:=X.m.set j (N6 (X.m.getD j []) a bs) }):=by unfold wrX;rw [em,hp];exact if_pos hg
   have f2:=Iz3 (r:=rc) (b:=bs) (ok:=g) ok f hb
   rw [e] at f2
   obtain ⟨rfl,hg2⟩:=hg
   rw [e,decide_eq_false hg2]
   refine Yf rfl ?_
   (refine Ja ?_;intros)
   refine B0 (W6 c k F.env F.caps X.bad) ⟨ca,cn,mb⟩ ?_;refine Je ?_
   have hl:bs.length=n:=by rw [hb rfl,Ej1 hp]
   have J:=Ed7 k (F.at X.m) F.N (F.at_ok ok f) ok.hN F.env ⟨2,F.caps.getD j 0,(a:Int),0,0,0,bs⟩ ba bc false (show ((2:Int)≠5) by decide)
   rw [I75 ok f hp hl] at J
   refine Yc (J) ?_;rintro _ h ⟨y,d,rfl,o⟩<;>(refine Jf o ?_;intros)
   refine Aq9 (show Fit F.S.mem.length F.rg (X.m.set j (N6 (X.m.getD j []) a bs)) from f2) ?_
   refine B0 (cmC c k F { X with m:=X.m.set j (N6 (X.m.getD j []) a bs) }) () ?_;refine Je ?_
   refine Ys fun o=>?_
   exact ⟨rfl,o.sub⟩
  ·have e:wrX X rc bs g=(false,X):=by unfold wrX;rw [em,hp];exact if_neg hg
   rw [e]
   refine Yt ?_ ?_
   ·cases g with
    | false=>rfl
    | true=>simpa using hg
   refine B0 (W6 c k F.env F.caps X.bad) ⟨ca,cn,mb⟩ ?_;refine Je ?_
   refine B0 (cmC c k F X) () ?_;refine Je ?_
   refine Ys fun o=>?_
   exact ⟨by first|rfl|trivial,o.sub⟩
def Y9 {α:Type} (dec:List UInt8→α × Int) (z:α) (X:CX) (rc:RecS):(α × Int) × CX :=
 match rdX X rc with
 | some l=>(dec l,if (dec l).2=2 then { X with bad:=X.bad++[rc] } else X)
 | none=>((z,2),X)
theorem Ei4 {X:CX} {rc:RecS} {l:List UInt8} (h:rdX X rc=some l):¬ rc ∈ X.bad:=by
 unfold rdX at h
 split at h
 ·split at h
  ·cases h
  ·assumption
 ·cases h
theorem Id9 (l:List UInt8) (h:(Aa4 l).2≠1):(Aa4 l).1=.zero:=by
 unfold Aa4 at *;split<;>first|rfl|(split<;>first|rfl|(simp_all;done))
theorem Ic6 (l:List UInt8) (h:(Aa2 l).2≠1):(Aa2 l).1=.zero:=by
 unfold Aa2 at *;split<;>first|rfl|(split<;>first|rfl|(simp_all;done))
theorem Ig9 (l:List UInt8) (h:(U7 l).2≠1):(U7 l).1=.zero:=by
 unfold U7 at *;split<;>first|rfl|(split<;>first|rfl|(simp_all;done))
theorem I11 (c k:Nat) (F:Fr) (X:CX) (rc:RecS) (ok:FrOk F) (hk:Af7 rc.kind=24):Ct A9 N1 [P0 c,.agg ⟨Ac8 rc⟩,.func (.func Av0) ⟨[]⟩ ⟨[]⟩] [cmC c k F X] fun v own =>
  v=.tuple ⟨[.agg ⟨E0 (Y9 Aa4 .zero X rc).1.1⟩,int (Y9 Aa4 .zero X rc).1.2]⟩∧own [cmC c k F (Y9 Aa4 .zero X rc).2]:=by
 refine Ct.of Aq3 rfl fun h r=>Tr.eq (Dq3 ..) ?_;refine Je ?_
 (refine Ja ?_;intros)
 refine Yc (Ej3 c k F X rc ok) ?_
 rintro v h (⟨l,a,cp,hr,hl,rfl,o⟩|⟨hr,rfl,o⟩)
 ·refine (?_:Tr _ _ _ _) o
  refine Je ?_
  have e:Y9 Aa4 .zero X rc=(Aa4 l,if (Aa4 l).2=2 then { X with bad:=X.bad++[rc] } else X):=by unfold Y9;rw [hr]
  have hb:=Ei4 hr
  rw [e]
  rw [hk] at hl
  rw [hl]
  (refine Ja ?_;intros)
  refine Yc (H48 a cp l hl) ?_;rintro _ h ⟨rfl,o⟩<;>(refine Jf o ?_;intros)
  by_cases h2:(Aa4 l).2=2
  ·refine Yt (by simpa using h2) ?_
   have hz:=Id9 l (by omega)
   simp only [if_pos h2]
   refine B4 (cmC c k F X) fun u=>?_;refine Je ?_
   refine B4 (W6 c k F.env F.caps X.bad) fun ⟨ca,cn,mb⟩=>?_;refine Je ?_
   (refine Ja ?_;intros)
   rw [B19,if_neg hb]
   (refine Ja ?_;intros)
   rw [Eh5 hb]
   (refine Ja ?_;intros)
   rw [D43 hb]
   (refine Ja ?_;intros)
   rw [Dj1 X.bad 0 X.bad.length _ 0 rfl (by omega),Nat.zero_add]
   (refine Ja ?_;intros)
   rw [Eh7]
   refine Tr.jmp Aq3 (Tr.eq (A71 ..) ?_);(try simp only[Nr,Nl,wl,Nat.reduceAdd,Nat.reduceMul,Int.reduceToNat])
   refine Yt (by rw [bne_iff_ne];omega) ?_
   (refine Ja ?_;intros)
   rw [show X.bad.length+1=(X.bad++[rc]).length by simp]
   refine B0 (W6 c k F.env F.caps (X.bad++[rc])) ⟨ca,cn,mb⟩ ?_;refine Je ?_
   refine B0 (cmC c k F { X with bad:=X.bad++[rc] }) () ?_;refine Je ?_
   refine Ys fun o=>?_
   exact ⟨by rw [hz]<;>rfl,o.sub⟩
  ·refine Yf (by simpa using h2) ?_
   simp only [if_neg h2]
   refine Tr.jmp Aq3 (Tr.eq (A71 ..) ?_);(try simp only[Nr,Nl,wl,Nat.reduceAdd,Nat.reduceMul,Int.reduceToNat])
   by_cases h1:(Aa4 l).2=1
   ·refine Yf (by simpa using h1) ?_
    (refine Ja ?_;intros)
    refine Ys fun o=>?_
    exact ⟨rfl,o.sub⟩
   ·refine Yt (by simpa using h1) ?_
    (refine Ja ?_;intros)
    refine Ys fun o=>?_
    exact ⟨by rw [Id9 l h1]<;>rfl,o.sub⟩
 ·refine (?_:Tr _ _ _ _) o
  refine Je ?_
  have e:Y9 Aa4 .zero X rc=((.zero,2),X):=by unfold Y9;rw [hr]
  rw [e]
  (refine Ja ?_;intros)
  refine Ys fun o=>?_
  exact ⟨rfl,o.sub⟩
theorem Iy5 (c k:Nat) (F:Fr) (X:CX) (rc:RecS) (ok:FrOk F) (hk:Af7 rc.kind=8):Ct A9 M9 [P0 c,.agg ⟨Ac8 rc⟩,.func (.func Au6) ⟨[]⟩ ⟨[]⟩] [cmC c k F X] fun v own =>
  v=.tuple ⟨[.agg ⟨Aj8 (Y9 Aa2 .zero X rc).1.1⟩,int (Y9 Aa2 .zero X rc).1.2]⟩∧own [cmC c k F (Y9 Aa2 .zero X rc).2]:=by
 refine Ct.of As3 rfl fun h r=>Tr.eq (Dn7 ..) ?_;refine Je ?_
 (refine Ja ?_;intros)
 refine Yc (Ej3 c k F X rc ok) ?_
 rintro v h (⟨l,a,cp,hr,hl,rfl,o⟩|⟨hr,rfl,o⟩)
 ·refine (?_:Tr _ _ _ _) o
  refine Je ?_
  have e:Y9 Aa2 .zero X rc=(Aa2 l,if (Aa2 l).2=2 then { X with bad:=X.bad++[rc] } else X):=by unfold Y9;rw [hr]
  have hb:=Ei4 hr
  rw [e]
  rw [hk] at hl
  rw [hl]
  (refine Ja ?_;intros)
  refine Yc (H53 a cp l hl) ?_;rintro _ h ⟨rfl,o⟩<;>(refine Jf o ?_;intros)
  by_cases h2:(Aa2 l).2=2
  ·refine Yt (by simpa using h2) ?_
   have hz:=Ic6 l (by omega)
   simp only [if_pos h2]
   refine B4 (cmC c k F X) fun u=>?_;refine Je ?_
   refine B4 (W6 c k F.env F.caps X.bad) fun ⟨ca,cn,mb⟩=>?_;refine Je ?_
   (refine Ja ?_;intros)
   rw [B19,if_neg hb]
   (refine Ja ?_;intros)
   rw [Eh5 hb]
   (refine Ja ?_;intros)
   rw [D43 hb]
   (refine Ja ?_;intros)
   rw [Dj1 X.bad 0 X.bad.length _ 0 rfl (by omega),Nat.zero_add]
   (refine Ja ?_;intros)
   rw [Eh7]
   refine Tr.jmp As3 (Tr.eq (A66 ..) ?_);(try simp only[Nr,Nl,wl,Nat.reduceAdd,Nat.reduceMul,Int.reduceToNat])
   refine Yt (by rw [bne_iff_ne];omega) ?_
   (refine Ja ?_;intros)
   rw [show X.bad.length+1=(X.bad++[rc]).length by simp]
   refine B0 (W6 c k F.env F.caps (X.bad++[rc])) ⟨ca,cn,mb⟩ ?_;refine Je ?_
   refine B0 (cmC c k F { X with bad:=X.bad++[rc] }) () ?_;refine Je ?_
   refine Ys fun o=>?_
   exact ⟨by rw [hz]<;>rfl,o.sub⟩
  ·refine Yf (by simpa using h2) ?_
   simp only [if_neg h2]
   refine Tr.jmp As3 (Tr.eq (A66 ..) ?_);(try simp only[Nr,Nl,wl,Nat.reduceAdd,Nat.reduceMul,Int.reduceToNat])
   by_cases h1:(Aa2 l).2=1
   ·refine Yf (by simpa using h1) ?_
    (refine Ja ?_;intros)
    refine Ys fun o=>?_
    exact ⟨rfl,o.sub⟩
   ·refine Yt (by simpa using h1) ?_
    (refine Ja ?_;intros)
    refine Ys fun o=>?_
    exact ⟨by rw [Ic6 l h1]<;>rfl,o.sub⟩
 ·refine (?_:Tr _ _ _ _) o
  refine Je ?_
  have e:Y9 Aa2 .zero X rc=((.zero,2),X):=by unfold Y9;rw [hr]
  rw [e]
  (refine Ja ?_;intros)
  refine Ys fun o=>?_
  exact ⟨rfl,o.sub⟩
theorem Hy5 (c k:Nat) (F:Fr) (X:CX) (rc:RecS) (ok:FrOk F) (hk:Af7 rc.kind=40):Ct A9 J7 [P0 c,.agg ⟨Ac8 rc⟩,.func (.func Ap3) ⟨[]⟩ ⟨[]⟩] [cmC c k F X] fun v own =>
  v=.tuple ⟨[.agg ⟨G1 (Y9 U7 .zero X rc).1.1⟩,int (Y9 U7 .zero X rc).1.2]⟩∧own [cmC c k F (Y9 U7 .zero X rc).2]:=by
 refine Ct.of Aq8 rfl fun h r=>Tr.eq (Dq8 ..) ?_;refine Je ?_
 (refine Ja ?_;intros)
 refine Yc (Ej3 c k F X rc ok) ?_
 rintro v h (⟨l,a,cp,hr,hl,rfl,o⟩|⟨hr,rfl,o⟩)
 ·refine (?_:Tr _ _ _ _) o
  refine Je ?_
  have e:Y9 U7 .zero X rc=(U7 l,if (U7 l).2=2 then { X with bad:=X.bad++[rc] } else X):=by unfold Y9;rw [hr]
  have hb:=Ei4 hr
  rw [e]
  rw [hk] at hl
  rw [hl]
  (refine Ja ?_;intros)
  refine Yc (H21 a cp l hl) ?_;rintro _ h ⟨rfl,o⟩<;>(refine Jf o ?_;intros)
  by_cases h2:(U7 l).2=2
  ·refine Yt (by simpa using h2) ?_
   have hz:=Ig9 l (by omega)
   simp only [if_pos h2]
   refine B4 (cmC c k F X) fun u=>?_;refine Je ?_
   refine B4 (W6 c k F.env F.caps X.bad) fun ⟨ca,cn,mb⟩=>?_;refine Je ?_
   (refine Ja ?_;intros)
   rw [B19,if_neg hb]
   (refine Ja ?_;intros)
   rw [Eh5 hb]
   (refine Ja ?_;intros)
   rw [D43 hb]
   (refine Ja ?_;intros)
   rw [Dj1 X.bad 0 X.bad.length _ 0 rfl (by omega),Nat.zero_add]
   (refine Ja ?_;intros)
   rw [Eh7]
   refine Tr.jmp Aq8 (Tr.eq (A78 ..) ?_);(try simp only[Nr,Nl,wl,Nat.reduceAdd,Nat.reduceMul,Int.reduceToNat])
   refine Yt (by rw [bne_iff_ne];omega) ?_
   (refine Ja ?_;intros)
   rw [show X.bad.length+1=(X.bad++[rc]).length by simp]
   refine B0 (W6 c k F.env F.caps (X.bad++[rc])) ⟨ca,cn,mb⟩ ?_;refine Je ?_
   refine B0 (cmC c k F { X with bad:=X.bad++[rc] }) () ?_;refine Je ?_
   refine Ys fun o=>?_
   exact ⟨by rw [hz]<;>rfl,o.sub⟩
  ·refine Yf (by simpa using h2) ?_
   simp only [if_neg h2]
   refine Tr.jmp Aq8 (Tr.eq (A78 ..) ?_);(try simp only[Nr,Nl,wl,Nat.reduceAdd,Nat.reduceMul,Int.reduceToNat])
   by_cases h1:(U7 l).2=1
   ·refine Yf (by simpa using h1) ?_
    (refine Ja ?_;intros)
    refine Ys fun o=>?_
    exact ⟨rfl,o.sub⟩
   ·refine Yt (by simpa using h1) ?_
    (refine Ja ?_;intros)
    refine Ys fun o=>?_
    exact ⟨by rw [Ig9 l h1]<;>rfl,o.sub⟩
 ·refine (?_:Tr _ _ _ _) o
  refine Je ?_
  have e:Y9 U7 .zero X rc=((.zero,2),X):=by unfold Y9;rw [hr]
  rw [e]
  (refine Ja ?_;intros)
  refine Ys fun o=>?_
  exact ⟨rfl,o.sub⟩
def Gp2 (g:Int):List UInt8:=[b8 g,211,Bw8 [b8 g,211],0]
def Ao9 (l:List UInt8):Int × Int:=if byI l 0<8∧Gp2 (byI l 0)=l then (byI l 0,1) else (0,2)
theorem G74 (g:Int):Ct A9 Ar5 [int g] [] fun v own =>
  (0≤g∧g<8∧∃ a c,v=.tuple ⟨[.slice a 4 c,.bool true]⟩∧own [slC false A7 1 a 4 c (A0 (Gp2 g))])∨(¬ (0≤g∧g<8)∧v=.tuple ⟨[.slice none 0 0,.bool false]⟩∧own []):=by
 refine Ct.of Ei2 rfl fun h r=>Tr.eq (Ek6 ..) ?_;refine Je ?_
 (refine Ja ?_;intros)
 by_cases hg:0≤g∧g<8
 ·refine Yf (by simp;omega) ?_
  rw [Bm9]
  refine Yn fun b h=>?_
  rw [show ([.int .u8 ((b8 g).toNat:Int),.int .u8 211]:List Value)=A0 [b8 g,211] from rfl]
  refine Av2 0 rfl 1 2 rfl (by omega) ?_
  refine Je ?_
  refine Tr.pcall (Gq3 (slC false A7 1 (some ⟨b,0,none⟩) 2 2 (A0 [b8 g,211])) (some ⟨b,0,none⟩) false 2 2 2 [b8 g,211] 2 (by simp) (by simp [B1])) ?_
  (refine Ja ?_;intros)
  rw [show List.take 2 [b8 g,211]=[b8 g,211] from rfl,Dy9]
  refine Tr.xApd ⟨rfl,rfl,by simp [B1]⟩ fun a' c' h'=>?_
  refine Je ?_
  refine Ys fun o=>?_
  exact .inl ⟨hg.1,hg.2,a',c',rfl,(show Own h' (_::slC false A7 1 a' 4 c' (A0 (Gp2 g))::_) from o).sub⟩
 ·refine Yt (by simp;omega) ?_
  refine Ys fun o=>?_
  exact .inr ⟨hg,rfl,o.sub⟩
theorem I28 (l:List UInt8):∀ (m i:Nat) (r:List UInt8),l.length-i=m→ByteArray.toList.loop ⟨⟨l⟩⟩ i r=r.reverse++l.drop i:=by
 intro m
 induction m with
 | zero =>
  intro i r hm
  unfold ByteArray.toList.loop
  rw [if_neg (show ¬ i<(ByteArray.mk ⟨l⟩).size by show ¬ i<l.length;omega),List.drop_eq_nil_of_le (by omega)];simp
 | succ m ih =>
  intro i r hm
  have hlt:i<l.length:=by omega
  unfold ByteArray.toList.loop
  rw [if_pos (show i<(ByteArray.mk ⟨l⟩).size from hlt),ih (i+1) _ (by omega),List.drop_eq_getElem_cons hlt]
  have:(ByteArray.mk ⟨l⟩).get! i=l[i]:=by
   show (Array.mk l)[i]! = l[i]
   simp [hlt]
  rw [this];simp
theorem G06 (l:List UInt8):(ByteArray.mk ⟨l⟩).toList=l:=by
 unfold ByteArray.toList
 rw [I28 l _ 0 [] rfl];simp
theorem Hr7 (pb:HP) (ro:Bool) (a:Option Addr) (c:Nat) (l:List UInt8) (hl:l.length=4) [ks:IsSl pb a ro A7 1 4 c (A0 l)]:Ct A9 Ai2 [.slice a 4 c] [pb] fun v own=>v=.tuple ⟨[int (Ao9 l).1,int (Ao9 l).2]⟩∧own [pb]:=by
 refine Ct.of Ga1 rfl fun h r=>Tr.eq (E98 ..) ?_;refine Je ?_
 refine Yf rfl ?_
 (refine Ja ?_;intros;repeat(refine Gw ?_;rintro px rfl;refine Ja ?_;intros))
 refine Tr.xIntS (v:=byI l 0) (Af8 (by omega)) ?_
 simp only [byI,Ap7]
 refine Yc (G74 (byI l 0)) ?_
 rintro v h (⟨h1,h2,a1,c1,rfl,o⟩|⟨hn,rfl,o⟩)
 ·refine (?_:Tr _ _ _ _) o
  refine Je ?_
  (refine Ja ?_;intros)
  rw [G06,G06]
  by_cases he:Gp2 (byI l 0)=l
  ·have e:Ao9 l=(byI l 0,1):=by unfold Ao9;rw [if_pos ⟨h2,he⟩]
   refine Yf (by simp [he]) ?_
   (refine Ja ?_;intros)
   refine Tr.xIntS (v:=byI l 0) (Af8 (by omega)) ?_
   refine Ys fun o=>?_
   rw [e];exact ⟨by simp only [byI,Ap7],o.sub⟩
  ·have e:Ao9 l=(0,2):=by unfold Ao9;rw [if_neg (fun hh=>he hh.2)]
   refine Yt (by simp [he]) ?_
   refine Ys fun o=>?_
   rw [e];exact ⟨rfl,o.sub⟩
 ·refine (?_:Tr _ _ _ _) o
  refine Je ?_
  (refine Jb ?_;intros)
  refine Yb (Yt rfl ?_)
  refine Ys fun o=>(?_:Tr _ _ _ _) o;refine Je ?_
  (refine Ja ?_;intros)
  refine Ys fun o=>?_
  exact ⟨by unfold Ao9;rw [if_neg (by simp only [byI] at *;omega)],o.sub⟩
theorem H58 (a:Option Addr) (c:Nat) (l:List UInt8) (hl:l.length=4):Ct A9 Ai2 [.slice a 4 c] [slC false A7 1 a 4 c (A0 l)] fun v own=>v=.tuple ⟨[int (Ao9 l).1,int (Ao9 l).2]⟩∧own [slC false A7 1 a 4 c (A0 l)]:=Hr7 (slC false A7 1 a 4 c (A0 l)) false a c l hl
theorem Id5 (l:List UInt8) (h:(Ao9 l).2≠1):(Ao9 l).1=0:=by
 unfold Ao9 at *;split<;>simp_all
theorem Iz8 (c k:Nat) (F:Fr) (X:CX) (rc:RecS) (ok:FrOk F) (hk:Af7 rc.kind=4):Ct A9 U6 [P0 c,.agg ⟨Ac8 rc⟩,.func (.func Ai2) ⟨[]⟩ ⟨[]⟩] [cmC c k F X] fun v own =>
  v=.tuple ⟨[int (Y9 Ao9 0 X rc).1.1,int (Y9 Ao9 0 X rc).1.2]⟩∧own [cmC c k F (Y9 Ao9 0 X rc).2]:=by
 refine Ct.of Bc4 rfl fun h r=>Tr.eq (Eo1 ..) ?_;refine Je ?_
 (refine Ja ?_;intros)
 refine Yc (Ej3 c k F X rc ok) ?_
 rintro v h (⟨l,a,cp,hr,hl,rfl,o⟩|⟨hr,rfl,o⟩)
 ·refine (?_:Tr _ _ _ _) o
  refine Je ?_
  have e:Y9 Ao9 0 X rc=(Ao9 l,if (Ao9 l).2=2 then { X with bad:=X.bad++[rc] } else X):=by unfold Y9;rw [hr]
  have hb:=Ei4 hr
  rw [e]
  rw [hk] at hl
  rw [hl]
  (refine Ja ?_;intros)
  refine Yc (H58 a cp l hl) ?_;rintro _ h ⟨rfl,o⟩<;>(refine Jf o ?_;intros)
  by_cases h2:(Ao9 l).2=2
  ·refine Yt (by simpa using h2) ?_
   have hz:=Id5 l (by omega)
   simp only [if_pos h2]
   refine B4 (cmC c k F X) fun u=>?_;refine Je ?_
   refine B4 (W6 c k F.env F.caps X.bad) fun ⟨ca,cn,mb⟩=>?_;refine Je ?_
   (refine Ja ?_;intros)
   rw [B19,if_neg hb]
   (refine Ja ?_;intros)
   rw [Eh5 hb]
   (refine Ja ?_;intros)
   rw [D43 hb]
   (refine Ja ?_;intros)
   rw [Dj1 X.bad 0 X.bad.length _ 0 rfl (by omega),Nat.zero_add]
   (refine Ja ?_;intros)
   rw [Eh7]
   refine Tr.jmp Bc4 (Tr.eq (Bq4 ..) ?_);(try simp only[Nr,Nl,wl,Nat.reduceAdd,Nat.reduceMul,Int.reduceToNat])
   refine Yt (by rw [bne_iff_ne];omega) ?_
   rw [show X.bad.length+1=(X.bad++[rc]).length by simp]
   refine B0 (W6 c k F.env F.caps (X.bad++[rc])) ⟨ca,cn,mb⟩ ?_;refine Je ?_
   refine B0 (cmC c k F { X with bad:=X.bad++[rc] }) () ?_;refine Je ?_
   refine Ys fun o=>?_
   exact ⟨by rw [hz],o.sub⟩
  ·refine Yf (by simpa using h2) ?_
   simp only [if_neg h2]
   refine Tr.jmp Bc4 (Tr.eq (Bq4 ..) ?_);(try simp only[Nr,Nl,wl,Nat.reduceAdd,Nat.reduceMul,Int.reduceToNat])
   by_cases h1:(Ao9 l).2=1
   ·refine Yf (by simpa using h1) ?_
    refine Ys fun o=>?_
    exact ⟨rfl,o.sub⟩
   ·refine Yt (by simpa using h1) ?_
    refine Ys fun o=>?_
    exact ⟨by rw [Id5 l h1],o.sub⟩
 ·refine (?_:Tr _ _ _ _) o
  refine Je ?_
  have e:Y9 Ao9 0 X rc=((0,2),X):=by unfold Y9;rw [hr]
  rw [e]
  (refine Ja ?_;intros)
  refine Ys fun o=>?_
  exact ⟨rfl,o.sub⟩
abbrev Eo8 (X:CX) (i:Int):(ProcS × Int) × CX:=Y9 Aa4 .zero X ⟨1,i⟩
abbrev Eo7 (X:CX) (i:Int):(FileS × Int) × CX:=Y9 Aa2 .zero X ⟨2,i⟩
abbrev En4 (X:CX) (i:Int):(PipeS × Int) × CX:=Y9 U7 .zero X ⟨3,i⟩
abbrev E48 (X:CX):(PipeS × Int) × CX:=Y9 U7 .zero X ⟨4,0⟩
abbrev Eu8 (X:CX):(Int × Int) × CX:=Y9 Ao9 0 X ⟨5,0⟩
abbrev A37 (X:CX) (i:Int) (p:ProcS):Bool × CX:=wrX X ⟨1,i⟩ (Ay4 p) (okS p)
abbrev Bn0 (X:CX) (i:Int) (p:FileS):Bool × CX:=wrX X ⟨2,i⟩ (Al4 p) (okF p)
abbrev Bc2 (X:CX) (i:Int) (p:PipeS):Bool × CX:=wrX X ⟨3,i⟩ (M7 p) (okP p)
abbrev Iw3 (X:CX) (rc:RecS):Bool × CX:=wrX X rc (List.replicate (Af7 rc.kind) 0) true
theorem Gn6 (X:CX) (rc:RecS) (b:List UInt8):wrX X rc b false=(false,X):=by
 unfold wrX;split<;>simp
theorem Ej8 (c k:Nat) (F:Fr) (X:CX) (rc:RecS) (ok:FrOk F):Ct A9 O7 [P0 c,.agg ⟨Ac8 rc⟩,.slice none 0 0,.bool false] [cmC c k F X] fun v own=>v=.bool false∧own [cmC c k F X]:=by
 intro h r o
 have o1:Own h (slC false A7 1 none 0 0 (A0 [])::cmC c k F X::r):=o.slNil false A7 (by omega)
 obtain ⟨v,h',e,rfl,o2⟩:=D29 c k F X rc ok [] false none 0 (by simp) h r (o1.perm (.swap _ _ _))
 rw [Gn6] at e o2
 exact ⟨_,h',e,rfl,o2.sub⟩
theorem Gf3 (i:Int):Ct A9 A94 [int i] [] fun v own=>v=.agg ⟨Ac8 ⟨1,i⟩⟩∧own []:=by
 refine Ct.of Gv4 rfl fun h r=>Tr.eq (Gu2 ..) ?_;refine Je ?_
 (refine Ja ?_;intros)
 refine Ys fun o=>?_
 exact ⟨rfl,o.sub⟩
theorem Gg3 (i:Int):Ct A9 A83 [int i] [] fun v own=>v=.agg ⟨Ac8 ⟨2,i⟩⟩∧own []:=by
 refine Ct.of Gu5 rfl fun h r=>Tr.eq (Gw6 ..) ?_;refine Je ?_
 (refine Ja ?_;intros)
 refine Ys fun o=>?_
 exact ⟨rfl,o.sub⟩
theorem Gi1 (i:Int):Ct A9 A76 [int i] [] fun v own=>v=.agg ⟨Ac8 ⟨3,i⟩⟩∧own []:=by
 refine Ct.of Gy4 rfl fun h r=>Tr.eq (Gt1 ..) ?_;refine Je ?_
 (refine Ja ?_;intros)
 refine Ys fun o=>?_
 exact ⟨rfl,o.sub⟩
theorem A32 (c k:Nat) (F:Fr) (X:CX) (ok:FrOk F) (i:Int):Ct A9 J9 [P0 c,int i] [cmC c k F X] fun v own=>v=.tuple ⟨[.agg ⟨E0 (Eo8 X i).1.1⟩,int (Eo8 X i).1.2]⟩∧own [cmC c k F (Eo8 X i).2]:=by
 refine Ct.of D82 rfl fun h r=>Tr.eq (D91 ..) ?_;refine Je ?_
 (refine Ja ?_;intros)
 refine Yc (Gf3 i) ?_;rintro _ h ⟨rfl,o⟩<;>(refine Jf o ?_;intros)
 refine Yc (I11 c k F X ⟨1,i⟩ ok rfl) ?_;rintro _ h ⟨rfl,o⟩<;>(refine Jf o ?_;intros)
 refine Ys fun o=>?_
 exact ⟨rfl,o.sub⟩
theorem Dx3 (c k:Nat) (F:Fr) (X:CX) (ok:FrOk F) (i:Int):Ct A9 N5 [P0 c,int i] [cmC c k F X] fun v own=>v=.tuple ⟨[.agg ⟨Aj8 (Eo7 X i).1.1⟩,int (Eo7 X i).1.2]⟩∧own [cmC c k F (Eo7 X i).2]:=by
 refine Ct.of Ea3 rfl fun h r=>Tr.eq (D81 ..) ?_;refine Je ?_
 (refine Ja ?_;intros)
 refine Yc (Gg3 i) ?_;rintro _ h ⟨rfl,o⟩<;>(refine Jf o ?_;intros)
 refine Yc (Iy5 c k F X ⟨2,i⟩ ok rfl) ?_;rintro _ h ⟨rfl,o⟩<;>(refine Jf o ?_;intros)
 refine Ys fun o=>?_
 exact ⟨rfl,o.sub⟩
theorem Gk5 (c k:Nat) (F:Fr) (X:CX) (ok:FrOk F) (i:Int):Ct A9 V4 [P0 c,int i] [cmC c k F X] fun v own=>v=.tuple ⟨[.agg ⟨G1 (En4 X i).1.1⟩,int (En4 X i).1.2]⟩∧own [cmC c k F (En4 X i).2]:=by
 refine Ct.of D73 rfl fun h r=>Tr.eq (D74 ..) ?_;refine Je ?_
 (refine Ja ?_;intros)
 refine Yc (Gi1 i) ?_;rintro _ h ⟨rfl,o⟩<;>(refine Jf o ?_;intros)
 refine Yc (Hy5 c k F X ⟨3,i⟩ ok rfl) ?_;rintro _ h ⟨rfl,o⟩<;>(refine Jf o ?_;intros)
 refine Ys fun o=>?_
 exact ⟨rfl,o.sub⟩
theorem It9 (c k:Nat) (F:Fr) (X:CX) (ok:FrOk F):Ct A9 Ad0 [P0 c] [cmC c k F X] fun v own=>v=.tuple ⟨[.agg ⟨G1 (E48 X).1.1⟩,int (E48 X).1.2]⟩∧own [cmC c k F (E48 X).2]:=by
 refine Ct.of D89 rfl fun h r=>Tr.eq (D96 ..) ?_;refine Je ?_
 (refine Ja ?_;intros)
 refine Yc (Hy5 c k F X ⟨4,0⟩ ok rfl) ?_;rintro _ h ⟨rfl,o⟩<;>(refine Jf o ?_;intros)
 refine Ys fun o=>?_
 exact ⟨rfl,o.sub⟩
theorem Ii6 (c k:Nat) (F:Fr) (X:CX) (ok:FrOk F):Ct A9 Ak0 [P0 c] [cmC c k F X] fun v own=>v=.tuple ⟨[int (Eu8 X).1.1,.bool ((Eu8 X).1.2==1)]⟩∧own [cmC c k F (Eu8 X).2]:=by
 refine Ct.of D10 rfl fun h r=>Tr.eq (D05 ..) ?_;refine Je ?_
 (refine Ja ?_;intros)
 refine Yc (Iz8 c k F X ⟨5,0⟩ ok rfl) ?_;rintro _ h ⟨rfl,o⟩<;>(refine Jf o ?_;intros)
 refine Ys fun o=>?_
 exact ⟨rfl,o.sub⟩
theorem Dt5 (f:FileS):(Al4 f).length=8:=rfl
theorem D80 (c k:Nat) (F:Fr) (X:CX) (ok:FrOk F) (i:Int) (p:ProcS):Ct A9 Q2 [P0 c,int i,.agg ⟨E0 p⟩] [cmC c k F X] fun v own=>v=.bool (A37 X i p).1∧own [cmC c k F (A37 X i p).2]:=by
 refine Ct.of Dr5 rfl fun h r=>Tr.eq (Dr0 ..) ?_;refine Je ?_
 (refine Ja ?_;intros)
 refine Yc (Gp3 p) ?_
 rintro v h (⟨hk,a,rfl,o⟩|⟨hk,rfl,o⟩)
 ·refine (?_:Tr _ _ _ _) o
  refine Je ?_
  (refine Ja ?_;intros)
  refine Yc (Gf3 i) ?_;rintro _ h ⟨rfl,o⟩<;>(refine Jf o ?_;intros)
  have J:=D29 c k F X ⟨1,i⟩ ok (Ay4 p) true a 24 (fun _=>Ej0 p)
  rw [Ej0] at J
  refine Yc (J) ?_;rintro _ h ⟨rfl,o⟩<;>(refine Jf o ?_;intros)
  refine Ys fun o=>?_
  unfold A37;rw [hk]
  exact ⟨rfl,o.sub⟩
 ·refine (?_:Tr _ _ _ _) o
  refine Je ?_
  (refine Ja ?_;intros)
  refine Yc (Gf3 i) ?_;rintro _ h ⟨rfl,o⟩<;>(refine Jf o ?_;intros)
  refine Yc (Ej8 c k F X ⟨1,i⟩ ok) ?_;rintro _ h ⟨rfl,o⟩<;>(refine Jf o ?_;intros)
  refine Ys fun o=>?_
  unfold A37;rw [hk,Gn6]
  exact ⟨rfl,o.sub⟩
theorem D77 (c k:Nat) (F:Fr) (X:CX) (ok:FrOk F) (i:Int) (p:FileS):Ct A9 Q3 [P0 c,int i,.agg ⟨Aj8 p⟩] [cmC c k F X] fun v own=>v=.bool (Bn0 X i p).1∧own [cmC c k F (Bn0 X i p).2]:=by
 refine Ct.of Dp1 rfl fun h r=>Tr.eq (Dp7 ..) ?_;refine Je ?_
 (refine Ja ?_;intros)
 refine Yc (Gr9 p) ?_
 rintro v h (⟨hk,a,rfl,o⟩|⟨hk,rfl,o⟩)
 ·refine (?_:Tr _ _ _ _) o
  refine Je ?_
  (refine Ja ?_;intros)
  refine Yc (Gg3 i) ?_;rintro _ h ⟨rfl,o⟩<;>(refine Jf o ?_;intros)
  have J:=D29 c k F X ⟨2,i⟩ ok (Al4 p) true a 8 (fun _=>Dt5 p)
  rw [Dt5] at J
  refine Yc (J) ?_;rintro _ h ⟨rfl,o⟩<;>(refine Jf o ?_;intros)
  refine Ys fun o=>?_
  unfold Bn0;rw [hk]
  exact ⟨rfl,o.sub⟩
 ·refine (?_:Tr _ _ _ _) o
  refine Je ?_
  (refine Ja ?_;intros)
  refine Yc (Gg3 i) ?_;rintro _ h ⟨rfl,o⟩<;>(refine Jf o ?_;intros)
  refine Yc (Ej8 c k F X ⟨2,i⟩ ok) ?_;rintro _ h ⟨rfl,o⟩<;>(refine Jf o ?_;intros)
  refine Ys fun o=>?_
  unfold Bn0;rw [hk,Gn6]
  exact ⟨rfl,o.sub⟩
theorem Gc5 (c k:Nat) (F:Fr) (X:CX) (ok:FrOk F) (i:Int) (p:PipeS):Ct A9 W1 [P0 c,int i,.agg ⟨G1 p⟩] [cmC c k F X] fun v own=>v=.bool (Bc2 X i p).1∧own [cmC c k F (Bc2 X i p).2]:=by
 refine Ct.of Dr3 rfl fun h r=>Tr.eq (Dp2 ..) ?_;refine Je ?_
 (refine Ja ?_;intros)
 refine Yc (Gl6 p) ?_
 rintro v h (⟨hk,a,rfl,o⟩|⟨hk,rfl,o⟩)
 ·refine (?_:Tr _ _ _ _) o
  refine Je ?_
  (refine Ja ?_;intros)
  refine Yc (Gi1 i) ?_;rintro _ h ⟨rfl,o⟩<;>(refine Jf o ?_;intros)
  have J:=D29 c k F X ⟨3,i⟩ ok (M7 p) true a 40 (fun _=>Bm7 p.len)
  rw [Bm7 p.len] at J
  refine Yc (J) ?_;rintro _ h ⟨rfl,o⟩<;>(refine Jf o ?_;intros)
  refine Ys fun o=>?_
  unfold Bc2;rw [hk]
  exact ⟨rfl,o.sub⟩
 ·refine (?_:Tr _ _ _ _) o
  refine Je ?_
  (refine Ja ?_;intros)
  refine Yc (Gi1 i) ?_;rintro _ h ⟨rfl,o⟩<;>(refine Jf o ?_;intros)
  refine Yc (Ej8 c k F X ⟨3,i⟩ ok) ?_;rintro _ h ⟨rfl,o⟩<;>(refine Jf o ?_;intros)
  refine Ys fun o=>?_
  unfold Bc2;rw [hk,Gn6]
  exact ⟨rfl,o.sub⟩
def Dq4 (f:CX→Int→CX):Nat→Int→CX→CX
 | 0,_,X=>X
 | m+1,i,X=>Dq4 f m (i+1) (f X i)
def Gs8 (X:CX):CX:=(Eu8 (E48 X).2).2
def He5 (nc:Nat) (X:CX):CX:=Gs8 (Dq4 (fun X i=>(En4 X i).2) (3+nc) 0 X)
def Hj0 (nc:Nat) (X:CX):CX:=He5 nc (Dq4 (fun X i=>(Eo7 X i).2) 12 0 X)
def lookN (nc:Nat) (X:CX):CX:=Hj0 nc (Dq4 (fun X i=>(Eo8 X i).2) 8 0 X)
def Gr3 (X:CX):CX:=lookN X.m.length X
theorem Ia4 (c k:Nat) (F:Fr) (ok:FrOk F):∀ (m:Nat) (i:Int) (X:CX),0≤i→i+m=3+F.caps.length →
  CtJ I2 D1 Af6 [(0,P0 c),(20,int (3+F.caps.length)),(21,int i)] [cmC c k F X] fun v own=>v=.tuple ⟨[]⟩∧own [cmC c k F (Gs8 (Dq4 (fun X i=>(En4 X i).2) m i X))]:=by
 have hs:=ok.small
 intro m
 induction m with
 | zero =>
  intro i X h0 hi
  refine CtJ.of P7 fun h r=>Tr.eq (Bj2 ..) ?_;refine Je ?_
  refine Yf (by simp;omega) ?_
  refine Yc (It9 c k F X ok) ?_;rintro _ h ⟨rfl,o⟩<;>(refine Jf o ?_;intros)
  refine Yc (Ii6 c k F (E48 X).2 ok) ?_;rintro _ h ⟨rfl,o⟩<;>(refine Jf o ?_;intros)
  refine Ys fun o=>?_
  exact ⟨rfl,o⟩
 | succ m ih =>
  intro i X h0 hi
  have e1:=wI i
  refine CtJ.of P7 fun h r=>Tr.eq (Bj2 ..) ?_;refine Je ?_
  refine Yt (by simp;omega) ?_
  refine Yc (Gk5 c k F X ok i) ?_;rintro _ h ⟨rfl,o⟩<;>(refine Jf o ?_;intros)
  rw [e1]
  refine Yr (ih (i+1) (En4 X i).2 (by omega) (by omega)) ?_
  rintro _ h ⟨rfl,o⟩
  exact ⟨rfl,o⟩
theorem H45 (c k:Nat) (F:Fr) (ok:FrOk F):∀ (m:Nat) (i:Int) (X:CX),0≤i→i+m=12 →
  CtJ I2 D1 Ag0 [(0,P0 c),(12,int i)] [cmC c k F X] fun v own=>v=.tuple ⟨[]⟩∧own [cmC c k F (He5 F.caps.length (Dq4 (fun X i=>(Eo7 X i).2) m i X))]:=by
 have hs:=ok.small
 intro m
 induction m with
 | zero =>
  intro i X h0 hi
  refine CtJ.of P7 fun h r=>Tr.eq (Bi0 ..) ?_;refine Je ?_
  refine Yf (by simp;omega) ?_
  refine B4 (cmC c k F X) fun u=>?_;refine Je ?_
  refine Tr.pcall (Hj8 c k F.env F.caps X.bad 3 ok.small) ?_;refine Je ?_;(refine Ja ?_;intros)
  refine B0 (cmC c k F X) () ?_;refine Je ?_
  refine Yr (Ia4 c k F ok (3+F.caps.length) 0 X (by omega) (by omega)) ?_
  rintro _ h ⟨rfl,o⟩
  exact ⟨rfl,o⟩
 | succ m ih =>
  intro i X h0 hi
  have e1:=wI i
  refine CtJ.of P7 fun h r=>Tr.eq (Bi0 ..) ?_;refine Je ?_
  refine Yt (by simp;omega) ?_
  refine Yc (Dx3 c k F X ok i) ?_;rintro _ h ⟨rfl,o⟩<;>(refine Jf o ?_;intros)
  rw [e1]
  refine Yr (ih (i+1) (Eo7 X i).2 (by omega) (by omega)) ?_
  rintro _ h ⟨rfl,o⟩
  exact ⟨rfl,o⟩
theorem H77 (c k:Nat) (F:Fr) (ok:FrOk F):∀ (m:Nat) (i:Int) (X:CX),0≤i→i+m=8 →
  CtJ I2 D1 Ag1 [(0,P0 c),(5,int i)] [cmC c k F X] fun v own=>v=.tuple ⟨[]⟩∧own [cmC c k F (Hj0 F.caps.length (Dq4 (fun X i=>(Eo8 X i).2) m i X))]:=by
 intro m
 induction m with
 | zero =>
  intro i X h0 hi
  refine CtJ.of P7 fun h r=>Tr.eq (Bj8 ..) ?_;refine Je ?_
  refine Yf (by simp;omega) ?_
  refine Yr (H45 c k F ok 12 0 X (by omega) (by omega)) ?_
  rintro _ h ⟨rfl,o⟩
  exact ⟨rfl,o⟩
 | succ m ih =>
  intro i X h0 hi
  have e1:=wI i
  refine CtJ.of P7 fun h r=>Tr.eq (Bj8 ..) ?_;refine Je ?_
  refine Yt (by simp;omega) ?_
  refine Yc (A32 c k F X ok i) ?_;rintro _ h ⟨rfl,o⟩<;>(refine Jf o ?_;intros)
  rw [e1]
  refine Yr (ih (i+1) (Eo8 X i).2 (by omega) (by omega)) ?_
  rintro _ h ⟨rfl,o⟩
  exact ⟨rfl,o⟩
theorem Bg5 (c k:Nat) (F:Fr) (X:CX) (ok:FrOk F):Ct A9 D1 [P0 c] [cmC c k F X] fun v own=>v=.tuple ⟨[]⟩∧own [cmC c k F (Gr3 X)]:=by
 refine Ct.of P7 rfl fun h r=>Tr.eq (D69 ..) ?_;refine Je ?_
 intro o
 obtain ⟨u,o1⟩:=Own.unfold (cmC c k F X) o
 have f:=(Own.front o1 (i:=2) rfl).pure
 have e:Gr3 X=lookN F.caps.length X:=by unfold Gr3;rw [f.mlen ok]
 rw [e]
 refine (?_:Tr _ _ _ _) o
 refine Yr (H77 c k F ok 8 0 X (by omega) (by omega)) ?_
 rintro _ h ⟨rfl,o⟩
 exact ⟨rfl,o⟩
end Go.EQ
