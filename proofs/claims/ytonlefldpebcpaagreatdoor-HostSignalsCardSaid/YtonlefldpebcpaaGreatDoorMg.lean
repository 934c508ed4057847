/- A blocked call ends when a signal that is caught comes, and tells so; one that ends the process ends it with that code; one that is ignored, or kept off, does nothing. -/
import Derived.Test.YtonlefldpebcpaaGreatDoorMf
set_option linter.all false
set_option maxRecDepth 10000
namespace Go.EQ
open Go Go.NN
theorem Aa9 (l:List UInt8):(A0 l).length=l.length:=by simp [A0]
theorem Ez5 {l:List UInt8} {i:Nat} {x:UInt8} (h:l[i]?=some x):(A0 l)[i]?=some (.int .u8 x.toNat):=by
 unfold A0;rw [List.getElem?_map,h];rfl
theorem Jz7 (l:List UInt8) (x:Nat):(A0 l).take x=A0 (l.take x):=by unfold A0;rw [List.map_take]
theorem J77 (l m:List UInt8):A0 (l++m)=A0 l++A0 m:=by simp [A0]
def E83 (n:Int) (l:List UInt8):Int:=l.foldl (fun n c=>IntKind.wrap .u8 (n+c.toNat)) n
def Hj5 (l:List UInt8):Int:=E83 (IntKind.wrap .u8 l.length) l
theorem Jd8 (p:HP) (a:Option Addr) (ro:Bool) (n c d:Nat) (l:List UInt8) [ks:IsSl p a ro A9 1 n c (A0 l)] (x:Nat) (hx:x≤l.length) (hl:l.length≤B3):∀ (m i:Nat) (acc:Int),x-i=m→i≤x →
  Ab5 H0 Ag9 B05 [(3,.int .u8 acc),(9,.slice a x d),(10,int x),(11,int i)] [p] (.int .u8 (E83 acc ((l.take x).drop i))):=by
 intro m
 induction m with
 | zero =>
  intro i acc hm hi;refine Ab5.of Ev4 fun h r=>Tr.eq (Ey4 ..) ?_;refine Je ?_;refine Yf (by simp;omega) ?_;refine Ys fun o=>?_;rw [List.drop_eq_nil_of_le (by simp;omega)];exact ⟨rfl,rfl⟩
 | succ m ih =>
  intro i acc hm hi;have hlt:i<(l.take x).length:=by rw [List.length_take];omega
  have hp:l[i]?=some (l.take x)[i]:=by
   rw [List.getElem_take];exact List.getElem?_eq_getElem (by omega)
  have hd:(l.take x).drop i=(l.take x)[i]::(l.take x).drop (i+1):=List.drop_eq_getElem_cons hlt;generalize (l.take x)[i]=y at hp hd;have e1:IntKind.wrap .i64 ((i:Int)+1)=((i+1:Nat):Int):=by rw [B8];simp only [B3] at hl;omega
  refine Ab5.of Ev4 fun h r=>Tr.eq (Ey4 ..) ?_;refine Je ?_;refine Yt (by simp;omega) ?_;refine S4 0 rfl fun h1 h2 h3=>?_;rw [Aa9] at h1;(refine Ja ?_;intros;repeat(refine Gw ?_;rintro px rfl;refine Ja ?_;intros));refine Tr.xIntS (v:=y.toNat) (by simpa using Ez5 hp) ?_;rw [e1,hd];exact Af1 (ih (i+1) _ (by omega) (by omega)) (r:=r) (by simp) fun o=>⟨rfl,rfl⟩
theorem Hg0 (p:HP) (a:Option Addr) (ro:Bool) (n c d:Nat) (l:List UInt8) [ks:IsSl p a ro A9 1 n c (A0 l)] (x:Nat) (hx:x≤l.length) (hl:l.length≤B3) :
  CtP B0 Ag9 [.slice a x d] [p] (.int .u8 (Hj5 (l.take x))):=by
 refine CtP.of Ev4 rfl fun h r=>Tr.eq (Il4 ..) ?_;refine Je ?_;have e:(l.take x).length=x:=by rw [List.length_take];omega
 have J:=Jd8 p a ro n c d l x hx hl _ 0 (IntKind.wrap .u8 x) rfl (by omega);rw [List.drop_zero] at J;refine Af1 J (r:=r) (by simp) fun o=>⟨?_,rfl⟩
 unfold Hj5;rw [e]
def En2:Nat→List UInt8→Int
 | _,[]=>-1
 | i,x::l=>if x≠0 then i else En2 (i+1) l
theorem Hs8:∀ (l:List UInt8) (i:Nat),decide (En2 i l≥0)=!l.all (·==0)
 | [],i=>by simp [En2]
 | x::l,i=>by
  unfold En2;by_cases h:x=0
  ·rw [if_neg (by simp [h]),Hs8 l (i+1)];simp [h]
  ·rw [if_pos h];simp [h]
theorem J92 (x:UInt8):CtP B0 Al9 [.int .u8 x.toNat] [] (.bool (x != 0)):=by
 refine CtP.of Hf2 rfl fun h r=>Tr.eq (Hi3 ..) ?_;refine Je ?_;refine Ys fun o=>?_;refine ⟨?_,rfl⟩
 congr 1
 have:((x.toNat:Int)=0)↔x=0:=by
  constructor
  ·intro h;exact UInt8.toNat.inj (by simpa using (show x.toNat=0 by omega))
  ·rintro rfl;rfl
 by_cases h:x=0
 ·subst h;rfl
 ·rw [bne_iff_ne.2 h,bne_iff_ne];intro h2;exact h (this.1 h2)
theorem G30 (p:HP) (a:Option Addr) (ro:Bool) (c:Nat) (l:List UInt8) [ks:IsSl p a ro A9 1 l.length c (A0 l)] (hl:l.length≤B3):∀ (m i:Nat),l.length-i=m→i≤l.length →
  Ab5 H0 I7 Y0 [(0,.slice a l.length c),(1,.func (.func Al9) ⟨[]⟩ ⟨[]⟩),(7,int l.length),(8,int i)] [p] (int (En2 i (l.drop i))):=by
 intro m
 induction m with
 | zero =>
  intro i hm hi;refine Ab5.of Al7 fun h r=>Tr.eq (A07 ..) ?_;refine Je ?_;refine Yf (by simp;omega) ?_;refine Ys fun o=>?_;rw [List.drop_eq_nil_of_le (by omega)];exact ⟨rfl,rfl⟩
 | succ m ih =>
  intro i hm hi;have hlt:i<l.length:=by omega
  have hp:l[i]?=some l[i]:=List.getElem?_eq_getElem hlt;have hd:l.drop i=l[i]::l.drop (i+1):=List.drop_eq_getElem_cons hlt;generalize l[i]=x at hp hd;have e1:IntKind.wrap .i64 ((i:Int)+1)=((i+1:Nat):Int):=by rw [B8];simp only [B3] at hl;omega
  refine Ab5.of Al7 fun h r=>Tr.eq (A07 ..) ?_;refine Je ?_;refine Yt (by simp;omega) ?_;(refine Ja ?_;intros;repeat(refine Gw ?_;rintro px rfl;refine Ja ?_;intros));refine Tr.xIntS (v:=x.toNat) (by simpa using Ez5 hp) ?_;refine Ja ?_;intros;refine Dd2 (J92 x) (r:=p::r) (by simp) ?_;by_cases hx:x=0
  ·have:(x != 0)=false:=by simp [hx]
   rw [this];refine Ja ?_;intros;rw [e1];refine Af1 (ih (i+1) (by omega) (by omega)) (r:=r) (by simp) fun o=>?_;rw [hd,En2,if_neg (by simp [hx])];exact ⟨by first|rfl|trivial,by first|rfl|trivial⟩
  ·have:(x != 0)=true:=by simp [hx]
   rw [this];refine Ja ?_;intros;refine Ys fun o=>?_;rw [hd,En2,if_pos hx];exact ⟨by first|rfl|trivial,by first|rfl|trivial⟩
theorem Jj9 (p:HP) (a:Option Addr) (ro:Bool) (c:Nat) (l:List UInt8) [ks:IsSl p a ro A9 1 l.length c (A0 l)] (hl:l.length≤B3) :
  CtP B0 Au2 [.slice a l.length c] [p] (.bool (l.all (·==0))):=by
 have j:CtP B0 I7 [.slice a l.length c,.func (.func Al9) ⟨[]⟩ ⟨[]⟩] [p] (int (En2 0 l)):=by
  refine CtP.of Al7 rfl fun h r=>Tr.eq (Df3 ..) ?_;refine Je ?_;exact Af1 (G30 p a ro c l hl _ 0 rfl (by omega)) (r:=r) (by simp) fun o=>⟨rfl,rfl⟩
 have j2:CtP B0 W7 [.slice a l.length c,.func (.func Al9) ⟨[]⟩ ⟨[]⟩] [p] (.bool (!l.all (·==0))):=by
  refine CtP.of B44 rfl fun h r=>Tr.eq (B61 ..) ?_;refine Je ?_;refine Dd2 j (r:=r) (by simp) ?_;refine Ja ?_;intros;refine Ys fun o=>?_;rw [Hs8];exact ⟨by first|rfl|trivial,by first|rfl|trivial⟩
 refine CtP.of Hz3 rfl fun h r=>Tr.eq (Hv4 ..) ?_;refine Je ?_;refine Dd2 j2 (r:=r) (by simp) ?_;refine Ja ?_;intros;refine Ys fun o=>?_;exact ⟨by simp,rfl⟩
theorem Ia7 (p q:HP) (a:Option Addr) (ro:Bool) (c:Nat) (a2:Option Addr) (ro2:Bool) (c2:Nat) (l m:List UInt8) [ks:IsSl p a ro A9 1 l.length c (A0 l)] [ks2:IsSl q a2 ro2 A9 1 m.length c2 (A0 m)] (hl:l.length≤B3) (hlm:m.length=l.length):∀ (k i:Nat),l.length-i=k→i≤l.length →
  Ab5 H0 D6 Ac2 [(0,.slice a l.length c),(1,.slice a2 m.length c2),(12,int l.length),(13,int i)] [p,q] (.bool (decide (l.drop i=m.drop i))):=by
 intro k
 induction k with
 | zero =>
  intro i hm hi;refine Ab5.of Av2 fun h r=>Tr.eq (Bc6 ..) ?_;refine Je ?_;refine Yf (by simp;omega) ?_;refine Ys fun o=>?_;rw [List.drop_eq_nil_of_le (by omega),List.drop_eq_nil_of_le (by omega)];exact ⟨rfl,rfl⟩
 | succ k ih =>
  intro i hm hi;have hlt:i<l.length:=by omega
  have hp:l[i]?=some l[i]:=List.getElem?_eq_getElem hlt;have hd:l.drop i=l[i]::l.drop (i+1):=List.drop_eq_getElem_cons hlt;have hlt2:i<m.length:=by omega
  have hp2:m[i]?=some m[i]:=List.getElem?_eq_getElem hlt2;have hd2:m.drop i=m[i]::m.drop (i+1):=List.drop_eq_getElem_cons hlt2;generalize l[i]=x at hp hd;generalize m[i]=y at hp2 hd2;have e1:IntKind.wrap .i64 ((i:Int)+1)=((i+1:Nat):Int):=by rw [B8];simp only [B3] at hl;omega
  refine Ab5.of Av2 fun h r=>Tr.eq (Bc6 ..) ?_;refine Je ?_;refine Yt (by simp;omega) ?_;(refine Ja ?_;intros;repeat(refine Gw ?_;rintro px rfl;refine Ja ?_;intros));refine Tr.xIntS (v:=x.toNat) (by simpa using Ez5 hp) ?_;(refine Ja ?_;intros;repeat(refine Gw ?_;rintro px rfl;refine Ja ?_;intros));refine Tr.xIntS (v:=y.toNat) (by simpa using Ez5 hp2) ?_;by_cases hx:x=y
  ·subst hx;refine Yf (by simp) ?_;rw [e1];refine Af1 (ih (i+1) (by omega) (by omega)) (r:=r) (by simp) fun o=>?_;rw [hd,hd2];exact ⟨by simp,rfl⟩
  ·refine Yt (by rw [bne_iff_ne];intro h2;exact hx (UInt8.toNat.inj (by omega))) ?_;refine Ys fun o=>?_;rw [hd,hd2];exact ⟨by simp [hx],rfl⟩
theorem Gn5 (p q:HP) (a:Option Addr) (ro:Bool) (c:Nat) (a2:Option Addr) (ro2:Bool) (c2:Nat) (l m:List UInt8) [ks:IsSl p a ro A9 1 l.length c (A0 l)] [ks2:IsSl q a2 ro2 A9 1 m.length c2 (A0 m)] (hl:l.length≤B3) :
  CtP B0 D6 [.slice a l.length c,.slice a2 m.length c2] [p,q] (.bool (decide (l=m))):=by
 refine CtP.of Av2 rfl fun h r=>Tr.eq (Dz3 ..) ?_;refine Je ?_;by_cases h:m.length=l.length
 ·refine Yf (by simp [h]) ?_;have J:=Ia7 p q a ro c a2 ro2 c2 l m hl h _ 0 rfl (by omega);simp only [List.drop_zero] at J;exact Af1 J (r:=r) (by simp) fun o=>⟨rfl,rfl⟩
 ·refine Yt (by rw [bne_iff_ne];omega) ?_;refine Ys fun o=>?_;exact ⟨by rw [decide_eq_false (fun e=>h (by rw [e]))],rfl⟩
theorem Hp4 (p:HP) (ro:Bool) (a:Option Addr) (c:Nat) (l:List UInt8) [ks:IsSl p a ro A9 1 l.length c (A0 l)] (hn:l.length≤B3) :
  Ct B0 I1 [.slice a l.length c] [p] fun v own=>∃ a' c',v=.slice a' l.length c'∧own [slC false A9 1 a' l.length c' (A0 l),p]:=by
 refine Co Bn2 (fun _=>Bn3 ..) fun h r=>?_;refine S4 0 rfl fun hl hc _=>?_;refine Tr.cond (fun hb=>?_) fun hb=>?_
 ·obtain rfl:a=none:=by simpa using hb
  refine G0 false A9 1 (by omega) ?_;intro o;have o1:=(o.tail.head ks.en).slNone
  obtain rfl:l=[]:=by
   have:=o1.2.2.1
   cases l with
   | nil=>rfl
   | cons x l=>simp [A0] at this
  obtain rfl:c=0:=o1.2.1;exact ⟨_,_,rfl,none,0,rfl,o⟩
 ·refine Ja ?_;intros;refine Ag4 0 rfl 1 0 rfl (by omega) ?_;refine Je ?_;refine Ja ?_;intros;refine Tr.xApd ⟨by simp [A0],by simp [A0,Value.oneCell],by omega⟩ fun a' c' h'=>?_;refine Je ?_;refine Ys fun o=>⟨a',c',by simp,by simpa using o⟩
end Go.EQ
namespace Go.NN
section
variable {l:List HP} {h:H} {α:Type} {Q:α→H→Prop} {ro:Bool} {e:TypeId} {cs:List Value}
instance {f:Fn} {a c:Array Value} {k:Option α}:Dx (one (.func f a c) k) k:=⟨rfl⟩
theorem Tr.xPCells {a:Option Addr} {n c sz:Nat} {vs cs':List Value} {l':List HP} {k:H→Option (α × H)} [k1:LkO l a false e sz n c cs] (hn:0<n) (hj:vs≠[]∧vs.length≤cs.length∧vs.all Value.oneCell=true∧vs++cs.drop vs.length=cs') [k2:UpO l a (slC false e sz a n c cs') e sz n c cs l'] (t:∀ h',Tr l' h' (k h') Q):Tr l h (NN.pCells a vs h k) Q:=fun ow=>by
 obtain ⟨i,p,hi,hp⟩:=k1.ix;obtain ⟨y,rfl⟩:=((ow.front hi).head hp).slSome hn
 have:NN.pCells (Option.some y) vs h k=NN.pAgg ((B4 y).add 0) vs h k:=by
  show NN.pAgg (B4 y) vs h k=_
  congr 1
 rw [this];exact Tr.xPAggS (k1:=k1) ⟨hj.1,by omega,hj.2.2.1,by simpa using hj.2.2.2⟩ (k2:=k2) t ow
end
end Go.NN

set_option maxRecDepth 10000
namespace Go.EQ
open Go Go.NN
def b8 (x:Int):UInt8:=UInt8.ofNat (x%256).toNat
theorem D51 (x:Int):IntKind.wrap .u8 x=x%256:=Jq8 x
theorem Bx0 (x:Int):IntKind.wrap .u8 x=((b8 x).toNat:Int):=by
 rw [D51,b8,UInt8.toNat_ofNat'];omega
def B79 (l:List UInt8):UInt8:=b8 (Hj5 l)
theorem H96:∀ (l:List UInt8) (n:Int),0≤n∧n<256→0≤E83 n l∧E83 n l<256
 | [],n,h=>h
 | x::l,n,h=>H96 l _ (by show 0≤IntKind.wrap .u8 (n+x.toNat)∧IntKind.wrap .u8 (n+x.toNat)<256;rw [D51];omega)
theorem Eg2 (l:List UInt8):Hj5 l=((B79 l).toNat:Int):=by
 have:=H96 l (IntKind.wrap .u8 l.length) (by rw [D51];omega);unfold B79;rw [← Bx0,D51];unfold Hj5 at *;omega
structure FileS where
 kind:Int
 pipe:Int
 refs:Int
 flags:Int
abbrev FileS.zero:FileS:=⟨0,0,0,0⟩
abbrev Am5 (f:FileS):List Value:=[int f.kind,int f.pipe,int f.refs,int f.flags]
def okF (f:FileS):Bool:=decide (f.kind≥1) && decide (f.kind≤3) && decide (f.pipe≥0) && decide (f.pipe≤7) && (f.kind != 3 || f.pipe==0) && decide (f.refs≥1) && decide (f.refs≤64) && (f.flags==0 || f.flags==1)
def Bm2 (f:FileS):List UInt8:=[b8 f.kind,b8 f.pipe,b8 f.refs,b8 f.flags,179]
def Ap7 (f:FileS):List UInt8:=Bm2 f++[B79 (Bm2 f),0,0]
theorem J68 (f:FileS):Ct B0 D67 [.agg ⟨Am5 f⟩] [] fun v own=>v=.bool (okF f)∧own []:=by
 refine Co I35 (fun _=>I52 ..) fun h r=>?_;refine Ja ?_;intros;refine Ys fun o=>?_;refine ⟨?_,o.sub⟩
 rfl
theorem Jx1 (a:Option Addr) (c:Nat) (f:FileS):Ct B0 Az7 [.agg ⟨Am5 f⟩,.slice a 8 c] [slC false A9 1 a 8 c (A0 (List.replicate 8 0))] fun v own=>v=.bool (okF f)∧own [slC false A9 1 a 8 c (A0 (if okF f then Ap7 f else List.replicate 8 0))]:=by
 refine Co Io4 (fun _=>Il0 ..) fun h r=>?_;refine Ja ?_;intros;refine Ye (J68 f) fun h=>?_;intros
 cases hk:okF f with
 | false =>
  refine Ja ?_;intros;refine Ys fun o=>?_;rw [if_neg (by simp)];exact ⟨rfl,o.sub⟩
 | true =>
  refine Ja ?_;intros;simp only [Bx0,List.drop_zero,List.take];refine S4 2 rfl fun hl hc _=>?_;refine Tr.xPCells (cs':=A0 (Bm2 f++[0,0,0])) (by omega) ⟨by simp,by simp [A0],by simp [Value.oneCell],rfl⟩ fun h=>?_;refine Ja ?_;intros;refine Tr.pcall (Hg0 (slC false A9 1 a 8 c (A0 (Bm2 f++[0,0,0]))) a false 8 c c (Bm2 f++[0,0,0]) 5 (by simp [Bm2]) (by simp [Bm2,B3])) ?_;refine Je ?_;(refine Ja ?_;intros;repeat(refine Gw ?_;rintro px rfl;refine Ja ?_;intros));rw [show List.take 5 (Bm2 f++[0,0,0]:List UInt8)=Bm2 f from rfl,Eg2];refine Tr.xVS (cs':=A0 (Ap7 f)) ⟨by simp [A0,Bm2],rfl,rfl⟩ fun h=>?_;refine Ys fun o=>?_;simp only [if_true];exact ⟨trivial,o.sub⟩
theorem El4 {l:List Value} (h:l.all (fun v=>match v with|.int _ _=>true|_=>false)=true):Ay9 (.agg ⟨l⟩) (.agg ⟨l⟩)=true:=by
 show B69 l l=true
 induction l with
 | nil=>rfl
 | cons v l ih =>
  simp only [List.all_cons,Bool.and_eq_true] at h;show (Bd7 v v && B69 l l)=true;rw [ih h.2,Bool.and_true]
  cases v<;>first|(simp [Bd7];done)|exact absurd h.1 (by simp)
abbrev Id4 (k:Nat):HP:=pt k (.cells Aq8 false [int 8,.func (.func Az7) ⟨[]⟩ ⟨[]⟩,.func (.func Az9) ⟨[]⟩ ⟨[]⟩])
theorem Il1 (k:Nat) (f:FileS):Ct B0 Ab9 [P0 k,.agg ⟨Am5 f⟩] [Id4 k] fun v own=>(okF f=true∧∃ a,v=.tuple ⟨[.slice a 8 8,.bool true]⟩∧own [Id4 k,slC false A9 1 a 8 8 (A0 (Ap7 f))])∨(okF f=false∧v=.tuple ⟨[.slice none 0 0,.bool false]⟩∧own [Id4 k]):=by
 refine Co Dm6 (fun _=>Dm9 ..) fun h r=>?_;refine Ja ?_;intros;refine Tr.ck ⟨by omega,by omega,by simp [B3]⟩ ?_;refine Yn fun b1 h=>?_;rw [show G9 (Int.toNat 8) [.int .u8 0]=A0 (List.replicate 8 0) from rfl];refine Ag4 0 rfl 1 8 rfl (by omega) ?_;simp only [List.set_cons_zero];refine Je ?_;refine Jb ?_;intros;refine Yb (Yf rfl ?_);refine Jb ?_;intros;refine Yc (Jx1 (some ⟨b1,0,none⟩) 8 f) ?_;rintro _ h ⟨rfl,o⟩<;>(refine Jg o ?_;intros);refine Yv ?_
 cases hk:okF f with
 | false =>
  refine Ja ?_;intros;refine Ys fun o=>?_;exact .inr ⟨rfl,rfl,o.sub⟩
 | true =>
  refine Ja ?_;intros;refine Ys fun o=>?_;simp only [if_true] at o;exact .inl ⟨rfl,_,rfl,o.sub⟩
theorem Jz9:Ct B0 Aw5 [int 8,.func (.func Az7) ⟨[]⟩ ⟨[]⟩,.func (.func Az9) ⟨[]⟩ ⟨[]⟩] [] fun v own=>∃ k,v=P0 k∧own [pt k (.cells Aq8 false [int 8,.func (.func Az7) ⟨[]⟩ ⟨[]⟩,.func (.func Az9) ⟨[]⟩ ⟨[]⟩])]:=by
 refine Co E78 (fun _=>E09 ..) fun h r=>?_;rw [show mm2 false (mm2 true 8 0) 64=8 from rfl];refine Ja ?_;intros;refine Ys fun o=>?_;exact ⟨_,rfl,o.sub⟩
theorem Hp7:Ct B0 Bp0 [] [] fun v own=>∃ k,v=P0 k∧own [pt k (.cells Aq8 false [int 8,.func (.func Az7) ⟨[]⟩ ⟨[]⟩,.func (.func Az9) ⟨[]⟩ ⟨[]⟩])]:=by
 refine Co Hz2 (fun _=>Hv5 ..) fun h r=>?_;refine Yc (Jz9) ?_;rintro _ h ⟨k,rfl,o⟩<;>(refine Jf o ?_;intros);refine Ys fun o=>?_;exact ⟨_,rfl,o.sub⟩
theorem Hf7 (f:FileS):Ct B0 Bg8 [.agg ⟨Am5 f⟩] [] fun v own=>(okF f=true∧∃ a,v=.tuple ⟨[.slice a 8 8,.bool true]⟩∧own [slC false A9 1 a 8 8 (A0 (Ap7 f))])∨(okF f=false∧v=.tuple ⟨[.slice none 0 0,.bool false]⟩∧own []):=by
 refine Co Ho6 (fun _=>Hl6 ..) fun h r=>?_;refine Ja ?_;intros;refine Yc (Hp7) ?_;rintro _ h ⟨k,rfl,o⟩<;>(refine Jf o ?_;intros);refine Tr.same (El4 rfl) ?_;refine Yc (Il1 k f) ?_;rintro v h (⟨hk,a,rfl,o⟩|⟨hk,rfl,o⟩)
 ·refine (?_:Tr _ _ _ _) o;refine Je ?_;refine Ja ?_;intros;refine Ys fun o=>?_;exact .inl ⟨hk,a,rfl,o.sub⟩
 ·refine (?_:Tr _ _ _ _) o;refine Je ?_;refine Ja ?_;intros;refine Ys fun o=>?_;exact .inr ⟨hk,rfl,o.sub⟩
theorem Ai6 {l:List UInt8} {i:Nat} (h:i<l.length):(A0 l)[i]?=some (.int .u8 ((l.getD i 0).toNat:Int)):=by
 rw [List.getD_eq_getElem?_getD,List.getElem?_eq_getElem h];exact Ez5 (List.getElem?_eq_getElem h)
theorem Aw1 (x:UInt8):IntKind.wrap .i64 (x.toNat:Int)=(x.toNat:Int):=by
 have:=x.toNat_lt;rw [B8];omega
abbrev byI (l:List UInt8) (i:Nat):Int:=((l.getD i 0).toNat:Int)
def Ds3 (l:List UInt8):FileS:=⟨byI l 0,byI l 1,byI l 2,byI l 3⟩
def isF (l:List UInt8):Bool:=okF (Ds3 l) && decide (Ap7 (Ds3 l)=l)
theorem Jx0 (a:Option Addr) (c:Nat) (l:List UInt8) (hl:l.length=8):Ct B0 Az9 [.slice a 8 c] [slC false A9 1 a 8 c (A0 l)] fun v own=>v=.tuple ⟨[.agg ⟨Am5 (Ds3 l)⟩,.bool (isF l)]⟩∧own [slC false A9 1 a 8 c (A0 l)]:=by
 have key:∀ a1:Option Addr,CtP B0 D6 [.slice a1 8 8,.slice a 8 c] [slC false A9 1 a1 8 8 (A0 (Ap7 (Ds3 l))),slC false A9 1 a 8 c (A0 l)] (.bool (decide (Ap7 (Ds3 l)=l))):=fun a1=>by
  have J:=Gn5 (slC false A9 1 a1 8 8 (A0 (Ap7 (Ds3 l)))) (slC false A9 1 a l.length c (A0 l)) a1 false 8 a false c (Ap7 (Ds3 l)) l (by simp [Ap7,Bm2,B3])
  rwa [hl,show (Ap7 (Ds3 l)).length=8 from rfl] at J
 refine Co Iq1 (fun _=>In6 ..) fun h r=>?_;refine Yn fun b1 h=>?_;(refine Ja ?_;intros;repeat(refine Gw ?_;rintro px rfl;refine Ja ?_;intros));refine Tr.xIntS (v:=byI l 0) (Ai6 (by omega)) ?_;refine Ja ?_;intros;refine Tr.xIntS (v:=byI l 1) (Ai6 (by omega)) ?_;refine Ja ?_;intros;refine Tr.xIntS (v:=byI l 2) (Ai6 (by omega)) ?_;refine Ja ?_;intros;refine Tr.xIntS (v:=byI l 3) (Ai6 (by omega)) ?_;simp only [byI,Aw1];refine Yn fun b2 h=>?_;refine Jb ?_;intros;refine Yc (Hf7 (Ds3 l)) ?_;rintro v h (⟨hk,a1,rfl,o⟩|⟨hk,rfl,o⟩)
 ·refine (?_:Tr _ _ _ _) o;refine Je ?_;refine Jb ?_;intros;refine Yb (Yt rfl ?_);refine Tr.pcall (key a1) ?_;refine Je ?_;refine Jb ?_;intros;refine Tr.same (El4 rfl) ?_;refine Yv ?_;refine Ja ?_;intros;refine Ys fun o=>?_;exact ⟨by unfold isF;rw [hk,Bool.true_and];rfl,o.sub⟩
 ·refine (?_:Tr _ _ _ _) o;refine Je ?_;refine Ja ?_;intros;refine Ys fun o=>?_;exact ⟨by unfold isF;rw [hk];rfl,o.sub⟩
theorem E56 (n:Nat) (pb:HP) (ro:Bool) (a:Option Addr) (c:Nat) (l:List UInt8) (hl:l.length=n) (hn:n≤B3) [ks:IsSl pb a ro A9 1 n c (A0 l)]:Ct B0 I1 [.slice a n c] [pb] fun v own=>∃ a' c',v=.slice a' n c'∧own [slC false A9 1 a' n c' (A0 l),pb]:=by
 subst hl;exact Hp4 pb ro a c l hn
theorem E11 (n:Nat) (pb:HP) (ro:Bool) (a:Option Addr) (c:Nat) (l:List UInt8) (hl:l.length=n) (hn:n≤B3) [ks:IsSl pb a ro A9 1 n c (A0 l)]:CtP B0 Au2 [.slice a n c] [pb] (.bool (l.all (·==0))):=by
 subst hl;exact Jj9 pb a ro c l hn
theorem H78 (k:Nat) (pb:HP) (ro:Bool) (a:Option Addr) (c:Nat) (l:List UInt8) (hl:l.length=8) [ks:IsSl pb a ro A9 1 8 c (A0 l)]:Ct B0 Ac1 [P0 k,.slice a 8 c] [Id4 k,pb] fun v own=>v=.tuple ⟨[.agg ⟨Am5 (if isF l then Ds3 l else .zero)⟩,.bool (isF l)]⟩∧own [Id4 k,pb]:=by
 refine Co Dm7 (fun _=>Dm2 ..) fun h r=>?_;refine Ja ?_;intros;refine Yf rfl ?_;refine Jb ?_;intros;refine Yc (E56 8 pb ro a c l hl (by simp [B3])) ?_;rintro _ h ⟨a1,c1,rfl,o⟩<;>(refine Jg o ?_;intros);refine Yc (Jx0 a1 c1 l hl) ?_;rintro _ h ⟨rfl,o⟩<;>(refine Jg o ?_;intros)
 cases hk:isF l with
 | false =>
  refine Ja ?_;intros;exact Yz
 | true =>
  refine Ja ?_;intros;exact Yz
def Ad2 (l:List UInt8):FileS × Int:=if l.all (·==0) then (.zero,0) else if isF l then (Ds3 l,1) else (.zero,2)
theorem Io6 (pb:HP) (ro:Bool) (a:Option Addr) (c:Nat) (l:List UInt8) (hl:l.length=8) [ks:IsSl pb a ro A9 1 8 c (A0 l)]:Ct B0 A12 [.slice a 8 c] [pb] fun v own=>v=.tuple ⟨[.agg ⟨Am5 (Ad2 l).1⟩,int (Ad2 l).2]⟩∧own [pb]:=by
 refine Co Hl1 (fun _=>Hn0 ..) fun h r=>?_;refine Yn fun b1 h=>?_;refine Yb (Yt rfl ?_);refine Tr.pcall (E11 8 pb ro a c l hl (by simp [B3])) ?_;refine Je ?_;refine Jb ?_;intros;refine Yv ?_
 cases hb:l.all (·==0) with
 | true =>
  refine Ja ?_;intros;refine Ys fun o=>?_;exact ⟨by unfold Ad2;rw [hb];rfl,o.sub⟩
 | false =>
  refine Jb ?_;intros;refine Yc (Hp7) ?_;rintro _ h ⟨k,rfl,o⟩<;>(refine Jg o ?_;intros);refine Yc (H78 k pb ro a c l hl) ?_;rintro _ h ⟨rfl,o⟩<;>(refine Jg o ?_;intros)
  cases hk:isF l with
  | false =>
   refine Ja ?_;intros;refine Ys fun o=>?_;exact ⟨by unfold Ad2;rw [hb,hk];rfl,o.sub⟩
  | true =>
   refine Ja ?_;intros;refine Ys fun o=>?_;exact ⟨by unfold Ad2;rw [hb,hk];rfl,o.sub⟩
theorem Iy1 (a:Option Addr) (c:Nat) (l:List UInt8) (hl:l.length=8):Ct B0 A12 [.slice a 8 c] [slC false A9 1 a 8 c (A0 l)] fun v own=>v=.tuple ⟨[.agg ⟨Am5 (Ad2 l).1⟩,int (Ad2 l).2]⟩∧own [slC false A9 1 a 8 c (A0 l)]:=Io6 (slC false A9 1 a 8 c (A0 l)) false a c l hl
structure PipeS where
 head:Int
 count:Int
 readers:Int
 writers:Int
 data:List UInt8
 len:data.length=32
abbrev PipeS.zero:PipeS:=⟨0,0,0,0,List.replicate 32 0,rfl⟩
abbrev M6 (p:PipeS):List Value:=int p.head::int p.count::int p.readers::int p.writers::A0 p.data
theorem Bi4 {p:PipeS} (hd:p.data.length=32):(M6 p).length=36:=by simp [M6,Aa9,hd]
theorem Ix0 {p:PipeS} (hd:p.data.length=32):4+32≤(M6 p).length∧((M6 p).drop 4).take 32=A0 p.data:=⟨by rw [Bi4 hd];exact Nat.le_refl _,by
 rw [show (M6 p).drop 4=A0 p.data from rfl,List.take_of_length_le (by rw [Aa9,hd];exact Nat.le_refl _)]⟩
theorem Hu1 (p:PipeS):(M6 p).all Value.oneCell=true:=by simp [M6,An6,Value.oneCell]
theorem Iw9 (p:PipeS):Ay9 (.agg ⟨M6 p⟩) (.agg ⟨M6 p⟩)=true:=El4 (by simp [M6,A0])
instance {p:PipeS}:LenC (M6 p) 36:=⟨Bi4 p.len⟩
instance {p:PipeS}:PartC (M6 p) 0 36 (M6 p):=⟨Bu5 (Bi4 p.len)⟩
instance {p:PipeS} {cs:List Value} [k:LenC cs 36]:SetsC cs 0 (M6 p) (M6 p):=⟨Bx3 k.ok (Bi4 p.len) (Hu1 p)⟩
instance {p:PipeS}:SameC (.agg ⟨M6 p⟩):=⟨Iw9 p⟩
def okP (p:PipeS):Bool:=decide (0≤p.head∧p.head≤31) && decide (0≤p.count∧p.count≤32) && decide (0≤p.readers∧p.readers≤8) && decide (0≤p.writers∧p.writers≤8)
def Ao6 (p:PipeS):List UInt8:=[1,b8 p.head,b8 p.count,b8 p.readers,b8 p.writers,197]
def P2 (p:PipeS):List UInt8:=Ao6 p++B79 (Ao6 p)::0::p.data
theorem Bu0 {p:PipeS} (hd:p.data.length=32):(P2 p).length=40:=by simp [P2,Ao6,hd]
theorem J45 (n m:Int):CtP B0 A09 [int n,int m] [] (.bool (decide (0≤n∧n≤m))):=by
 refine CtP.of Im4 rfl fun h r=>Tr.eq (Ik5 ..) ?_;refine Je ?_;refine Ja ?_;intros;refine Ys fun o=>?_;refine ⟨?_,rfl⟩;refine congrArg Value.bool ?_;rw [Bool.eq_iff_iff];simp only [Bool.and_eq_true,Bool.or_eq_true,Bool.not_eq_true',Bool.not_eq_false',decide_eq_true_eq,decide_eq_false_iff_not,bne_iff_ne,beq_iff_eq,ne_eq,B8,Ab7,Ag3,ge_iff_le,gt_iff_lt];first|done|omega
instance {n m:Int} {l:List HP}:PCi B0 A09 [.int .i64 n,.int .i64 m] l (.bool (decide (0≤n∧n≤m))):=PCi.of (J45 n m)
theorem I96 (p:PipeS):Ct B0 Dx7 [.agg ⟨M6 p⟩] [] fun v own=>v=.bool (okP p)∧own []:=by
 refine Co I84 (fun _=>Jc6 ..) fun h r=>?_;refine Ja ?_;intros;exact Yz
theorem J23 (a:Option Addr) (c:Nat) (p:PipeS):Ct B0 By3 [.agg ⟨M6 p⟩,.slice a 40 c] [slC false A9 1 a 40 c (A0 (List.replicate 40 0))] fun v own=>v=.bool (okP p)∧own [slC false A9 1 a 40 c (A0 (if okP p then P2 p else List.replicate 40 0))]:=by
 have hd:=p.len;refine Co I16 (fun _=>Iv2 ..) fun h r=>?_;refine Yn fun b1 h=>?_;refine Ja ?_;intros;refine Yc (I96 p) ?_;rintro _ h ⟨rfl,o⟩<;>(refine Jg o ?_;intros)
 cases hk:okP p with
 | false =>
  refine Ja ?_;intros;refine Ys fun o=>?_;rw [if_neg (by simp)];exact ⟨rfl,o.sub⟩
 | true =>
  refine Ja ?_;intros;simp only [Bx0,List.drop_zero,List.take];refine S4 2 rfl fun hl hc _=>?_;refine Tr.xPCells (cs':=A0 (Ao6 p++List.replicate 34 0)) (by omega) ⟨by simp,by simp [A0],by simp [Value.oneCell],rfl⟩ fun h=>?_;refine Ja ?_;intros;refine Tr.pcall (Hg0 (slC false A9 1 a 40 c (A0 (Ao6 p++List.replicate 34 0))) a false 40 c c (Ao6 p++List.replicate 34 0) 6 (by simp [Ao6]) (by simp [Ao6,B3])) ?_;refine Je ?_;(refine Ja ?_;intros;repeat(refine Gw ?_;rintro px rfl;refine Ja ?_;intros));rw [show List.take 6 (Ao6 p++List.replicate 34 0:List UInt8)=Ao6 p from rfl,Eg2];refine Tr.xVS (cs':=A0 (Ao6 p++B79 (Ao6 p)::List.replicate 33 0)) ⟨by simp [A0,Ao6],rfl,rfl⟩ fun h=>?_;refine Ja ?_;intros;refine Tr.xCellsB (xs:=A0 p.data) (Ix0 p.len) ?_;rw [Hl3 (by omega),Gk2];refine Tr.xPAggS (cs':=A0 (P2 p)) ⟨?_,?_,An6 _,?_⟩ fun h=>?_
  ·intro e;have:=congrArg List.length e;simp [A0,hd] at this
  ·simp [A0,hd,Ao6]
  ·rw [Aa9,hd];simp [A0,P2,Ao6]
  refine Ys fun o=>?_;simp only [if_true];exact ⟨trivial,o.sub⟩
abbrev G69 (k:Nat):HP:=pt k (.cells B37 false [int 40,.func (.func By3) ⟨[]⟩ ⟨[]⟩,.func (.func B03) ⟨[]⟩ ⟨[]⟩])
theorem Ip0 (k:Nat) (f:PipeS):Ct B0 Ac5 [P0 k,.agg ⟨M6 f⟩] [G69 k] fun v own=>(okP f=true∧∃ a,v=.tuple ⟨[.slice a 40 40,.bool true]⟩∧own [G69 k,slC false A9 1 a 40 40 (A0 (P2 f))])∨(okP f=false∧v=.tuple ⟨[.slice none 0 0,.bool false]⟩∧own [G69 k]):=by
 refine Co Dm3 (fun _=>Dn1 ..) fun h r=>?_;refine Ja ?_;intros;refine Tr.ck ⟨by omega,by omega,by simp [B3]⟩ ?_;refine Yn fun b1 h=>?_;rw [show G9 (Int.toNat 40) [.int .u8 0]=A0 (List.replicate 40 0) from rfl];refine Ag4 0 rfl 1 40 rfl (by omega) ?_;simp only [List.set_cons_zero];refine Je ?_;refine Jb ?_;intros;refine Yb (Yf rfl ?_);refine Jb ?_;intros;refine Yc (J23 (some ⟨b1,0,none⟩) 40 f) ?_;rintro _ h ⟨rfl,o⟩<;>(refine Jg o ?_;intros);refine Yv ?_
 cases hk:okP f with
 | false =>
  refine Ja ?_;intros;refine Ys fun o=>?_;exact .inr ⟨rfl,rfl,o.sub⟩
 | true =>
  refine Ja ?_;intros;refine Ys fun o=>?_;simp only [if_true] at o;exact .inl ⟨rfl,_,rfl,o.sub⟩
theorem J19:Ct B0 Aw6 [int 40,.func (.func By3) ⟨[]⟩ ⟨[]⟩,.func (.func B03) ⟨[]⟩ ⟨[]⟩] [] fun v own=>∃ k,v=P0 k∧own [G69 k]:=by
 refine Co E46 (fun _=>E98 ..) fun h r=>?_;rw [show mm2 false (mm2 true 40 0) 64=40 from rfl];refine Ja ?_;intros;refine Ys fun o=>?_;exact ⟨_,rfl,o.sub⟩
theorem Hr9:Ct B0 Bx4 [] [] fun v own=>∃ k,v=P0 k∧own [G69 k]:=by
 refine Co H48 (fun _=>H14 ..) fun h r=>?_;refine Yc (J19) ?_;rintro _ h ⟨k,rfl,o⟩<;>(refine Jf o ?_;intros);refine Ys fun o=>?_;exact ⟨_,rfl,o.sub⟩
theorem Hh1 (f:PipeS):Ct B0 Bo2 [.agg ⟨M6 f⟩] [] fun v own=>(okP f=true∧∃ a,v=.tuple ⟨[.slice a 40 40,.bool true]⟩∧own [slC false A9 1 a 40 40 (A0 (P2 f))])∨(okP f=false∧v=.tuple ⟨[.slice none 0 0,.bool false]⟩∧own []):=by
 refine Co Hv8 (fun _=>Hw8 ..) fun h r=>?_;refine Yn fun b1 h=>?_;refine Ja ?_;intros;refine Yc (Hr9) ?_;rintro _ h ⟨k,rfl,o⟩<;>(refine Jg o ?_;intros);refine Ja ?_;intros;refine Yc (Ip0 k f) ?_;rintro v h (⟨hk,a,rfl,o⟩|⟨hk,rfl,o⟩)
 ·refine (?_:Tr _ _ _ _) o;refine Je ?_;refine Ja ?_;intros;refine Ys fun o=>?_;exact .inl ⟨hk,a,rfl,o.sub⟩
 ·refine (?_:Tr _ _ _ _) o;refine Je ?_;refine Ja ?_;intros;refine Ys fun o=>?_;exact .inr ⟨hk,rfl,o.sub⟩
def Eo8 (l:List UInt8):List UInt8:=(l++List.replicate 32 0).take 32
theorem I94 (l:List UInt8):(Eo8 l).length=32:=by simp [Eo8]
theorem E41 {l:List UInt8} (h:l.length=32):Eo8 l=l:=by simp [Eo8,← h]
def Bm4 (l:List UInt8):PipeS:=⟨byI l 1,byI l 2,byI l 3,byI l 4,Eo8 (l.drop 8),I94 _⟩
def isP (l:List UInt8):Bool:=okP (Bm4 l) && decide (P2 (Bm4 l)=l)
theorem J10 (a:Option Addr) (c:Nat) (l:List UInt8) (hl:l.length=40):Ct B0 B03 [.slice a 40 c] [slC false A9 1 a 40 c (A0 l)] fun v own=>v=.tuple ⟨[.agg ⟨M6 (Bm4 l)⟩,.bool (isP l)]⟩∧own [slC false A9 1 a 40 c (A0 l)]:=by
 have hd:=(Bm4 l).len;have hp:Eo8 (l.drop 8)=l.drop 8:=E41 (by simp [hl])
 have key:∀ a1:Option Addr,CtP B0 D6 [.slice a1 40 40,.slice a 40 c] [slC false A9 1 a1 40 40 (A0 (P2 (Bm4 l))),slC false A9 1 a 40 c (A0 l)] (.bool (decide (P2 (Bm4 l)=l))):=fun a1=>by
  have e:=Bu0 hd;have J:=Gn5 (slC false A9 1 a1 (P2 (Bm4 l)).length 40 (A0 (P2 (Bm4 l)))) (slC false A9 1 a l.length c (A0 l)) a1 false 40 a false c (P2 (Bm4 l)) l (by rw [e];simp [B3])
  rwa [hl,e] at J
 refine Co I57 (fun _=>Iy6 ..) fun h r=>?_;refine Yn fun b1 h=>?_;refine S4 1 rfl fun hl2 hc2 _=>?_;(refine Ja ?_;intros;repeat(refine Gw ?_;rintro px rfl;refine Ja ?_;intros));refine Tr.xIntS (v:=byI l 1) (Ai6 (by omega)) ?_;refine Ja ?_;intros;refine Tr.xIntS (v:=byI l 2) (Ai6 (by omega)) ?_;refine Ja ?_;intros;refine Tr.xIntS (v:=byI l 3) (Ai6 (by omega)) ?_;refine Ja ?_;intros;refine Tr.xIntS (v:=byI l 4) (Ai6 (by omega)) ?_;simp only [byI,Aw1];refine Yn fun b2 h=>?_;refine Jb ?_;intros;rw [Hl3 (show 8<c by omega),H83];refine Tr.xAggS (xs:=A0 (l.drop 8)) ⟨by omega,by simp [Aa9,hl],?_⟩ ?_
 ·rw [Dq5,List.take_of_length_le (by simp [Aa9,hl])]
 rw [show pCells (some (⟨b2,4,none⟩:Addr))=pAgg ⟨b2,4,none⟩ from rfl];refine Tr.xPAgg (cs':=M6 (Bm4 l)) ⟨by simp [Aa9,hl],An6 _,by simp [M6,Bm4,byI,Aa9,hl,hp]⟩ fun h=>?_;refine Ja ?_;intros;refine Yc (Hh1 (Bm4 l)) ?_;rintro v h (⟨hk,a1,rfl,o⟩|⟨hk,rfl,o⟩)
 ·refine (?_:Tr _ _ _ _) o;refine Je ?_;refine Jb ?_;intros;refine Yb (Yt rfl ?_);refine Tr.pcall (key a1) ?_;refine Je ?_;refine Jb ?_;intros;refine Yv ?_;refine Ja ?_;intros;refine Ys fun o=>?_;exact ⟨by unfold isP;rw [hk,Bool.true_and],o.sub⟩
 ·refine (?_:Tr _ _ _ _) o;refine Je ?_;refine Ja ?_;intros;refine Ys fun o=>?_;exact ⟨by unfold isP;rw [hk];rfl,o.sub⟩
theorem H60 (k:Nat) (pb:HP) (ro:Bool) (a:Option Addr) (c:Nat) (l:List UInt8) (hl:l.length=40) [ks:IsSl pb a ro A9 1 40 c (A0 l)]:Ct B0 Ac3 [P0 k,.slice a 40 c] [G69 k,pb] fun v own=>v=.tuple ⟨[.agg ⟨M6 (if isP l then Bm4 l else .zero)⟩,.bool (isP l)]⟩∧own [G69 k,pb]:=by
 have hd:=(Bm4 l).len;have hp:Eo8 (l.drop 8)=l.drop 8:=E41 (by simp [hl]);refine Co Dn2 (fun _=>Dm5 ..) fun h r=>?_;refine Ja ?_;intros;refine Yf rfl ?_;refine Jb ?_;intros;refine Yc (E56 40 pb ro a c l hl (by simp [B3])) ?_;rintro _ h ⟨a1,c1,rfl,o⟩<;>(refine Jg o ?_;intros);refine Yc (J10 a1 c1 l hl) ?_;rintro _ h ⟨rfl,o⟩<;>(refine Jg o ?_;intros)
 cases hk:isP l with
 | false =>
  refine Ja ?_;intros;exact Yz
 | true =>
  refine Ja ?_;intros;exact Yz
def V9 (l:List UInt8):PipeS × Int:=if l.all (·==0) then (.zero,0) else if isP l then (Bm4 l,1) else (.zero,2)
theorem Im0 (pb:HP) (ro:Bool) (a:Option Addr) (c:Nat) (l:List UInt8) (hl:l.length=40) [ks:IsSl pb a ro A9 1 40 c (A0 l)]:Ct B0 Au8 [.slice a 40 c] [pb] fun v own=>v=.tuple ⟨[.agg ⟨M6 (V9 l).1⟩,int (V9 l).2]⟩∧own [pb]:=by
 have hd:=(Bm4 l).len;have hp:Eo8 (l.drop 8)=l.drop 8:=E41 (by simp [hl]);refine Co Hx0 (fun _=>Hz7 ..) fun h r=>?_;refine Yn fun b1 h=>?_;refine Yb (Yt rfl ?_);refine Tr.pcall (E11 40 pb ro a c l hl (by simp [B3])) ?_;refine Je ?_;refine Jb ?_;intros;refine Yv ?_
 cases hb:l.all (·==0) with
 | true =>
  refine Ja ?_;intros;refine Ys fun o=>?_;exact ⟨by unfold V9;rw [hb];rfl,o.sub⟩
 | false =>
  refine Jb ?_;intros;refine Yc (Hr9) ?_;rintro _ h ⟨k,rfl,o⟩<;>(refine Jg o ?_;intros);refine Yc (H60 k pb ro a c l hl) ?_;rintro _ h ⟨rfl,o⟩<;>(refine Jg o ?_;intros)
  cases hk:isP l with
  | false =>
   refine Ja ?_;intros;refine Ys fun o=>?_;exact ⟨by unfold V9;rw [hb,hk];rfl,o.sub⟩
  | true =>
   refine Ja ?_;intros;refine Ys fun o=>?_;exact ⟨by unfold V9;rw [hb,hk];rfl,o.sub⟩
theorem I37 (a:Option Addr) (c:Nat) (l:List UInt8) (hl:l.length=40):Ct B0 Au8 [.slice a 40 c] [slC false A9 1 a 40 c (A0 l)] fun v own=>v=.tuple ⟨[.agg ⟨M6 (V9 l).1⟩,int (V9 l).2]⟩∧own [slC false A9 1 a 40 c (A0 l)]:=Im0 (slC false A9 1 a 40 c (A0 l)) false a c l hl
structure ProcS where
 state:Int
 parent:Int
 group:Int
 code:Int
 pending:Int
 mask:Int
 ignored:Int
 caught:Int
 fds:List Int
 len:fds.length=8
abbrev B65:List Int:=[0,0,0,0,0,0,0,0]
abbrev ProcS.zero:ProcS:=⟨0,0,0,0,0,0,0,0,B65,rfl⟩
abbrev B5 (p:ProcS):List Value:=int p.state::int p.parent::int p.group::int p.code::int p.pending::int p.mask::int p.ignored::int p.caught::p.fds.map int
theorem A00 (p:ProcS):(B5 p).length=16:=by simp [B5,p.len]
theorem Ja3 (p:ProcS):(B5 p).all Value.oneCell=true:=by simp [B5,Value.oneCell]
instance {p:ProcS}:LenC (B5 p) 16:=⟨A00 p⟩
instance {p:ProcS}:PartC (B5 p) 0 16 (B5 p):=⟨Bu5 (A00 p)⟩
instance {p:ProcS}:PartC (B5 p) 8 8 (p.fds.map int):=⟨by
 have h:Nat.ble (8+8) (B5 p).length=true:=by rw [A00];rfl
 have e:((B5 p).drop 8).take 8=p.fds.map int:=by rw [show (B5 p).drop 8=p.fds.map int from rfl,List.take_of_length_le (by simp [p.len])]
 rw [By8,h,e];rfl⟩
instance {p:ProcS} {cs:List Value} [k:LenC cs 16]:SetsC cs 0 (B5 p) (B5 p):=⟨Bx3 k.ok (A00 p) (Ja3 p)⟩
instance {p:ProcS}:SameC (.agg ⟨B5 p⟩):=⟨El4 (by simp [B5])⟩
def B70 (n w:Int):Bool:=J8 .i64 n 65534==0 && D5 .i64 n w==0
def okS (p:ProcS):Bool :=
 !(decide (p.state<1) || decide (p.state>3) || decide (p.parent<0) || decide (p.parent>8) || decide (p.group<0) || decide (p.group≥8) || decide (p.code<0) || decide (p.code>255)) &&
 (!(!B70 p.pending 0 || !B70 p.mask 16896 || !B70 p.ignored 16896 || !B70 p.caught 16896 || D5 .i64 p.ignored p.caught != 0) &&
 (!(p.fds.any fun f=>decide (f<0) || decide (f>12)) &&
 (if p.state=2 then p.pending==0 && decide (p.fds=B65) else p.code==0)))
def hi2 (n:Int):UInt8:=if 0≤n∧n≤65535 then b8 (n / 256) else 0
def lo2 (n:Int):UInt8:=if 0≤n∧n≤65535 then b8 n else 0
abbrev put2 (n:Int):List UInt8:=[hi2 n,lo2 n]
def E06 (p:ProcS):List UInt8:=[b8 p.state,b8 p.parent,b8 p.group,b8 p.code]++(put2 p.pending++(put2 p.mask++(put2 p.ignored++(put2 p.caught++(p.fds.map b8++[167])))))
theorem Ji8 (n:Int):(put2 n).length=2:=rfl
theorem I85 (p:ProcS):(E06 p).length=21:=by simp [E06,Ji8,p.len]
def A61 (p:ProcS):List UInt8:=E06 p++[B79 (E06 p),0,0]
theorem E49 (p:ProcS):(A61 p).length=24:=by simp [A61,I85]
theorem Ju8 (n w:Int):CtP B0 Ar5 [int n,int w] [] (.bool (B70 n w)):=by
 refine CtP.of Ib7 rfl fun h r=>Tr.eq (Ib0 ..) ?_;refine Je ?_;exact Jz
instance {n w:Int} {l:List HP}:PCi B0 Ar5 [.int .i64 n,.int .i64 w] l (.bool (B70 n w)):=PCi.of (Ju8 n w)
theorem J07 (f:Int):CtP B0 Bu7 [int f] [] (.bool (decide (f<0) || decide (f>12))):=by
 refine CtP.of H80 rfl fun h r=>Tr.eq (H27 ..) ?_;refine Je ?_;exact Jz
theorem G74 (p:HP) (a:Option Addr) (ro:Bool) (c:Nat) (l:List Int) (g:FuncId) (f:Int→Bool) {e:TypeId} [ks:IsSl p a ro e 1 l.length c (l.map int)] (hl:l.length≤B3) (hf:∀ x,CtP B0 g [int x] [] (.bool (f x))):∀ (m i:Nat),l.length-i=m→i≤l.length →
  Ab5 H0 E7 S5 [(0,.slice a l.length c),(1,.func (.func g) ⟨[]⟩ ⟨[]⟩),(7,int l.length),(8,int i)] [p] (int (B78 f i (l.drop i))):=by
 intro m
 induction m with
 | zero =>
  intro i hm hi;refine Ab5.of Q3 fun h r=>Tr.eq (Z9 ..) ?_;refine Je ?_;refine Yf (by simp;omega) ?_;refine Ys fun o=>?_;rw [List.drop_eq_nil_of_le (by omega)];exact ⟨rfl,rfl⟩
 | succ m ih =>
  intro i hm hi;have hlt:i<l.length:=by omega
  have hp:l[i]?=some l[i]:=List.getElem?_eq_getElem hlt;have hd:l.drop i=l[i]::l.drop (i+1):=List.drop_eq_getElem_cons hlt;generalize l[i]=x at hp hd;have e1:IntKind.wrap .i64 ((i:Int)+1)=((i+1:Nat):Int):=by rw [B8];simp only [B3] at hl;omega
  refine Ab5.of Q3 fun h r=>Tr.eq (Z9 ..) ?_;refine Je ?_;refine Yt (by simp;omega) ?_;(refine Ja ?_;unhygienic intros;repeat(refine Gw ?_;rintro px rfl;refine Ja ?_;unhygienic intros));refine Tr.xIntS (v:=x) (by simp [hp]) ?_;refine Ja ?_;unhygienic intros;refine Tr.pcall (hf x) ?_
  cases hx:f x with
  | true =>
   refine Ja ?_;unhygienic intros;refine Ys fun o=>?_;rw [hd,B78,if_pos hx];exact ⟨by first|rfl|trivial,by first|rfl|trivial⟩
  | false =>
   refine Ja ?_;unhygienic intros;rw [e1];refine Af1 (ih (i+1) (by omega) (by omega)) (r:=r) (by simp) fun o=>?_;rw [hd,B78,if_neg (by simp [hx])];exact ⟨by first|rfl|trivial,by first|rfl|trivial⟩
theorem G56 (p:HP) (a:Option Addr) (ro:Bool) (c:Nat) (l:List Int) (g:FuncId) (f:Int→Bool) {e:TypeId} [ks:IsSl p a ro e 1 l.length c (l.map int)] (hl:l.length≤B3) (hf:∀ x,CtP B0 g [int x] [] (.bool (f x))) :
  CtP B0 I4 [.slice a l.length c,.func (.func g) ⟨[]⟩ ⟨[]⟩] [p] (.bool (l.any f)):=by
 have j:CtP B0 E7 [.slice a l.length c,.func (.func g) ⟨[]⟩ ⟨[]⟩] [p] (int (B78 f 0 l)):=by
  refine CtP.of Q3 rfl fun h r=>Tr.eq (Bh8 ..) ?_;refine Je ?_;exact Af1 (G74 p a ro c l g f hl hf _ 0 rfl (by omega)) (r:=r) (by simp) fun o=>⟨rfl,rfl⟩
 refine CtP.of A53 rfl fun h r=>Tr.eq (A52 ..) ?_;refine Je ?_;refine Dd2 j (r:=r) (by simp) ?_;refine Ja ?_;unhygienic intros;refine Ys fun o=>?_;rw [Gp2];exact ⟨by first|rfl|trivial,by first|rfl|trivial⟩
theorem Ic7:∀ (l m:List Int),l.length=m.length→eqs (l.map int) (m.map int)=some (decide (l=m))
 | [],[],_=>rfl
 | [],_::_,h=>by simp at h
 | _::_,[],h=>by simp at h
 | a::l,b::m,h=>by
  have ih:=Ic7 l m (by simpa using h);simp only [List.map_cons,eqs,eq1,decide_true,ih];by_cases h1:a=b<;>by_cases h2:l=m<;>simp [h1,h2]
theorem G37:∀ (l:List Int),L7 (List.replicate l.length (TypeDesc.int .i64)) (l.map int)=true
 | []=>rfl
 | a::l=>by
  have:=G37 l;simp only [List.length_cons,List.replicate_succ,List.map_cons,L7,decide_true,this,Bool.and_self]
theorem eq8 {α:Type} (l m:List Int) (hl:l.length=8) (hm:m.length=8) (k:Bool→Option α):Dt0 PR Hn4 (l.map int) (m.map int) k=k (decide (l=m)):=by
 have e:Ar3 PR 8 Hn4=some (List.replicate 8 (TypeDesc.int .i64)):=by kernel_rfl
 have f1:=G37 l;have f2:=G37 m;rw [hl] at f1;rw [hm] at f2;rw [Dt0,e];simp only [f1,f2,Ic7 l m (by omega),Bool.and_self,ckB,cond_true,eqK]
theorem J59 (p:ProcS):Ct B0 D80 [.agg ⟨B5 p⟩] [] fun v own=>v=.bool (okS p)∧own []:=by
 have h8:=p.len;refine Co I26 (fun _=>I05 ..) fun h r=>?_;refine Ja ?_;unhygienic intros;refine Tr.cond (fun h1=>?_) fun h1=>?_
 ·refine Ys fun o=>?_;refine ⟨?_,o.sub⟩;unfold okS;rw [h1];rfl
 refine Ja ?_;unhygienic intros;refine Tr.cond (fun h2=>?_) fun h2=>?_
 ·refine Ys fun o=>?_;refine ⟨?_,o.sub⟩;unfold okS;rw [h1,h2];rfl
 refine Ja ?_;unhygienic intros;refine Hi5 0 rfl [int p.state,int p.parent,int p.group,int p.code,int p.pending,int p.mask,int p.ignored,int p.caught] (p.fds.map int) [] (by simp [B5]) 1 8 8 8 ⟨by simp [h8],by omega,by simp,by simp [B5],by omega,by omega⟩ ?_;refine Je ?_;have J:=G56 (e:=B2) (slX false B2 1 (some ⟨b,8,none⟩) p.fds.length 8 ([int p.state,int p.parent,int p.group,int p.code,int p.pending,int p.mask,int p.ignored,int p.caught],[]) (p.fds.map int)) (some ⟨b,8,none⟩) false 8 p.fds Bu7 (fun f=>decide (f<0) || decide (f>12)) (by rw [h8];simp [B3]) J07;rw [h8] at J;refine Tr.pcall (J) ?_;refine Je ?_;refine Ja ?_;unhygienic intros;refine Gi0 0 rfl (B5 p) (by simp [B5]) ?_;refine Je ?_
 cases h3:p.fds.any fun f=>decide (f<0) || decide (f>12) with
 | true =>
  refine Ja ?_;unhygienic intros;refine Ys fun o=>?_;refine ⟨?_,o.sub⟩;unfold okS;rw [h1,h2,h3];rfl
 | false =>
  refine Ja ?_;unhygienic intros;have e:okS p=if p.state=2 then p.pending==0 && decide (p.fds=B65) else p.code==0:=by unfold okS;rw [h1,h2,h3];rfl
  rw [e];by_cases h4:p.state=2
  ·refine Yt (by simpa using h4) ?_;rw [if_pos h4]
   (repeat' first|refine Gu ?_|(with_reducible first|refine Gn fun b h=>?_|apply Gx|apply Gy|rintro px rfl|apply Gw|refine fun(h:H)=>?_|intro hb)|refine Gs ?_|refine Gt ?_|exact Gz rfl|fail)
   rw [show ([int 0,int 0,int 0,int 0,int 0,int 0,int 0,int 0]:List Value)=B65.map int from rfl,eq8 _ _ h8 rfl]
   (repeat' first|refine Gu ?_|(with_reducible first|refine Gn fun b h=>?_|apply Gx|apply Gy|rintro px rfl|apply Gw|refine fun(h:H)=>?_|intro hb)|refine Gs ?_|refine Gt ?_|exact Gz rfl|fail)
   exact Yz
  ·refine Yf (by simpa using h4) ?_;rw [if_neg h4];refine Ja ?_;unhygienic intros;exact Yz
theorem Jv6 (a:Option Addr) (c:Nat) (cs:List Value) (j:Nat) (n:Int) (hj:j+2≤cs.length) (hm:cs.length≤B3):Ct B0 Bv1 [.slice a cs.length c,int j,int n] [slC false A9 1 a cs.length c cs] fun v own =>
  (∃ ok,v=.bool ok)∧own [slC false A9 1 a cs.length c (if 0≤n∧n≤65535 then (cs.set j (.int .u8 ((b8 (n / 256)).toNat:Int))).set (j+1) (.int .u8 ((b8 n).toNat:Int)) else cs)]:=by
 simp only [B3] at hm;have e1:IntKind.wrap .i64 ((cs.length:Int)-2)=(cs.length:Int)-2:=by rw [B8];omega
 have e2:=wN j;refine Co If4 (fun _=>Ia1 ..) fun h r=>?_;rw [e1,e2];refine Ja ?_;unhygienic intros;by_cases h:0≤n∧n≤65535
 ·refine Yf (by simp;omega) ?_;rw [if_pos h];(refine Ja ?_;unhygienic intros;repeat(refine Gw ?_;rintro px rfl;refine Ja ?_;unhygienic intros));rw [Int.toNat_natCast,show Int.fdiv n (2 ^ 8)=n / 256 by rw [Int.fdiv_eq_ediv_of_nonneg _ (by omega)];rfl,Bx0,Bx0];refine Je ?_;refine Tr.xVS (cs':=cs.set j (.int .u8 ((b8 (n / 256)).toNat:Int))) ⟨by omega,rfl,rfl⟩ fun h=>?_;refine Ja ?_;unhygienic intros;rw [Int.toNat_natCast];refine Je ?_;refine Tr.xVS (cs':=(cs.set j (.int .u8 ((b8 (n / 256)).toNat:Int))).set (j+1) (.int .u8 ((b8 n).toNat:Int))) ⟨by simp;omega,rfl,rfl⟩ fun h=>?_;refine Ys fun o=>?_;exact ⟨⟨_,rfl⟩,o.sub⟩
 ·refine Yt (by simp;omega) ?_;rw [if_neg h];refine Ys fun o=>?_;exact ⟨⟨_,rfl⟩,o.sub⟩
theorem Ex7 (l:List UInt8) (j:Nat) (x:UInt8):(A0 l).set j (.int .u8 (x.toNat:Int))=A0 (l.set j x):=by simp [A0,List.map_set]
theorem E90 (a:Option Addr) (c m:Nat) (l:List UInt8) (j:Nat) (n:Int) (hm:l.length=m) (hj:j+2≤m) (h1:l[j]?=some 0) (h2:l[j+1]?=some 0) (hl:m≤B3):Ct B0 Bv1 [.slice a m c,int j,int n] [slC false A9 1 a m c (A0 l)] fun v own =>
  (∃ ok,v=.bool ok)∧own [slC false A9 1 a m c (A0 ((l.set j (hi2 n)).set (j+1) (lo2 n)))]:=by
 subst hm;have J:=Jv6 a c (A0 l) j n (by rw [Aa9];omega) (by rw [Aa9];omega);rw [Aa9] at J
 have e:(if 0≤n∧n≤65535 then ((A0 l).set j (.int .u8 ((b8 (n / 256)).toNat:Int))).set (j+1) (.int .u8 ((b8 n).toNat:Int)) else A0 l)=A0 ((l.set j (hi2 n)).set (j+1) (lo2 n)):=by
  unfold hi2 lo2
  split
  ·rw [Ex7,Ex7]
  ·rw [Gi7 h1,Gi7 h2]
 rw [e] at J;exact J
def two (l:List UInt8) (j:Nat):Int:=byI l j*256+byI l (j+1)
theorem J33 (x y:UInt8):Bb7 .i64 (IntKind.wrap .i64 (IntKind.wrap .i64 (x.toNat:Int)*2 ^ 8)) (IntKind.wrap .i64 (y.toNat:Int))=(x.toNat:Int)*256+y.toNat:=by
 have hx:=x.toNat_lt;have hy:=y.toNat_lt;have e1:IntKind.wrap .i64 (IntKind.wrap .i64 (x.toNat:Int)*2 ^ 8)=((x.toNat*256:Nat):Int):=by rw [Aw1,B8];omega
 rw [e1,Aw1];unfold Bb7;have e0:IntKind.bits .i64=64:=rfl;rw [e0,BitVec.ofInt_natCast,BitVec.ofInt_natCast,BitVec.toNat_or,BitVec.toNat_ofNat,BitVec.toNat_ofNat,Nat.mod_eq_of_lt (by omega),Nat.mod_eq_of_lt (by omega)]
 have e2:x.toNat*256 ||| y.toNat=x.toNat*256+y.toNat:=by
  have:=Nat.two_pow_add_eq_or_of_lt (i:=8) (b:=y.toNat) (by omega) x.toNat;rw [show 2 ^ 8*x.toNat=x.toNat*256 by omega] at this;exact this.symm
 rw [e2,B8];omega
theorem Gr1 (a:Option Addr) (c n:Nat) (l:List UInt8) (j:Nat) (hn:l.length=n) (hj:j+2≤n) (hm:n≤B3):CtP B0 Dh9 [.slice a n c,int j] [slC false A9 1 a n c (A0 l)] (.tuple ⟨[int (two l j),.bool true]⟩):=by
 simp only [B3] at hm;have e1:IntKind.wrap .i64 ((n:Int)-2)=(n:Int)-2:=by rw [B8];omega
 have e2:=wN j;refine CtP.of H92 rfl fun h r=>Tr.eq (Ih2 ..) ?_;refine Je ?_;rw [e1,e2];refine Ja ?_;unhygienic intros;refine Yf (by simp;omega) ?_;(refine Ja ?_;unhygienic intros;repeat(refine Gw ?_;rintro px rfl;refine Ja ?_;unhygienic intros));rw [Int.toNat_natCast];refine Je ?_;refine Tr.xIntS (v:=byI l j) (Ai6 (by omega)) ?_;refine Ja ?_;unhygienic intros;rw [Int.toNat_natCast];refine Je ?_;refine Tr.xIntS (v:=byI l (j+1)) (Ai6 (by omega)) ?_;refine Ys fun o=>?_;rw [J33];exact ⟨rfl,rfl⟩
theorem Jv0 (a:Option Addr) (c:Nat) (p:ProcS):Ct B0 U8 [.agg ⟨B5 p⟩,.slice a 24 c] [slC false A9 1 a 24 c (A0 (List.replicate 24 0))] fun v own=>v=.bool (okS p)∧own [slC false A9 1 a 24 c (A0 (if okS p then A61 p else List.replicate 24 0))]:=by
 refine Co M7 (fun _=>Ii3 ..) fun h r=>?_;refine Yn fun b1 h=>?_;refine Ja ?_;intros;refine Ye (J59 p) fun h=>?_;intros
 cases hk:okS p with
 | false =>
  refine Ja ?_;intros;refine Ys fun o=>?_;rw [if_neg (by simp)];exact ⟨rfl,o.sub⟩
 | true =>
  simp only [if_true];obtain ⟨st,pa,gr,co,pe,ma,ig,ca,fds,len⟩:=p
  match fds,len with
  | [f0,f1,f2,f3,f4,f5,f6,f7],len =>
  refine Ja ?_;intros
  rename_i b2 h2
  refine S4 2 rfl fun hl hc _=>?_;simp only [List.map];refine Yj M7 (Bh7 ..) ?_;(refine Jd ?_;intros;repeat(refine Gw ?_;rintro px rfl;refine Jd ?_;intros));refine Yj M7 (Bh7 ..) ?_;refine Jd ?_;intros;refine Yj M7 (Bh7 ..) ?_;refine Jd ?_;intros;refine Yj M7 (Bh7 ..) ?_;refine Jd ?_;intros;refine Yj M7 (Bh7 ..) ?_;refine Jd ?_;intros;simp only [Bx0,Ex7,List.replicate,List.set_cons_zero,List.set_cons_succ,Nat.mul_one];refine Yj M7 (Bf5 ..) ?_;refine Jd ?_;intros;refine Yc (E90 (some px) c 24 [b8 st,b8 pa,b8 gr,b8 co,0,0,0,0,0,0,0,0,0,0,0,0,0,0,0,0,0,0,0,0] 4 pe rfl (by omega) rfl rfl (by simp [B3])) ?_;rintro _ h ⟨⟨_,rfl⟩,o⟩<;>(refine Jf o ?_;intros);refine Yj M7 (Bf5 ..) ?_;refine Jd ?_;intros;refine Yc (E90 (some px) c 24 [b8 st,b8 pa,b8 gr,b8 co,hi2 pe,lo2 pe,0,0,0,0,0,0,0,0,0,0,0,0,0,0,0,0,0,0] 6 ma rfl (by omega) rfl rfl (by simp [B3])) ?_;rintro _ h ⟨⟨_,rfl⟩,o⟩<;>(refine Jf o ?_;intros);refine Yj M7 (Bf5 ..) ?_;refine Jd ?_;intros;refine Yc (E90 (some px) c 24 [b8 st,b8 pa,b8 gr,b8 co,hi2 pe,lo2 pe,hi2 ma,lo2 ma,0,0,0,0,0,0,0,0,0,0,0,0,0,0,0,0] 8 ig rfl (by omega) rfl rfl (by simp [B3])) ?_;rintro _ h ⟨⟨_,rfl⟩,o⟩<;>(refine Jf o ?_;intros);refine Yj M7 (Bf5 ..) ?_;refine Jd ?_;intros;refine Yc (E90 (some px) c 24 [b8 st,b8 pa,b8 gr,b8 co,hi2 pe,lo2 pe,hi2 ma,lo2 ma,hi2 ig,lo2 ig,0,0,0,0,0,0,0,0,0,0,0,0,0,0] 10 ca rfl (by omega) rfl rfl (by simp [B3])) ?_;rintro _ h ⟨⟨_,rfl⟩,o⟩<;>(refine Jf o ?_;intros);refine Yj M7 (Bf5 ..) ?_;refine Jd ?_;intros;refine Yj M7 (Ae6 ..) ?_;refine Jd ?_;intros;refine Yj M7 (Ae6 ..) ?_;refine Jd ?_;intros;refine Yj M7 (Ae6 ..) ?_;refine Jd ?_;intros;refine Yj M7 (Ae6 ..) ?_;refine Jd ?_;intros;refine Yj M7 (Ae6 ..) ?_;refine Jd ?_;intros;refine Yj M7 (Ae6 ..) ?_;refine Jd ?_;intros;refine Yj M7 (Ae6 ..) ?_;refine Jd ?_;intros;refine Yj M7 (Ae6 ..) ?_;refine Jd ?_;intros;refine Yj M7 (Ae6 ..) ?_;refine Jd ?_;intros;simp only [Bx0,Ex7,List.set_cons_zero,List.set_cons_succ,Nat.mul_one];rw [show (.int .u8 167:Value)=.int .u8 ((167:UInt8).toNat:Int) from rfl,Ex7];simp only [List.set_cons_zero,List.set_cons_succ];refine Tr.pcall (Hg0 (slC false A9 1 (some px) 24 c (A0 [b8 st,b8 pa,b8 gr,b8 co,hi2 pe,lo2 pe,hi2 ma,lo2 ma,hi2 ig,lo2 ig,hi2 ca,lo2 ca,b8 f0,b8 f1,b8 f2,b8 f3,b8 f4,b8 f5,b8 f6,b8 f7,167,0,0,0])) (some px) false 24 c c [b8 st,b8 pa,b8 gr,b8 co,hi2 pe,lo2 pe,hi2 ma,lo2 ma,hi2 ig,lo2 ig,hi2 ca,lo2 ca,b8 f0,b8 f1,b8 f2,b8 f3,b8 f4,b8 f5,b8 f6,b8 f7,167,0,0,0] 21 (by simp) (by simp [B3])) ?_;refine Je ?_;refine Ja ?_;intros;rw [Eg2];refine Jd ?_;intros;refine Ys fun o=>?_;rw [Ex7] at o;simp only [List.set_cons_zero,List.set_cons_succ] at o;simp only [A61,E06,put2,List.map,List.cons_append,List.nil_append];exact ⟨trivial,o.sub⟩
abbrev G72 (k:Nat):HP:=pt k (.cells B59 false [int 24,.func (.func U8) ⟨[]⟩ ⟨[]⟩,.func (.func Ae2) ⟨[]⟩ ⟨[]⟩])
theorem Ir0 (k:Nat) (f:ProcS):Ct B0 Ac4 [P0 k,.agg ⟨B5 f⟩] [G72 k] fun v own=>(okS f=true∧∃ a,v=.tuple ⟨[.slice a 24 24,.bool true]⟩∧own [G72 k,slC false A9 1 a 24 24 (A0 (A61 f))])∨(okS f=false∧v=.tuple ⟨[.slice none 0 0,.bool false]⟩∧own [G72 k]):=by
 refine Co Dn0 (fun _=>Dm4 ..) fun h r=>?_;refine Ja ?_;intros;refine Tr.ck ⟨by omega,by omega,by simp [B3]⟩ ?_;refine Yn fun b1 h=>?_;rw [show G9 (Int.toNat 24) [.int .u8 0]=A0 (List.replicate 24 0) from rfl];refine Ag4 0 rfl 1 24 rfl (by omega) ?_;simp only [List.set_cons_zero];refine Je ?_;refine Jb ?_;intros;refine Yb (Yf rfl ?_);refine Jb ?_;intros;refine Yc (Jv0 (some ⟨b1,0,none⟩) 24 f) ?_;rintro _ h ⟨rfl,o⟩<;>(refine Jg o ?_;intros);refine Yv ?_
 cases hk:okS f with
 | false =>
  refine Ja ?_;intros;refine Ys fun o=>?_;exact .inr ⟨rfl,rfl,o.sub⟩
 | true =>
  refine Ja ?_;intros;refine Ys fun o=>?_;simp only [if_true] at o;exact .inl ⟨rfl,_,rfl,o.sub⟩
theorem Jx9:Ct B0 Ay3 [int 24,.func (.func U8) ⟨[]⟩ ⟨[]⟩,.func (.func Ae2) ⟨[]⟩ ⟨[]⟩] [] fun v own=>∃ k,v=P0 k∧own [G72 k]:=by
 refine Co Ga0 (fun _=>E45 ..) fun h r=>?_;rw [show mm2 false (mm2 true 24 0) 64=24 from rfl];refine Ja ?_;intros;refine Ys fun o=>?_;exact ⟨_,rfl,o.sub⟩
theorem Hp2:Ct B0 Bm6 [] [] fun v own=>∃ k,v=P0 k∧own [G72 k]:=by
 refine Co Hy4 (fun _=>Hy2 ..) fun h r=>?_;refine Yc (Jx9) ?_;rintro _ h ⟨k,rfl,o⟩<;>(refine Jf o ?_;intros);refine Ys fun o=>?_;exact ⟨_,rfl,o.sub⟩
theorem Hb4 (f:ProcS):Ct B0 Bg1 [.agg ⟨B5 f⟩] [] fun v own=>(okS f=true∧∃ a,v=.tuple ⟨[.slice a 24 24,.bool true]⟩∧own [slC false A9 1 a 24 24 (A0 (A61 f))])∨(okS f=false∧v=.tuple ⟨[.slice none 0 0,.bool false]⟩∧own []):=by
 refine Co Hk9 (fun _=>Hn3 ..) fun h r=>?_;refine Ja ?_;intros;refine Yc (Hp2) ?_;rintro _ h ⟨k,rfl,o⟩<;>(refine Jg o ?_;intros);refine Yc (Ir0 k f) ?_;rintro v h (⟨hk,a,rfl,o⟩|⟨hk,rfl,o⟩)
 ·refine (?_:Tr _ _ _ _) o;refine Je ?_;refine Ja ?_;intros;refine Ys fun o=>?_;exact .inl ⟨hk,a,rfl,o.sub⟩
 ·refine (?_:Tr _ _ _ _) o;refine Je ?_;refine Ja ?_;intros;refine Ys fun o=>?_;exact .inr ⟨hk,rfl,o.sub⟩
def Bq5 (l:List UInt8):ProcS:=⟨byI l 0,byI l 1,byI l 2,byI l 3,two l 4,two l 6,two l 8,two l 10,[byI l 12,byI l 13,byI l 14,byI l 15,byI l 16,byI l 17,byI l 18,byI l 19],rfl⟩
def isS (l:List UInt8):Bool:=okS (Bq5 l) && decide (A61 (Bq5 l)=l)
theorem J18 (a:Option Addr) (c:Nat) (l:List UInt8) (hl:l.length=24):Ct B0 Ae2 [.slice a 24 c] [slC false A9 1 a 24 c (A0 l)] fun v own=>v=.tuple ⟨[.agg ⟨B5 (Bq5 l)⟩,.bool (isS l)]⟩∧own [slC false A9 1 a 24 c (A0 l)]:=by
 have key:∀ a1:Option Addr,CtP B0 D6 [.slice a1 24 24,.slice a 24 c] [slC false A9 1 a1 24 24 (A0 (A61 (Bq5 l))),slC false A9 1 a 24 c (A0 l)] (.bool (decide (A61 (Bq5 l)=l))):=fun a1=>by
  have e:=E49 (Bq5 l);have J:=Gn5 (slC false A9 1 a1 (A61 (Bq5 l)).length 24 (A0 (A61 (Bq5 l)))) (slC false A9 1 a l.length c (A0 l)) a1 false 24 a false c (A61 (Bq5 l)) l (by rw [e];simp [B3])
  rwa [hl,e] at J
 refine Co V0 (fun _=>Iq4 ..) fun h r=>?_;refine Yn fun b1 h=>?_;refine S4 1 rfl fun hl2 hc2 _=>?_;(refine Ja ?_;intros;repeat(refine Gw ?_;rintro px rfl;refine Ja ?_;intros));refine Tr.xIntS (v:=byI l 0) (Ai6 (by omega)) ?_;refine Ja ?_;intros;refine Tr.xIntS (v:=byI l 1) (Ai6 (by omega)) ?_;refine Ja ?_;intros;refine Tr.xIntS (v:=byI l 2) (Ai6 (by omega)) ?_;refine Ja ?_;intros;refine Tr.xIntS (v:=byI l 3) (Ai6 (by omega)) ?_;refine Ja ?_;intros;simp only [byI,Aw1];refine Yj V0 (Bh3 ..) ?_;refine Jd ?_;intros;refine Tr.pcall (Gr1 (some px) c 24 l 4 hl (by omega) (by simp [B3])) ?_;refine Je ?_;refine Ja ?_;intros;refine Yj V0 (Bh3 ..) ?_;refine Jd ?_;intros;refine Tr.pcall (Gr1 (some px) c 24 l 6 hl (by omega) (by simp [B3])) ?_;refine Je ?_;refine Ja ?_;intros;refine Yj V0 (Bh3 ..) ?_;refine Jd ?_;intros;refine Tr.pcall (Gr1 (some px) c 24 l 8 hl (by omega) (by simp [B3])) ?_;refine Je ?_;refine Ja ?_;intros;refine Yj V0 (Bh3 ..) ?_;refine Jd ?_;intros;refine Tr.pcall (Gr1 (some px) c 24 l 10 hl (by omega) (by simp [B3])) ?_;refine Je ?_;refine Ja ?_;intros;refine Yj V0 (Bh3 ..) ?_;refine Jd ?_;intros;refine Yj V0 (Ae8 ..) ?_;refine Jd ?_;intros;refine Tr.xIntS (v:=byI l 12) (Ai6 (by omega)) ?_;refine Jd ?_;intros;simp only [byI,Aw1];refine Yj V0 (Ae8 ..) ?_;refine Jd ?_;intros;refine Tr.xIntS (v:=byI l 13) (Ai6 (by omega)) ?_;refine Jd ?_;intros;simp only [byI,Aw1];refine Yj V0 (Ae8 ..) ?_;refine Jd ?_;intros;refine Tr.xIntS (v:=byI l 14) (Ai6 (by omega)) ?_;refine Jd ?_;intros;simp only [byI,Aw1];refine Yj V0 (Ae8 ..) ?_;refine Jd ?_;intros;refine Tr.xIntS (v:=byI l 15) (Ai6 (by omega)) ?_;refine Jd ?_;intros;simp only [byI,Aw1];refine Yj V0 (Ae8 ..) ?_;refine Jd ?_;intros;refine Tr.xIntS (v:=byI l 16) (Ai6 (by omega)) ?_;refine Jd ?_;intros;simp only [byI,Aw1];refine Yj V0 (Ae8 ..) ?_;refine Jd ?_;intros;refine Tr.xIntS (v:=byI l 17) (Ai6 (by omega)) ?_;refine Jd ?_;intros;simp only [byI,Aw1];refine Yj V0 (Ae8 ..) ?_;refine Jd ?_;intros;refine Tr.xIntS (v:=byI l 18) (Ai6 (by omega)) ?_;refine Jd ?_;intros;simp only [byI,Aw1];refine Yj V0 (Ae8 ..) ?_;refine Jd ?_;intros;refine Tr.xIntS (v:=byI l 19) (Ai6 (by omega)) ?_;refine Jd ?_;intros;simp only [byI,Aw1];refine Yj V0 (Ae8 ..) ?_;refine Yf rfl ?_;refine Tr.xAgg (xs:=B5 (Bq5 l)) ⟨Nat.le_of_ble_eq_true rfl,rfl⟩ ?_;refine Yc (Hb4 (Bq5 l)) ?_;rintro v h (⟨hk,a1,rfl,o⟩|⟨hk,rfl,o⟩)
 ·refine (?_:Tr _ _ _ _) o;refine Je ?_;refine Tr.dx ?_;refine Tr.dx ?_;refine Tr.dx ?_;refine Tr.xAgg (xs:=B5 (Bq5 l)) ⟨Nat.le_of_ble_eq_true rfl,rfl⟩ ?_;refine Yb (Yt rfl ?_);refine Tr.pcall (key a1) ?_;refine Tr.dx ?_;refine Tr.xAgg (xs:=B5 (Bq5 l)) ⟨Nat.le_of_ble_eq_true rfl,rfl⟩ ?_;refine Ja ?_;intros;refine Yv ?_;refine Ja ?_;intros;refine Ys fun o=>?_;exact ⟨by unfold isS;rw [hk,Bool.true_and],o.sub⟩
 ·refine (?_:Tr _ _ _ _) o;refine Je ?_;refine Tr.dx ?_;refine Tr.dx ?_;refine Tr.dx ?_;refine Tr.xAgg (xs:=B5 (Bq5 l)) ⟨Nat.le_of_ble_eq_true rfl,rfl⟩ ?_;refine Ja ?_;intros;refine Ys fun o=>?_;exact ⟨by unfold isS;rw [hk];rfl,o.sub⟩
theorem H90 (k:Nat) (pb:HP) (ro:Bool) (a:Option Addr) (c:Nat) (l:List UInt8) (hl:l.length=24) [ks:IsSl pb a ro A9 1 24 c (A0 l)]:Ct B0 Ac0 [P0 k,.slice a 24 c] [G72 k,pb] fun v own=>v=.tuple ⟨[.agg ⟨B5 (if isS l then Bq5 l else .zero)⟩,.bool (isS l)]⟩∧own [G72 k,pb]:=by
 refine Co Dm8 (fun _=>Dn3 ..) fun h r=>?_;refine Ja ?_;intros;refine Yf rfl ?_;refine Jb ?_;intros;refine Yc (E56 24 pb ro a c l hl (by simp [B3])) ?_;rintro _ h ⟨a1,c1,rfl,o⟩<;>(refine Jg o ?_;intros);refine Yc (J18 a1 c1 l hl) ?_;rintro _ h ⟨rfl,o⟩<;>(refine Jg o ?_;intros)
 cases hk:isS l with
 | false =>
  refine Ja ?_;intros;exact Yz
 | true =>
  refine Ja ?_;intros;exact Yz
def Aa5 (l:List UInt8):ProcS × Int:=if l.all (·==0) then (.zero,0) else if isS l then (Bq5 l,1) else (.zero,2)
theorem Im3 (pb:HP) (ro:Bool) (a:Option Addr) (c:Nat) (l:List UInt8) (hl:l.length=24) [ks:IsSl pb a ro A9 1 24 c (A0 l)]:Ct B0 A17 [.slice a 24 c] [pb] fun v own=>v=.tuple ⟨[.agg ⟨B5 (Aa5 l).1⟩,int (Aa5 l).2]⟩∧own [pb]:=by
 refine Co Ho4 (fun _=>Hi7 ..) fun h r=>?_;refine Yn fun b1 h=>?_;refine Yb (Yt rfl ?_);refine Tr.pcall (E11 24 pb ro a c l hl (by simp [B3])) ?_;refine Je ?_;refine Jb ?_;intros;refine Yv ?_
 cases hb:l.all (·==0) with
 | true =>
  refine Ja ?_;intros;refine Ys fun o=>?_;exact ⟨by unfold Aa5;rw [hb];rfl,o.sub⟩
 | false =>
  refine Jb ?_;intros;refine Yc (Hp2) ?_;rintro _ h ⟨k,rfl,o⟩<;>(refine Jg o ?_;intros);refine Yc (H90 k pb ro a c l hl) ?_;rintro _ h ⟨rfl,o⟩<;>(refine Jg o ?_;intros)
  cases hk:isS l with
  | false =>
   refine Ja ?_;intros;refine Ys fun o=>?_;exact ⟨by unfold Aa5;rw [hb,hk];rfl,o.sub⟩
  | true =>
   refine Ja ?_;intros;refine Ys fun o=>?_;exact ⟨by unfold Aa5;rw [hb,hk];rfl,o.sub⟩
theorem Iv9 (a:Option Addr) (c:Nat) (l:List UInt8) (hl:l.length=24):Ct B0 A17 [.slice a 24 c] [slC false A9 1 a 24 c (A0 l)] fun v own=>v=.tuple ⟨[.agg ⟨B5 (Aa5 l).1⟩,int (Aa5 l).2]⟩∧own [slC false A9 1 a 24 c (A0 l)]:=Im3 (slC false A9 1 a 24 c (A0 l)) false a c l hl
def Q1 (l:List UInt8) (a:Nat) (b:List UInt8):List UInt8:=l.take a++b++l.drop (a+b.length)
theorem Am6 {l b:List UInt8} {a:Nat} (h:a+b.length≤l.length):(Q1 l a b).length=l.length:=by simp [Q1];omega
theorem Bz4 {l b:List UInt8} {a:Nat} (h:a+b.length≤l.length) (i:Nat):(Q1 l a b)[i]?=if a≤i∧i<a+b.length then b[i-a]? else l[i]?:=by
 unfold Q1;by_cases h1:i<a
 ·rw [if_neg (by omega),List.append_assoc,List.getElem?_append_left (by simp;omega),List.getElem?_take,if_pos h1]
 ·rw [List.append_assoc,List.getElem?_append_right (by simp;omega),List.length_take,Nat.min_eq_left (by omega)];by_cases h2:i<a+b.length
  ·rw [if_pos ⟨by omega,h2⟩,List.getElem?_append_left (by omega)]
  ·rw [if_neg (by omega),List.getElem?_append_right (by omega),List.getElem?_drop];congr 1;omega
def slice (l:List UInt8) (a n:Nat):List UInt8:=(l.drop a).take n
theorem Dc6 (l:List UInt8) (a n i:Nat):(slice l a n)[i]?=if i<n then l[a+i]? else none:=by
 unfold slice;rw [List.getElem?_take];split
 ·rw [List.getElem?_drop]
 ·rfl
theorem Hq3 {l:List UInt8} {a n:Nat} (h:a+n≤l.length):(slice l a n).length=n:=by simp [slice];omega
abbrev Rg:=List (Nat × Nat)
def Y3:List UInt8→Rg→List (List UInt8)→List UInt8
 | l,(lo,_)::rg,x::m=>Y3 (Q1 l lo x) rg m
 | l,_,_=>l
structure Fit (size:Nat) (rg:Rg) (m:List (List UInt8)):Prop where
 len:m.length=rg.length
 each:∀ (j lo n:Nat),rg[j]?=some (lo,n)→lo+n≤size∧∃ x,m[j]?=some x∧x.length=n
def RgOk (rg:Rg):Prop:=∀ (i j lo n lo' n':Nat),i≠j→rg[i]?=some (lo,n)→rg[j]?=some (lo',n')→lo+n≤lo'∨lo'+n'≤lo
theorem Fit.tail {size:Nat} {p:Nat × Nat} {rg:Rg} {x:List UInt8} {m:List (List UInt8)} (f:Fit size (p::rg) (x::m)):Fit size rg m:=⟨by simpa using f.len,fun j lo n h=>by simpa using f.each (j+1) lo n (by simpa using h)⟩
theorem Fit.head {size lo n:Nat} {rg:Rg} {x:List UInt8} {m:List (List UInt8)} (f:Fit size ((lo,n)::rg) (x::m)):lo+n≤size∧x.length=n:=by
 obtain ⟨h,y,hy,hl⟩:=f.each 0 lo n rfl;simp at hy;subst hy;exact ⟨h,hl⟩
theorem RgOk.tail {p:Nat × Nat} {rg:Rg} (k:RgOk (p::rg)):RgOk rg:=fun i j lo n lo' n' hij hi hj=>k (i+1) (j+1) lo n lo' n' (by omega) (by simpa using hi) (by simpa using hj)
theorem B90:∀ {rg:Rg} {m:List (List UInt8)} {l:List UInt8},Fit l.length rg m→(Y3 l rg m).length=l.length
 | [],m,l,f=>by simp [Y3]
 | (lo,n)::rg,[],l,f=>by simp [Y3]
 | (lo,n)::rg,x::m,l,f=>by
  have h:=f.head;have e:=Am6 (l:=l) (b:=x) (a:=lo) (by omega);unfold Y3;rw [B90 (by rw [e];exact f.tail),e]
theorem Ec9:∀ {rg:Rg} {m:List (List UInt8)} {l:List UInt8},Fit l.length rg m→∀ i,(∀ (j lo n:Nat),rg[j]?=some (lo,n)→i<lo∨lo+n≤i)→(Y3 l rg m)[i]?=l[i]?
 | [],m,l,f,i,h=>by simp [Y3]
 | (lo,n)::rg,[],l,f,i,h=>by simp [Y3]
 | (lo,n)::rg,x::m,l,f,i,h=>by
  have h0:=f.head;have e:=Am6 (l:=l) (b:=x) (a:=lo) (by omega);unfold Y3;rw [Ec9 (by rw [e];exact f.tail) i (fun j lo' n' hj=>h (j+1) lo' n' (by simpa using hj)),Bz4 (by omega),if_neg];have:=h 0 lo n rfl;omega
theorem Do6:∀ {rg:Rg} {m:List (List UInt8)} {l:List UInt8},Fit l.length rg m→RgOk rg→∀ (j lo n:Nat) (x:List UInt8),rg[j]?=some (lo,n)→m[j]?=some x→∀ i,i<n→(Y3 l rg m)[lo+i]?=x[i]?
 | [],m,l,f,k,j,lo,n,x,h,hx,i,hi=>by simp at h
 | (lo0,n0)::rg,[],l,f,k,j,lo,n,x,h,hx,i,hi=>by simp at hx
 | (lo0,n0)::rg,x0::m,l,f,k,j,lo,n,x,h,hx,i,hi=>by
  have h0:=f.head;have e:=Am6 (l:=l) (b:=x0) (a:=lo0) (by omega);unfold Y3
  cases j with
  | zero =>
   simp at h hx;obtain ⟨rfl,rfl⟩:=h;subst hx
   rw [Ec9 (by rw [e];exact f.tail) (lo0+i) (fun j lo' n' hj=>by
    have:=k 0 (j+1) lo0 n0 lo' n' (by omega) rfl (by simpa using hj);omega),Bz4 (by omega),if_pos (by omega)]
   congr 1;omega
  | succ j=>exact Do6 (by rw [e];exact f.tail) k.tail j lo n x (by simpa using h) (by simpa using hx) i hi
theorem Hh8 {rg:Rg} {m:List (List UInt8)} {l:List UInt8} (f:Fit l.length rg m) (k:RgOk rg) {j lo n:Nat} {x:List UInt8} (h:rg[j]?=some (lo,n)) (hx:m[j]?=some x) {a c:Nat} (hc:a+c≤n):slice (Y3 l rg m) (lo+a) c=slice x a c:=by
 refine List.ext_getElem? fun i=>?_;rw [Dc6,Dc6]
 split
 ·rw [Nat.add_assoc,Do6 f k j lo n x h hx (a+i) (by omega)]
 ·rfl
theorem Fit.set {size:Nat} {rg:Rg} {m:List (List UInt8)} (f:Fit size rg m) {j lo n:Nat} (h:rg[j]?=some (lo,n)) {y:List UInt8} (hy:y.length=n):Fit size rg (m.set j y):=⟨by simpa using f.len,fun i lo' n' hi=>by
 obtain ⟨h1,z,hz,hl⟩:=f.each i lo' n' hi;refine ⟨h1,?_⟩;by_cases hij:j=i
 ·subst hij;rw [h] at hi;cases hi
  exact ⟨y,by simp [(List.getElem?_eq_some_iff.1 hz).1],hy⟩
 ·exact ⟨z,by rw [List.getElem?_set_ne hij];exact hz,hl⟩⟩
theorem Ip1 {rg:Rg} {m:List (List UInt8)} {l:List UInt8} (f:Fit l.length rg m) (k:RgOk rg) {j lo n:Nat} {x:List UInt8} (h:rg[j]?=some (lo,n)) (hx:m[j]?=some x) {a:Nat} {b:List UInt8} (hc:a+b.length≤n):Q1 (Y3 l rg m) (lo+a) b=Y3 l rg (m.set j (Q1 x a b)):=by
 obtain ⟨h1,y,hy,hl⟩:=f.each j lo n h;rw [hx] at hy;cases hy
 have e:=Am6 (l:=x) (b:=b) (a:=a) (by omega);have f2:=f.set h (y:=Q1 x a b) (by omega);have lp:=B90 f;refine List.ext_getElem? fun i=>?_;rw [Bz4 (by omega)];by_cases hi:lo≤i∧i<lo+n
 ·obtain ⟨i',rfl⟩:∃ i',i=lo+i':=⟨i-lo,by omega⟩
  rw [Do6 f2 k j lo n (Q1 x a b) h (by simp [(List.getElem?_eq_some_iff.1 hx).1]) i' (by omega),Bz4 (by omega),Do6 f k j lo n x h hx i' (by omega)];by_cases h2:a≤i'∧i'<a+b.length
  ·rw [if_pos (by omega),if_pos h2];congr 1;omega
  ·rw [if_neg (by omega),if_neg h2]
 ·rw [if_neg (by omega)];by_cases ho:∃ (j' lo' n':Nat),rg[j']?=some (lo',n')∧lo'≤i∧i<lo'+n'
  ·obtain ⟨j',lo',n',hj',h3,h4⟩:=ho;have hne:j≠j':=fun e=>by subst e;rw [h] at hj';cases hj';omega
   obtain ⟨_,z,hz,_⟩:=f.each j' lo' n' hj';obtain ⟨i',rfl⟩:∃ i',i=lo'+i':=⟨i-lo',by omega⟩
   rw [Do6 f k j' lo' n' z hj' hz i' (by omega),Do6 f2 k j' lo' n' z hj' (by rw [List.getElem?_set_ne hne];exact hz) i' (by omega)]
  ·have hall:∀ (j' lo' n':Nat),rg[j']?=some (lo',n')→i<lo'∨lo'+n'≤i:=fun j' lo' n' hj'=>by
    by_cases hh:lo'≤i∧i<lo'+n'
    ·exact absurd ⟨j',lo',n',hj',hh.1,hh.2⟩ ho
    ·omega
   rw [Ec9 f i hall,Ec9 f2 i hall]
structure RecS where
 kind:Int
 index:Int
deriving DecidableEq
abbrev Af4 (r:RecS):List Value:=[int r.kind,int r.index]
structure Fr where
 S:KS
 N:Nat
 env:Int
 caps:List Int
 rg:Rg
structure FrOk (F:Fr):Prop where
 ok:KOk F.N F.S
 hN:F.N+1<1000000000
 ne:0<F.caps.length
 small:F.caps.length≤40
 len:F.rg.length=F.caps.length
 env:¬ (F.env<0∨F.env≥(F.S.envs.length:Int))
 pl:∀ (j:Nat) (cap:Int) (lo n:Nat),F.caps[j]?=some cap→F.rg[j]?=some (lo,n)→∀ (a m:Nat) (right:Int),right=1∨right=2→a+m≤n→V6 F.S.tabs F.S.regs F.env cap right a m=(((lo+a:Nat):Int),0)
 dj:RgOk F.rg
 own:∃ lo,F.rg[0]?=some (lo,492)
 brs:∀ (j lo n:Nat),0<j→F.rg[j]?=some (lo,n)→n=40
def Fr.at (F:Fr) (m:List (List UInt8)):KS:=N0 F.S (Y3 F.S.mem F.rg m)
structure CX where
 m:List (List UInt8)
 bad:List RecS
def An7:Nat→List RecS→List MapEntry
 | _,[]=>[]
 | i,r::l=>{ key:=.agg ⟨Af4 r⟩,val:=int 1,born:=i }::An7 (i+1) l
abbrev J28 (c k:Nat) (env:Int) (caps:List Int) (bad:List RecS) (x:Option Addr × Nat × Nat):List HP :=
 [pt c (.cells D38 false [P0 k,int env,.slice x.1 caps.length x.2.1,.map (some x.2.2)]),slC false B9 1 x.1 caps.length x.2.1 (caps.map int),pt x.2.2 (.map (An7 0 bad) bad.length)]
def Z6 (c k:Nat) (env:Int) (caps:List Int) (bad:List RecS):HP:=hex fun x=>sl (J28 c k env caps bad x)
instance {c k:Nat} {env:Int} {caps:List Int} {bad:List RecS}:Chk (Z6 c k env caps bad) (J28 c k env caps bad):=⟨rfl⟩
abbrev cmF (c k:Nat) (F:Fr) (x:CX):List HP:=[E1 k (F.at x.m),Z6 c k F.env F.caps x.bad,pu (Fit F.S.mem.length F.rg x.m)]
def cmC (c k:Nat) (F:Fr) (x:CX):HP:=hex fun _:Unit=>sl (cmF c k F x)
instance {c k:Nat} {F:Fr} {x:CX}:Chk (cmC c k F x) (fun _:Unit=>cmF c k F x):=⟨rfl⟩
def Ab4 (nc:Nat) (kind:Int):Int:=if kind=1 then 8 else if kind=2 then 12 else if kind=3 then 3+nc else 1
def L0 (nc:Nat) (r:RecS):Option (Nat × Nat × Nat) :=
 if r.index<0∨r.index≥Ab4 nc r.kind then none
 else if r.kind=1 then some (0,24*r.index.toNat,24)
 else if r.kind=2 then some (0,192+8*r.index.toNat,8)
 else if r.kind=3 then if r.index<4 then some (0,288+40*r.index.toNat,40) else some (r.index.toNat-3,0,40)
 else if r.kind=4 then some (0,448,40)
 else some (0,488,4)
def H47 (caps:List Int):Option (Nat × Nat × Nat)→List Value
 | some (j,a,n)=>[int (caps.getD j 0),int a,int n]
 | none=>[int 0,int 0,int 0]
theorem Ig3 (c k:Nat) (env:Int) (caps:List Int) (bad:List RecS) (kind:Int) (hs:caps.length≤40):CtP B0 Ah3 [P0 c,int kind] [Z6 c k env caps bad] (int (Ab4 caps.length kind)):=by
 have e:IntKind.wrap .i64 (IntKind.wrap .i64 (4+(caps.length:Int))-1)=3+(caps.length:Int):=by rw [B8,B8];omega
 refine CtP.of Eu4 rfl fun h r=>Tr.eq (Eu8 ..) ?_;refine Je ?_;refine B6 (Z6 c k env caps bad) fun ⟨a,n,mb⟩=>?_;refine Je ?_;unfold Ab4;by_cases h1:kind=1
 ·refine Yt (by simpa using h1) ?_;rw [if_pos h1];exact Jz
 refine Yf (by simpa using h1) ?_;rw [if_neg h1];by_cases h2:kind=2
 ·refine Yt (by simpa using h2) ?_;rw [if_pos h2];exact Jz
 refine Yf (by simpa using h2) ?_;rw [if_neg h2];by_cases h3:kind=3
 ·refine Yt (by simpa using h3) ?_;rw [if_pos h3];refine Ja ?_;intros;refine Ys fun o=>?_;rw [e];exact ⟨by first|rfl|trivial,by first|rfl|trivial⟩
 refine Yf (by simpa using h3) ?_;rw [if_neg h3];exact Jz
theorem Gk3 (c k:Nat) (env:Int) (caps:List Int) (bad:List RecS) (rc:RecS) (hs:caps.length≤40) (hn:0<caps.length):Ct B0 Y5 [P0 c,.agg ⟨Af4 rc⟩] [Z6 c k env caps bad] fun v own =>
  v=.tuple ⟨[.agg ⟨H47 caps (L0 caps.length rc)⟩,.bool (L0 caps.length rc).isSome]⟩∧own [Z6 c k env caps bad]:=by
 have hg:∀ j,j<caps.length→(caps.map int)[j]?=some (int (caps.getD j 0)):=fun j hj=>by rw [List.getElem?_map,U5 0 hj];rfl
 refine Co Ej7 (fun _=>Ej6 ..) fun h r=>?_;refine Jb ?_;intros;refine Tr.orG (c:=decide (rc.index≥Ab4 caps.length rc.kind)) (fun hb=>?_) ?_
 ·refine Ja ?_;intros;refine Tr.pcall (Ig3 c k env caps bad rc.kind hs) ?_;refine Je ?_;exact Jz
 by_cases hi:rc.index<0∨rc.index≥Ab4 caps.length rc.kind
 ·refine Yt (by simp only [Bool.or_eq_true,decide_eq_true_eq];exact hi) ?_;have e:L0 caps.length rc=none:=by unfold L0;rw [if_pos hi]
  rw [e];refine Ja ?_;intros;exact Yz
 refine Yf (by simp only [Bool.or_eq_false_iff,decide_eq_false_iff_not];omega) ?_;refine B6 (Z6 c k env caps bad) fun ⟨a,n,mb⟩=>?_;refine Je ?_;(refine Ja ?_;intros;repeat(refine Gw ?_;rintro px rfl;refine Ja ?_;intros));refine Tr.xIntS (v:=caps.getD 0 0) (hg 0 hn) ?_;refine Ja ?_;intros;by_cases h1:rc.kind=1
 ·refine Yt (by simpa using h1) ?_;have e:L0 caps.length rc=some (0,24*rc.index.toNat,24):=by unfold L0;rw [if_neg hi,if_pos h1]
  have hm:Ab4 caps.length rc.kind=8:=by unfold Ab4;rw [if_pos h1]
  have e1:IntKind.wrap .i64 (24*rc.index)=((24*rc.index.toNat:Nat):Int):=by rw [B8];omega
  rw [e,e1];refine Ja ?_;intros;refine B1 (Z6 c k env caps bad) ⟨some px,n,mb⟩ ?_;refine Je ?_;exact Yz
 refine Yf (by simpa using h1) ?_;by_cases h2:rc.kind=2
 ·refine Ja ?_;intros;refine Yt (by simpa using h2) ?_;have e:L0 caps.length rc=some (0,192+8*rc.index.toNat,8):=by unfold L0;rw [if_neg hi,if_neg h1,if_pos h2]
  have hm:Ab4 caps.length rc.kind=12:=by unfold Ab4;rw [if_neg h1,if_pos h2]
  have e1:IntKind.wrap .i64 (192+IntKind.wrap .i64 (8*rc.index))=((192+8*rc.index.toNat:Nat):Int):=by rw [B8,B8];omega
  rw [e,e1];refine Ja ?_;intros;refine B1 (Z6 c k env caps bad) ⟨some px,n,mb⟩ ?_;refine Je ?_;exact Yz
 refine Ja ?_;intros;refine Yf (by simpa using h2) ?_;refine Jb ?_;intros;refine Tr.andG (c:=decide (rc.index<4)) (fun hb=>?_) ?_
 ·exact Jz
 by_cases h3:rc.kind=3
 ·have hm:Ab4 caps.length rc.kind=3+caps.length:=by unfold Ab4;rw [if_neg h1,if_neg h2,if_pos h3]
  by_cases h4:rc.index<4
  ·refine Yt (by simp [h3,h4]) ?_;have e:L0 caps.length rc=some (0,288+40*rc.index.toNat,40):=by unfold L0;rw [if_neg hi,if_neg h1,if_neg h2,if_pos h3,if_pos h4]
   have e1:IntKind.wrap .i64 (288+IntKind.wrap .i64 (40*rc.index))=((288+40*rc.index.toNat:Nat):Int):=by rw [B8,B8];omega
   rw [e,e1];refine Ja ?_;intros;refine B1 (Z6 c k env caps bad) ⟨some px,n,mb⟩ ?_;refine Je ?_;exact Yz
  ·refine Yf (by simp [h4]) ?_;have e:L0 caps.length rc=some (rc.index.toNat-3,0,40):=by unfold L0;rw [if_neg hi,if_neg h1,if_neg h2,if_pos h3,if_neg h4]
   have e1:IntKind.wrap .i64 (IntKind.wrap .i64 (rc.index-4)+1)=((rc.index.toNat-3:Nat):Int):=by rw [B8,B8];omega
   rw [e,e1];refine Ja ?_;intros;refine Yt (by simpa using h3) ?_;refine Ja ?_;intros;rw [Int.toNat_natCast];refine Je ?_;refine Tr.xIntS (v:=caps.getD (rc.index.toNat-3) 0) (hg _ (by omega)) ?_;refine Ja ?_;intros;refine B1 (Z6 c k env caps bad) ⟨some px,n,mb⟩ ?_;refine Je ?_;exact Yz
 refine Yf (by simp [h3]) ?_;refine Ja ?_;intros;refine Yf (by simpa using h3) ?_;refine Ja ?_;intros;by_cases h4:rc.kind=4
 ·refine Yt (by simpa using h4) ?_;have e:L0 caps.length rc=some (0,448,40):=by unfold L0;rw [if_neg hi,if_neg h1,if_neg h2,if_neg h3,if_pos h4]
  rw [e];refine Ja ?_;intros;refine B1 (Z6 c k env caps bad) ⟨some px,n,mb⟩ ?_;refine Je ?_;exact Yz
 refine Yf (by simpa using h4) ?_;have e:L0 caps.length rc=some (0,488,4):=by unfold L0;rw [if_neg hi,if_neg h1,if_neg h2,if_neg h3,if_neg h4]
 rw [e];refine Ja ?_;intros;refine B1 (Z6 c k env caps bad) ⟨some px,n,mb⟩ ?_;refine Je ?_;exact Yz
theorem I83:Ar3 PR 8 E9=some [TypeDesc.int .i64,TypeDesc.int .i64]:=by kernel_rfl
theorem Jw5:E40 PR E9=some true:=by kernel_rfl
instance {a b:Int}:KeyC PR E9 (.agg ⟨[.int .i64 a,.int .i64 b]⟩):=⟨fun x=>by
 unfold NN.keyN;rw [I83,Jw5];rfl⟩
theorem Gf2 (r:RecS):∀ (l:List RecS) (i j:Nat),Ao7 (.agg ⟨Af4 r⟩) (An7 j l) i=some (if r ∈ l then some (i+l.idxOf r) else none)
 | [],i,j=>by simp [An7,Ao7]
 | q::l,i,j=>by
  have ih:=Gf2 r l (i+1) (j+1);obtain ⟨qk,qi⟩:=q;obtain ⟨rk,ri⟩:=r;simp only [An7,Ao7,Bs9,Af4,eqs,eq1,decide_true,List.mem_cons] at ih ⊢;by_cases h:rk=qk∧ri=qi
  ·obtain ⟨rfl,rfl⟩:=h;simp
  ·have e:(rk==qk && (ri==qi && true))=false:=by
    rw [Bool.and_eq_false_iff];by_cases h1:rk=qk
    ·right;simp;intro h2;exact h ⟨h1,h2⟩
    ·left;simpa using h1
   have hne:¬ (({ kind:=rk,index:=ri }:RecS)={ kind:=qk,index:=qi }):=fun e=>by
    rw [RecS.mk.injEq] at e;exact h e
   rw [e];simp only [hne,false_or];rw [ih,List.idxOf_cons]
   have:(({ kind:=qk,index:=qi }:RecS)=={ kind:=rk,index:=ri })=false:=by
    rw [beq_eq_false_iff_ne];exact fun e=>hne e.symm
   rw [this,cond_false]
   split<;>simp;omega
theorem Ed6:∀ (l:List RecS) (j:Nat),(An7 j l).length=l.length
 | [],_=>rfl
 | _::l,j=>by simp [An7,Ed6 l]
theorem H61:∀ (l:List RecS) (j i:Nat) (r:RecS),l[i]?=some r→(An7 j l)[i]?=some { key:=.agg ⟨Af4 r⟩,val:=int 1,born:=j+i }
 | [],_,i,r,h=>by simp at h
 | q::l,j,0,r,h=>by simp at h;subst h;rfl
 | q::l,j,i+1,r,h=>by
  have:=H61 l (j+1) i r (by simpa using h);rw [An7,List.getElem?_cons_succ,this];congr 2;omega
theorem Dc4 (r:RecS) (l:List RecS):At5 (int 0) (.agg ⟨Af4 r⟩) (An7 0 l)=some (if r ∈ l then (int 1,true) else (int 0,false)):=by
 unfold At5;rw [Gf2];by_cases h:r ∈ l
 ·rw [if_pos h,if_pos h];have hi:=List.idxOf_lt_length_of_mem h;have hg:l[l.idxOf r]?=some r:=by rw [List.getElem?_eq_getElem hi,List.getElem_idxOf]
  simp only [Nat.zero_add];rw [H61 l 0 _ r hg]
 ·rw [if_neg h,if_neg h]
theorem Ih3:∀ (l m:List RecS) (j:Nat),An7 j (l++m)=An7 j l++An7 (j+l.length) m
 | [],m,j=>by simp [An7]
 | q::l,m,j=>by simp only [List.cons_append,An7,Ih3 l m (j+1),List.length_cons];congr 2;congr 1;omega
theorem E18 {r:RecS} {l:List RecS} (h:¬ r ∈ l):Ep6 (int 0) (.agg ⟨Af4 r⟩) (An7 0 l) l.length=some (int 0,l.length,.map (An7 0 l++[{ key:=.agg ⟨Af4 r⟩,val:=int 0,born:=l.length }]) (l.length+1)):=by
 unfold Ep6;rw [Gf2,if_neg h]
theorem Hq7 (r:RecS) (e:MapEntry):∀ (l:List RecS) (i j:Nat),¬ r ∈ l→Ao7 (.agg ⟨Af4 r⟩) (An7 j l++[e]) i=Ao7 (.agg ⟨Af4 r⟩) [e] (i+l.length)
 | [],i,j,h=>by simp [An7]
 | q::l,i,j,h=>by
  have ih:=Hq7 r e l (i+1) (j+1) (fun hm=>h (List.mem_cons_of_mem _ hm))
  have hq:Bs9 (.agg ⟨Af4 r⟩) (.agg ⟨Af4 q⟩)=some false:=by
   obtain ⟨qk,qi⟩:=q;obtain ⟨rk,ri⟩:=r;simp only [Bs9,Af4,eqs,eq1,decide_true]
   congr 1
   rw [Bool.and_eq_false_iff];by_cases h1:rk=qk
   ·right;simp;intro h2;exact h (by subst h1 h2;exact List.mem_cons_self ..)
   ·left;simpa using h1
  show (match Bs9 (.agg ⟨Af4 r⟩) (.agg ⟨Af4 q⟩) with
   | some true=>some (some i)
   | some false=>Ao7 (.agg ⟨Af4 r⟩) (An7 (j+1) l++[e]) (i+1)
   | none=>none)=_
  rw [hq];simp only;rw [ih];congr 1;simp;omega
theorem El0 {r:RecS} {l:List RecS} (h:¬ r ∈ l):At5 (int 0) (.agg ⟨Af4 r⟩) (An7 0 l++[{ key:=.agg ⟨Af4 r⟩,val:=int 0,born:=l.length }])=some (int 0,true):=by
 unfold At5;rw [Hq7 r _ l 0 0 h];obtain ⟨rk,ri⟩:=r;simp only [Ao7,Bs9,Af4,eqs,eq1,decide_true,BEq.rfl,Bool.and_self,Nat.zero_add];rw [List.getElem?_append_right (by rw [Ed6];exact Nat.le_refl _),Ed6];simp
theorem Dv8:∀ (l:List RecS) (j:Nat) (n:Nat) (e:MapEntry) (i:Nat),e.born=n→j+l.length≤n→By4 (n:Int) (An7 j l++[e]) i=some (i+l.length)
 | [],j,n,e,i,h,hl=>by simp [An7,By4,h]
 | q::l,j,n,e,i,h,hl=>by
  have ih:=Dv8 l (j+1) n e (i+1) h (by simp at hl;omega);simp only [An7,List.cons_append,By4];have:(((j:Nat):Int)==(n:Int))=false:=by simp at hl ⊢;omega
  rw [this,cond_false,ih];congr 1;simp;omega
theorem Hq5 (f:MapEntry→MapEntry) (e:MapEntry):∀ (l:List MapEntry),modN f l.length (l++[e])=l++[f e]
 | []=>rfl
 | q::l=>by simp [modN,Hq5 f e l]
theorem E58 (r:RecS) (l:List RecS):modN (fun e=>{ e with val:=int (IntKind.wrap .i64 (0+1)) }) l.length (An7 0 l++[{ key:=.agg ⟨Af4 r⟩,val:=int 0,born:=l.length }])=An7 0 (l++[r]):=by
 rw [show l.length=(An7 0 l).length from (Ed6 l 0).symm,Hq5,Ih3];simp [An7,Ed6];decide
theorem Fr.mem_at (F:Fr) (m:List (List UInt8)):(F.at m).mem=Y3 F.S.mem F.rg m:=rfl
theorem Fr.at_ok {F:Fr} (k:FrOk F) {m:List (List UInt8)} (f:Fit F.S.mem.length F.rg m):KOk F.N (F.at m):=by
 have:=k.ok;exact ⟨this.envs,this.tabs,this.space,this.quota,by rw [Fr.mem_at,B90 f];exact this.mem,this.regs,this.may,this.mayl,this.nsect,this.sects,this.now⟩
theorem Jn2 {F:Fr} (k:FrOk F) {r:RecS} {j a n:Nat} (h:L0 F.caps.length r=some (j,a,n)):∃ lo z,F.rg[j]?=some (lo,z)∧a+n≤z∧j<F.caps.length:=by
 obtain ⟨lo0,h0⟩:=k.own;have hl:=k.len;have hn:=k.ne;unfold L0 at h
 split at h;· cases h
 rename_i hi
 split at h
 ·rename_i h1
  have hm:Ab4 F.caps.length r.kind=8:=by unfold Ab4;rw [if_pos h1]
  cases h;exact ⟨lo0,492,h0,by omega,hn⟩
 rename_i h1
 split at h
 ·rename_i h2
  have hm:Ab4 F.caps.length r.kind=12:=by unfold Ab4;rw [if_neg h1,if_pos h2]
  cases h;exact ⟨lo0,492,h0,by omega,hn⟩
 rename_i h2
 split at h
 ·rename_i h3
  have hm:Ab4 F.caps.length r.kind=3+F.caps.length:=by unfold Ab4;rw [if_neg h1,if_neg h2,if_pos h3]
  split at h
  ·cases h;exact ⟨lo0,492,h0,by omega,hn⟩
  ·cases h
   have hlt:r.index.toNat-3<F.rg.length:=by omega
   have hg:=List.getElem?_eq_getElem hlt;generalize hx:F.rg[r.index.toNat-3]=x at hg;obtain ⟨lo,z⟩:=x;have:=k.brs _ lo z (by omega) hg;exact ⟨lo,z,hg,by omega,by omega⟩
 split at h<;>(cases h;exact ⟨lo0,492,h0,by omega,hn⟩)
def Y1 (kind:Int):Nat:=if kind=1 then 24 else if kind=2 then 8 else if kind=3 then 40 else if kind=4 then 40 else 4
theorem D50 {nc:Nat} {r:RecS} {j a n:Nat} (h:L0 nc r=some (j,a,n)):n=Y1 r.kind:=by
 unfold L0 at h;unfold Y1
 split at h;· cases h
 split at h
 ·rename_i h1;cases h;rw [if_pos h1]
 rename_i h1
 rw [if_neg h1]
 split at h
 ·rename_i h2;cases h;rw [if_pos h2]
 rename_i h2
 rw [if_neg h2]
 split at h
 ·rename_i h3;rw [if_pos h3];split at h<;>(cases h;rfl)
 rename_i h3
 rw [if_neg h3]
 split at h
 ·rename_i h4;cases h;rw [if_pos h4]
 ·rename_i h4;cases h;rw [if_neg h4]
def rdX (X:CX) (r:RecS):Option (List UInt8) :=
 match L0 X.m.length r with
 | some (j,a,n)=>if r ∈ X.bad then none else some (slice (X.m.getD j []) a n)
 | none=>none
def wrX (X:CX) (r:RecS) (b:List UInt8) (ok:Bool):Bool × CX :=
 match L0 X.m.length r with
 | some (j,a,n)=>if ok=true∧¬ r ∈ X.bad then (true,{ X with m:=X.m.set j (Q1 (X.m.getD j []) a b) }) else (false,X)
 | none=>(false,X)
theorem Fit.mlen {F:Fr} (k:FrOk F) {m:List (List UInt8)} (f:Fit F.S.mem.length F.rg m):m.length=F.caps.length:=by rw [f.len,k.len]
theorem Eb5 {F:Fr} (k:FrOk F) {m:List (List UInt8)} (f:Fit F.S.mem.length F.rg m) {r:RecS} {j a n:Nat} (h:L0 F.caps.length r=some (j,a,n)) :
  ∃ lo z cap,F.caps[j]?=some cap∧F.rg[j]?=some (lo,z)∧a+n≤z∧m[j]?=some (m.getD j [])∧(m.getD j []).length=z∧lo+z≤F.S.mem.length∧cap=F.caps.getD j 0:=by
 obtain ⟨lo,z,hr,ha,hj⟩:=Jn2 k h;obtain ⟨h1,x,hx,hl⟩:=f.each j lo z hr;have e:m.getD j []=x:=by rw [List.getD_eq_getElem?_getD,hx];rfl
 exact ⟨lo,z,F.caps.getD j 0,U5 0 hj,hr,ha,by rw [e];exact hx,by rw [e];exact hl,h1,rfl⟩
theorem Jx8 {F:Fr} (k:FrOk F) {X:CX} (f:Fit F.S.mem.length F.rg X.m) {r:RecS} {l:List UInt8} (h:rdX X r=some l):l.length=Y1 r.kind:=by
 unfold rdX at h;rw [f.mlen k] at h
 cases hp:L0 F.caps.length r with
 | none=>rw [hp] at h;cases h
 | some p =>
  obtain ⟨j,a,n⟩:=p;rw [hp] at h;obtain ⟨lo,z,cap,_,_,ha,hx,hl,_⟩:=Eb5 k f hp;simp only at h
  split at h
  ·cases h
  ·cases h;rw [Hq3 (by omega),D50 hp]
theorem Ka3 {F:Fr} (k:FrOk F) {m:List (List UInt8)} (f:Fit F.S.mem.length F.rg m) {r:RecS} {j a n:Nat} (h:L0 F.caps.length r=some (j,a,n)) :
  Z1 (F.at m) F.env ⟨1,F.caps.getD j 0,(a:Int),(n:Int),0,0,[]⟩=((0,0,slice (m.getD j []) a n),F.at m):=by
 obtain ⟨lo,z,cap,hc,hr,ha,hx,hl,hz,rfl⟩:=Eb5 k f h;have hp:=k.pl j _ lo z hc hr a n 1 (.inl rfl) ha;have lp:=B90 f
 have hb:De4 (Y3 F.S.mem F.rg m) ((lo+a:Nat):Int) (n:Int)=some (slice (m.getD j []) a n):=by
  unfold De4;rw [if_pos (by rw [lp];omega),Int.toNat_natCast,Int.toNat_natCast];rw [← Hh8 f k.dj hr hx ha];rfl
 have e:Aq4 (F.at m).tabs (F.at m).regs (F.at m).mem F.env (F.caps.getD j 0) (a:Int) (n:Int)=(slice (m.getD j []) a n,0):=by
  unfold Aq4;rw [show V6 (F.at m).tabs (F.at m).regs F.env (F.caps.getD j 0) 1 (a:Int) (n:Int)=(((lo+a:Nat):Int),0) from hp];rw [if_neg (by simp),show De4 (F.at m).mem _ _=_ from hb]
 unfold Z1;rw [if_neg (show ¬ (F.env<0∨F.env≥((F.at m).envs.length:Int)) from k.env)];unfold kDo;rw [if_pos rfl,e]
theorem J42 {F:Fr} (k:FrOk F) {m:List (List UInt8)} (f:Fit F.S.mem.length F.rg m) {r:RecS} {j a n:Nat} (h:L0 F.caps.length r=some (j,a,n)) {b:List UInt8} (hb:b.length=n) :
  Z1 (F.at m) F.env ⟨2,F.caps.getD j 0,(a:Int),0,0,0,b⟩=((0,0,[]),F.at (m.set j (Q1 (m.getD j []) a b))):=by
 obtain ⟨lo,z,cap,hc,hr,ha,hx,hl,hz,rfl⟩:=Eb5 k f h;have hp:=k.pl j _ lo z hc hr a n 2 (.inr rfl) ha;have lp:=B90 f
 have hs:Bn6 (Y3 F.S.mem F.rg m) ((lo+a:Nat):Int) b=some (Y3 F.S.mem F.rg (m.set j (Q1 (m.getD j []) a b))):=by
  unfold Bn6;rw [if_pos (by rw [lp];omega),Int.toNat_natCast];rw [← Ip1 f k.dj hr hx (by omega)];rfl
 have e:As8 (F.at m).tabs (F.at m).regs (F.at m).mem F.env (F.caps.getD j 0) (a:Int) b=(0,Y3 F.S.mem F.rg (m.set j (Q1 (m.getD j []) a b))):=by
  unfold As8;rw [hb,show V6 (F.at m).tabs (F.at m).regs F.env (F.caps.getD j 0) 2 (a:Int) (n:Int)=(((lo+a:Nat):Int),0) from hp];rw [if_neg (by simp),show Bn6 (F.at m).mem _ _=_ from hs]
 unfold Z1;rw [if_neg (show ¬ (F.env<0∨F.env≥((F.at m).envs.length:Int)) from k.env)];unfold kDo;rw [if_neg (show ¬ ((2:Int)=1) by decide),if_pos rfl,e];rfl
theorem Jw0 {F:Fr} (k:FrOk F) {X:CX} (f:Fit F.S.mem.length F.rg X.m) {r:RecS} {b:List UInt8} {ok:Bool} (hb:ok=true→b.length=Y1 r.kind):Fit F.S.mem.length F.rg (wrX X r b ok).2.m:=by
 unfold wrX;rw [f.mlen k]
 cases hp:L0 F.caps.length r with
 | none=>exact f
 | some p =>
  obtain ⟨j,a,n⟩:=p;obtain ⟨lo,z,cap,hc,hr,ha,hx,hl,hz,_⟩:=Eb5 k f hp;simp only
  split
  ·rename_i hk
   exact f.set hr (by rw [Am6 (by rw [hb hk.1,← D50 hp];omega)];exact hl)
  ·exact f
instance {caps:List Int} {o:Option (Nat × Nat × Nat)}:LenC (H47 caps o) 3:=⟨by cases o<;>rfl⟩
theorem Jr3 (caps:List Int) (o:Option (Nat × Nat × Nat)):(H47 caps o).all Value.oneCell=true:=by cases o<;>rfl
instance {caps:List Int} {o:Option (Nat × Nat × Nat)} {cs:List Value} [k:LenC cs 3]:SetsC cs 0 (H47 caps o) (H47 caps o):=⟨Bx3 k.ok LenC.ok (Jr3 caps o)⟩
instance {rc:RecS}:PartC (Af4 rc) 0 2 (Af4 rc):=⟨rfl⟩
theorem Is2 (r:RecS) (l:List RecS):(if r ∈ l then (int 1,true) else (int 0,false))=(int (if r ∈ l then 1 else 0),decide (r ∈ l)):=by split<;>simp [*]
theorem Iu7 (r:RecS) (l:List RecS):decide ((if r ∈ l then (1:Int) else 0)>0)=decide (r ∈ l):=by split<;>simp [*]
theorem Ez4 (k:Nat) (S:KS) (N:Nat) (ok:KOk N S) (hN:N+1<1000000000) (env:Int) (c:CallS) (ba:Option Addr) (bc:Nat) (ro:Bool) (h5:c.op≠5) :
  Ct B0 N7 [P0 k,int env,.agg ⟨Bx7 c ba bc⟩] [E1 k S,slC ro A9 1 ba c.b.length bc (A0 c.b)] fun v own=>∃ x d,v=.agg ⟨[int (Z1 S env c).1.1,int (Z1 S env c).1.2.1,.slice x (Z1 S env c).1.2.2.length d]⟩ ∧
    own [slC false A9 1 x (Z1 S env c).1.2.2.length d (A0 (Z1 S env c).1.2.2),E1 k (Z1 S env c).2,slC ro A9 1 ba c.b.length bc (A0 c.b)]:=by
 intro h r o;obtain ⟨pq,o1⟩:=Own.ex (f:=fun pq=>slX ro A9 1 ba c.b.length bc pq (A0 c.b)) (o.perm (.swap _ _ _));obtain ⟨v,h',e,x,d,rfl,o2⟩:=Jg9 k S N ok hN env c ba bc ro pq h5 h r (o1.perm (.swap _ _ _));refine ⟨_,h',e,x,d,rfl,?_⟩;have o3:=o2.picks [2] rfl;exact (Own.inex (f:=fun pq=>slX ro A9 1 ba c.b.length bc pq (A0 c.b)) pq o3).picks [1,1,0] rfl
theorem E08 (c k:Nat) (F:Fr) (X:CX) (rc:RecS) (ok:FrOk F):Ct B0 U6 [P0 c,.agg ⟨Af4 rc⟩] [cmC c k F X] fun v own =>
  (∃ l a cp,rdX X rc=some l∧l.length=Y1 rc.kind∧v=.tuple ⟨[.slice a l.length cp,.bool true]⟩∧own [slC false A9 1 a l.length cp (A0 l),cmC c k F X]) ∨
  (rdX X rc=none∧v=.tuple ⟨[.slice none 0 0,.bool false]⟩∧own [cmC c k F X]):=by
 refine Co Et9 (fun _=>Es1 ..) fun h r=>?_;refine B6 (cmC c k F X) fun u=>?_;refine Je ?_;refine P9 2 rfl fun f=>?_;refine Ja ?_;intros;refine Yc (Gk3 c k F.env F.caps X.bad rc ok.small ok.ne) ?_;rintro _ h ⟨rfl,o⟩<;>(refine Jg o ?_;intros);have em:=f.mlen ok
 cases hp:L0 F.caps.length rc with
 | none =>
  refine Jb ?_;intros;refine Yb (Yt rfl ?_);refine Yv ?_;refine Ja ?_;intros;refine B1 (cmC c k F X) () ?_;refine Je ?_;refine Ys fun o=>?_;exact .inr ⟨by unfold rdX;rw [em,hp],rfl,o.sub⟩
 | some p =>
  obtain ⟨j,a,n⟩:=p;refine B6 (Z6 c k F.env F.caps X.bad) fun ⟨ca,cn,mb⟩=>?_;refine Je ?_;refine Jb ?_;intros;refine Tr.orG (c:=decide (rc ∈ X.bad)) (fun _=>?_) ?_
  ·refine Ja ?_;intros;rw [Dc4,Is2];refine Ja ?_;intros;refine Ys fun o=>?_;rw [Iu7];exact ⟨by first|rfl|trivial,by first|rfl|trivial⟩
  by_cases hb:rc ∈ X.bad
  ·rw [decide_eq_true hb];refine Ja ?_;intros;refine B1 (Z6 c k F.env F.caps X.bad) ⟨ca,cn,mb⟩ ?_;refine Je ?_;refine B1 (cmC c k F X) () ?_;refine Je ?_;refine Ys fun o=>?_;exact .inr ⟨by unfold rdX;rw [em,hp];exact if_pos hb,rfl,o.sub⟩
  ·rw [decide_eq_false hb];refine Yf rfl ?_;refine Ja ?_;intros;refine B1 (Z6 c k F.env F.caps X.bad) ⟨ca,cn,mb⟩ ?_;refine Je ?_;have J:=Gs1 k (F.at X.m) F.N (F.at_ok ok f) ok.hN F.env 1 (F.caps.getD j 0) (a:Int) (n:Int) 0 0 (by decide);rw [Ka3 ok f hp] at J;refine Yc (J) ?_;rintro _ h ⟨y,d,rfl,o⟩<;>(refine Jf o ?_;intros);refine Yf rfl ?_;refine Ja ?_;intros;refine B1 (cmC c k F X) () ?_;refine Je ?_;refine Ys fun o=>?_;have e:rdX X rc=some (slice (X.m.getD j []) a n):=by unfold rdX;rw [em,hp];exact if_neg hb
   exact .inl ⟨_,y,d,e,Jx8 ok f e,rfl,o.sub⟩
theorem Dc3 (c k:Nat) (F:Fr) (X:CX) (rc:RecS) (ok:FrOk F) (bs:List UInt8) (g:Bool) (ba:Option Addr) (bc:Nat) (hb:g=true→bs.length=Y1 rc.kind) :
  Ct B0 P4 [P0 c,.agg ⟨Af4 rc⟩,.slice ba bs.length bc,.bool g] [cmC c k F X,slC false A9 1 ba bs.length bc (A0 bs)] fun v own =>
   v=.bool (wrX X rc bs g).1∧own [cmC c k F (wrX X rc bs g).2,slC false A9 1 ba bs.length bc (A0 bs)]:=by
 refine Co Ej8 (fun _=>Ej5 ..) fun h r=>?_;refine B6 (cmC c k F X) fun u=>?_;refine Je ?_;refine P9 2 rfl fun f=>?_;refine Ja ?_;intros;refine Yc (Gk3 c k F.env F.caps X.bad rc ok.small ok.ne) ?_;rintro _ h ⟨rfl,o⟩<;>(refine Jg o ?_;intros);have em:=f.mlen ok
 cases hp:L0 F.caps.length rc with
 | none =>
  refine Jb ?_;intros;refine Yb (Yt rfl ?_);refine Yv ?_;refine Yb (Yt rfl ?_);refine Yv ?_;refine Ja ?_;intros;refine B1 (cmC c k F X) () ?_;refine Je ?_;refine Ys fun o=>?_;have e:wrX X rc bs g=(false,X):=by unfold wrX;rw [em,hp]
  rw [e];exact ⟨by first|rfl|trivial,o.sub⟩
 | some p =>
  obtain ⟨j,a,n⟩:=p;refine B6 (Z6 c k F.env F.caps X.bad) fun ⟨ca,cn,mb⟩=>?_;refine Je ?_;refine Jb ?_;intros;refine Yb (Yf rfl ?_);refine Yv ?_;refine Jb ?_;intros;refine Tr.orG (c:=decide (rc ∈ X.bad)) (fun _=>?_) ?_
  ·refine Ja ?_;intros;rw [Dc4,Is2];refine Ja ?_;intros;refine Ys fun o=>?_;rw [Iu7];exact ⟨by first|rfl|trivial,by first|rfl|trivial⟩
  by_cases hg:g=true∧¬ rc ∈ X.bad
  ·have e:wrX X rc bs g=(true,{ X with m:=X.m.set j (Q1 (X.m.getD j []) a bs) }):=by unfold wrX;rw [em,hp];exact if_pos hg
   have f2:=Jw0 (r:=rc) (b:=bs) (ok:=g) ok f hb;rw [e] at f2;obtain ⟨rfl,hg2⟩:=hg;rw [e,decide_eq_false hg2];refine Yf rfl ?_;refine Ja ?_;intros;refine B1 (Z6 c k F.env F.caps X.bad) ⟨ca,cn,mb⟩ ?_;refine Je ?_;have hl:bs.length=n:=by rw [hb rfl,D50 hp]
   have J:=Ez4 k (F.at X.m) F.N (F.at_ok ok f) ok.hN F.env ⟨2,F.caps.getD j 0,(a:Int),0,0,0,bs⟩ ba bc false (show ((2:Int)≠5) by decide);rw [J42 ok f hp hl] at J;refine Yc (J) ?_;rintro _ h ⟨y,d,rfl,o⟩<;>(refine Jf o ?_;intros);refine Ax8 (show Fit F.S.mem.length F.rg (X.m.set j (Q1 (X.m.getD j []) a bs)) from f2) ?_;refine B1 (cmC c k F { X with m:=X.m.set j (Q1 (X.m.getD j []) a bs) }) () ?_;refine Je ?_;exact Yz
  ·have e:wrX X rc bs g=(false,X):=by unfold wrX;rw [em,hp];exact if_neg hg
   rw [e];refine Yt ?_ ?_
   ·cases g with
    | false=>rfl
    | true=>simpa using hg
   refine B1 (Z6 c k F.env F.caps X.bad) ⟨ca,cn,mb⟩ ?_;refine Je ?_;refine B1 (cmC c k F X) () ?_;refine Je ?_;refine Ys fun o=>?_;exact ⟨by first|rfl|trivial,o.sub⟩
def Ab6 {α:Type} (dec:List UInt8→α × Int) (z:α) (X:CX) (rc:RecS):(α × Int) × CX :=
 match rdX X rc with
 | some l=>(dec l,if (dec l).2=2 then { X with bad:=X.bad++[rc] } else X)
 | none=>((z,2),X)
theorem E87 {X:CX} {rc:RecS} {l:List UInt8} (h:rdX X rc=some l):¬ rc ∈ X.bad:=by
 unfold rdX at h
 split at h
 ·split at h
  ·cases h
  ·assumption
 ·cases h
theorem I77 (l:List UInt8) (h:(Aa5 l).2≠1):(Aa5 l).1=.zero:=by
 unfold Aa5 at *;split<;>first|rfl|(split<;>first|rfl|(simp_all;done))
theorem I63 (l:List UInt8) (h:(Ad2 l).2≠1):(Ad2 l).1=.zero:=by
 unfold Ad2 at *;split<;>first|rfl|(split<;>first|rfl|(simp_all;done))
theorem Jg1 (l:List UInt8) (h:(V9 l).2≠1):(V9 l).1=.zero:=by
 unfold V9 at *;split<;>first|rfl|(split<;>first|rfl|(simp_all;done))
theorem Jy0 (c k:Nat) (F:Fr) (X:CX) (rc:RecS) (ok:FrOk F) (hk:Y1 rc.kind=24):Ct B0 P5 [P0 c,.agg ⟨Af4 rc⟩,.func (.func A17) ⟨[]⟩ ⟨[]⟩] [cmC c k F X] fun v own =>
  v=.tuple ⟨[.agg ⟨B5 (Ab6 Aa5 .zero X rc).1.1⟩,int (Ab6 Aa5 .zero X rc).1.2]⟩∧own [cmC c k F (Ab6 Aa5 .zero X rc).2]:=by
 refine Co Ay8 (fun _=>D65 ..) fun h r=>?_;refine Ja ?_;intros;refine Yc (E08 c k F X rc ok) ?_;rintro v h (⟨l,a,cp,hr,hl,rfl,o⟩|⟨hr,rfl,o⟩)
 ·refine (?_:Tr _ _ _ _) o;refine Je ?_;have e:Ab6 Aa5 .zero X rc=(Aa5 l,if (Aa5 l).2=2 then { X with bad:=X.bad++[rc] } else X):=by unfold Ab6;rw [hr]
  have hb:=E87 hr;rw [e];rw [hk] at hl;rw [hl];refine Ja ?_;intros;refine Ye (Iv9 a cp l hl) fun h=>?_;intros;by_cases h2:(Aa5 l).2=2
  ·refine Yt (by simpa using h2) ?_;have hz:=I77 l (by omega);simp only [if_pos h2];refine B6 (cmC c k F X) fun u=>?_;refine Je ?_;refine B6 (Z6 c k F.env F.caps X.bad) fun ⟨ca,cn,mb⟩=>?_;refine Je ?_;refine Ja ?_;intros;rw [Dc4,if_neg hb];refine Ja ?_;intros;rw [E18 hb];refine Ja ?_;intros;rw [El0 hb];refine Ja ?_;intros;rw [Dv8 X.bad 0 X.bad.length _ 0 rfl (by omega),Nat.zero_add];refine Ja ?_;intros;rw [E58];refine Yj Ay8 (Bf4 ..) ?_;refine Yt (by rw [bne_iff_ne];omega) ?_;refine Ja ?_;intros;rw [show X.bad.length+1=(X.bad++[rc]).length by simp];refine B1 (Z6 c k F.env F.caps (X.bad++[rc])) ⟨ca,cn,mb⟩ ?_;refine Je ?_;refine B1 (cmC c k F { X with bad:=X.bad++[rc] }) () ?_;refine Je ?_;refine Ys fun o=>?_;exact ⟨by rw [hz]<;>rfl,o.sub⟩
  ·refine Yf (by simpa using h2) ?_;simp only [if_neg h2];refine Yj Ay8 (Bf4 ..) ?_;by_cases h1:(Aa5 l).2=1
   ·refine Yf (by simpa using h1) ?_;refine Ja ?_;intros;exact Yz
   ·refine Yt (by simpa using h1) ?_;refine Ja ?_;intros;refine Ys fun o=>?_;exact ⟨by rw [I77 l h1]<;>rfl,o.sub⟩
 ·refine (?_:Tr _ _ _ _) o;refine Je ?_;have e:Ab6 Aa5 .zero X rc=((.zero,2),X):=by unfold Ab6;rw [hr]
  rw [e];refine Ja ?_;intros;exact Yz
theorem Jv4 (c k:Nat) (F:Fr) (X:CX) (rc:RecS) (ok:FrOk F) (hk:Y1 rc.kind=8):Ct B0 P7 [P0 c,.agg ⟨Af4 rc⟩,.func (.func A12) ⟨[]⟩ ⟨[]⟩] [cmC c k F X] fun v own =>
  v=.tuple ⟨[.agg ⟨Am5 (Ab6 Ad2 .zero X rc).1.1⟩,int (Ab6 Ad2 .zero X rc).1.2]⟩∧own [cmC c k F (Ab6 Ad2 .zero X rc).2]:=by
 refine Co Ay0 (fun _=>D84 ..) fun h r=>?_;refine Ja ?_;intros;refine Yc (E08 c k F X rc ok) ?_;rintro v h (⟨l,a,cp,hr,hl,rfl,o⟩|⟨hr,rfl,o⟩)
 ·refine (?_:Tr _ _ _ _) o;refine Je ?_;have e:Ab6 Ad2 .zero X rc=(Ad2 l,if (Ad2 l).2=2 then { X with bad:=X.bad++[rc] } else X):=by unfold Ab6;rw [hr]
  have hb:=E87 hr;rw [e];rw [hk] at hl;rw [hl];refine Ja ?_;intros;refine Ye (Iy1 a cp l hl) fun h=>?_;intros;by_cases h2:(Ad2 l).2=2
  ·refine Yt (by simpa using h2) ?_;have hz:=I63 l (by omega);simp only [if_pos h2];refine B6 (cmC c k F X) fun u=>?_;refine Je ?_;refine B6 (Z6 c k F.env F.caps X.bad) fun ⟨ca,cn,mb⟩=>?_;refine Je ?_;refine Ja ?_;intros;rw [Dc4,if_neg hb];refine Ja ?_;intros;rw [E18 hb];refine Ja ?_;intros;rw [El0 hb];refine Ja ?_;intros;rw [Dv8 X.bad 0 X.bad.length _ 0 rfl (by omega),Nat.zero_add];refine Ja ?_;intros;rw [E58];refine Yj Ay0 (Bg5 ..) ?_;refine Yt (by rw [bne_iff_ne];omega) ?_;refine Ja ?_;intros;rw [show X.bad.length+1=(X.bad++[rc]).length by simp];refine B1 (Z6 c k F.env F.caps (X.bad++[rc])) ⟨ca,cn,mb⟩ ?_;refine Je ?_;refine B1 (cmC c k F { X with bad:=X.bad++[rc] }) () ?_;refine Je ?_;refine Ys fun o=>?_;exact ⟨by rw [hz]<;>rfl,o.sub⟩
  ·refine Yf (by simpa using h2) ?_;simp only [if_neg h2];refine Yj Ay0 (Bg5 ..) ?_;by_cases h1:(Ad2 l).2=1
   ·refine Yf (by simpa using h1) ?_;refine Ja ?_;intros;exact Yz
   ·refine Yt (by simpa using h1) ?_;refine Ja ?_;intros;refine Ys fun o=>?_;exact ⟨by rw [I63 l h1]<;>rfl,o.sub⟩
 ·refine (?_:Tr _ _ _ _) o;refine Je ?_;have e:Ab6 Ad2 .zero X rc=((.zero,2),X):=by unfold Ab6;rw [hr]
  rw [e];refine Ja ?_;intros;exact Yz
theorem Iu5 (c k:Nat) (F:Fr) (X:CX) (rc:RecS) (ok:FrOk F) (hk:Y1 rc.kind=40):Ct B0 N5 [P0 c,.agg ⟨Af4 rc⟩,.func (.func Au8) ⟨[]⟩ ⟨[]⟩] [cmC c k F X] fun v own =>
  v=.tuple ⟨[.agg ⟨M6 (Ab6 V9 .zero X rc).1.1⟩,int (Ab6 V9 .zero X rc).1.2]⟩∧own [cmC c k F (Ab6 V9 .zero X rc).2]:=by
 refine Co Ay5 (fun _=>D83 ..) fun h r=>?_;refine Ja ?_;intros;refine Yc (E08 c k F X rc ok) ?_;rintro v h (⟨l,a,cp,hr,hl,rfl,o⟩|⟨hr,rfl,o⟩)
 ·refine (?_:Tr _ _ _ _) o;refine Je ?_;have e:Ab6 V9 .zero X rc=(V9 l,if (V9 l).2=2 then { X with bad:=X.bad++[rc] } else X):=by unfold Ab6;rw [hr]
  have hb:=E87 hr;rw [e];rw [hk] at hl;rw [hl];refine Ja ?_;intros;refine Ye (I37 a cp l hl) fun h=>?_;intros;by_cases h2:(V9 l).2=2
  ·refine Yt (by simpa using h2) ?_;have hz:=Jg1 l (by omega);simp only [if_pos h2];refine B6 (cmC c k F X) fun u=>?_;refine Je ?_;refine B6 (Z6 c k F.env F.caps X.bad) fun ⟨ca,cn,mb⟩=>?_;refine Je ?_;refine Ja ?_;intros;rw [Dc4,if_neg hb];refine Ja ?_;intros;rw [E18 hb];refine Ja ?_;intros;rw [El0 hb];refine Ja ?_;intros;rw [Dv8 X.bad 0 X.bad.length _ 0 rfl (by omega),Nat.zero_add];refine Ja ?_;intros;rw [E58];refine Yj Ay5 (Bf7 ..) ?_;refine Yt (by rw [bne_iff_ne];omega) ?_;refine Ja ?_;intros;rw [show X.bad.length+1=(X.bad++[rc]).length by simp];refine B1 (Z6 c k F.env F.caps (X.bad++[rc])) ⟨ca,cn,mb⟩ ?_;refine Je ?_;refine B1 (cmC c k F { X with bad:=X.bad++[rc] }) () ?_;refine Je ?_;refine Ys fun o=>?_;exact ⟨by rw [hz]<;>rfl,o.sub⟩
  ·refine Yf (by simpa using h2) ?_;simp only [if_neg h2];refine Yj Ay5 (Bf7 ..) ?_;by_cases h1:(V9 l).2=1
   ·refine Yf (by simpa using h1) ?_;refine Ja ?_;intros;exact Yz
   ·refine Yt (by simpa using h1) ?_;refine Ja ?_;intros;refine Ys fun o=>?_;exact ⟨by rw [Jg1 l h1]<;>rfl,o.sub⟩
 ·refine (?_:Tr _ _ _ _) o;refine Je ?_;have e:Ab6 V9 .zero X rc=((.zero,2),X):=by unfold Ab6;rw [hr]
  rw [e];refine Ja ?_;intros;exact Yz
def G97 (g:Int):List UInt8:=[b8 g,211,B79 [b8 g,211],0]
def Av0 (l:List UInt8):Int × Int:=if byI l 0<8∧G97 (byI l 0)=l then (byI l 0,1) else (0,2)
theorem Hx8 (g:Int):Ct B0 Az4 [int g] [] fun v own =>
  (0≤g∧g<8∧∃ a c,v=.tuple ⟨[.slice a 4 c,.bool true]⟩∧own [slC false A9 1 a 4 c (A0 (G97 g))])∨(¬ (0≤g∧g<8)∧v=.tuple ⟨[.slice none 0 0,.bool false]⟩∧own []):=by
 refine Co Ga1 (fun _=>E71 ..) fun h r=>?_;refine Ja ?_;intros;by_cases hg:0≤g∧g<8
 ·refine Yf (by simp;omega) ?_;rw [Bx0];refine Yn fun b h=>?_;rw [show ([.int .u8 ((b8 g).toNat:Int),.int .u8 211]:List Value)=A0 [b8 g,211] from rfl];refine Ag4 0 rfl 1 2 rfl (by omega) ?_;refine Je ?_;refine Tr.pcall (Hg0 (slC false A9 1 (some ⟨b,0,none⟩) 2 2 (A0 [b8 g,211])) (some ⟨b,0,none⟩) false 2 2 2 [b8 g,211] 2 (by simp) (by simp [B3])) ?_;refine Ja ?_;intros;rw [show List.take 2 [b8 g,211]=[b8 g,211] from rfl,Eg2];refine Tr.xApd ⟨rfl,rfl,by simp [B3]⟩ fun a' c' h'=>?_;refine Je ?_;refine Ys fun o=>?_;exact .inl ⟨hg.1,hg.2,a',c',rfl,(show Own h' (_::slC false A9 1 a' 4 c' (A0 (G97 g))::_) from o).sub⟩
 ·refine Yt (by simp;omega) ?_;refine Ys fun o=>?_;exact .inr ⟨hg,rfl,o.sub⟩
theorem Jv3 (l:List UInt8):∀ (m i:Nat) (r:List UInt8),l.length-i=m→ByteArray.toList.loop ⟨⟨l⟩⟩ i r=r.reverse++l.drop i:=by
 intro m
 induction m with
 | zero =>
  intro i r hm;unfold ByteArray.toList.loop;rw [if_neg (show ¬ i<(ByteArray.mk ⟨l⟩).size by show ¬ i<l.length;omega),List.drop_eq_nil_of_le (by omega)];simp
 | succ m ih =>
  intro i r hm;have hlt:i<l.length:=by omega
  unfold ByteArray.toList.loop;rw [if_pos (show i<(ByteArray.mk ⟨l⟩).size from hlt),ih (i+1) _ (by omega),List.drop_eq_getElem_cons hlt]
  have:(ByteArray.mk ⟨l⟩).get! i=l[i]:=by
   show (Array.mk l)[i]! = l[i];simp [hlt]
  rw [this];simp
theorem Hr3 (l:List UInt8):(ByteArray.mk ⟨l⟩).toList=l:=by
 unfold ByteArray.toList;rw [Jv3 l _ 0 [] rfl];simp
theorem In2 (pb:HP) (ro:Bool) (a:Option Addr) (c:Nat) (l:List UInt8) (hl:l.length=4) [ks:IsSl pb a ro A9 1 4 c (A0 l)]:Ct B0 An1 [.slice a 4 c] [pb] fun v own=>v=.tuple ⟨[int (Av0 l).1,int (Av0 l).2]⟩∧own [pb]:=by
 refine Co Gv5 (fun _=>Gw8 ..) fun h r=>?_;refine Yf rfl ?_;(refine Ja ?_;intros;repeat(refine Gw ?_;rintro px rfl;refine Ja ?_;intros));refine Tr.xIntS (v:=byI l 0) (Ai6 (by omega)) ?_;simp only [byI,Aw1];refine Yc (Hx8 (byI l 0)) ?_;rintro v h (⟨h1,h2,a1,c1,rfl,o⟩|⟨hn,rfl,o⟩)
 ·refine (?_:Tr _ _ _ _) o;refine Je ?_;refine Ja ?_;intros;rw [Hr3,Hr3];by_cases he:G97 (byI l 0)=l
  ·have e:Av0 l=(byI l 0,1):=by unfold Av0;rw [if_pos ⟨h2,he⟩]
   refine Yf (by simp [he]) ?_;refine Ja ?_;intros;refine Tr.xIntS (v:=byI l 0) (Ai6 (by omega)) ?_;refine Ys fun o=>?_;rw [e];exact ⟨by simp only [byI,Aw1],o.sub⟩
  ·have e:Av0 l=(0,2):=by unfold Av0;rw [if_neg (fun hh=>he hh.2)]
   refine Yt (by simp [he]) ?_;refine Ys fun o=>?_;rw [e];exact ⟨rfl,o.sub⟩
 ·refine (?_:Tr _ _ _ _) o;refine Je ?_;refine Jb ?_;intros;refine Yb (Yt rfl ?_);refine Yv ?_;refine Ja ?_;intros;refine Ys fun o=>?_;exact ⟨by unfold Av0;rw [if_neg (by simp only [byI] at *;omega)],o.sub⟩
theorem I08 (a:Option Addr) (c:Nat) (l:List UInt8) (hl:l.length=4):Ct B0 An1 [.slice a 4 c] [slC false A9 1 a 4 c (A0 l)] fun v own=>v=.tuple ⟨[int (Av0 l).1,int (Av0 l).2]⟩∧own [slC false A9 1 a 4 c (A0 l)]:=In2 (slC false A9 1 a 4 c (A0 l)) false a c l hl
theorem Jg3 (l:List UInt8) (h:(Av0 l).2≠1):(Av0 l).1=0:=by
 unfold Av0 at *;split<;>simp_all
theorem Jy7 (c k:Nat) (F:Fr) (X:CX) (rc:RecS) (ok:FrOk F) (hk:Y1 rc.kind=4):Ct B0 Y8 [P0 c,.agg ⟨Af4 rc⟩,.func (.func An1) ⟨[]⟩ ⟨[]⟩] [cmC c k F X] fun v own =>
  v=.tuple ⟨[int (Ab6 Av0 0 X rc).1.1,int (Ab6 Av0 0 X rc).1.2]⟩∧own [cmC c k F (Ab6 Av0 0 X rc).2]:=by
 refine Co Bl9 (fun _=>E43 ..) fun h r=>?_;refine Ja ?_;intros;refine Yc (E08 c k F X rc ok) ?_;rintro v h (⟨l,a,cp,hr,hl,rfl,o⟩|⟨hr,rfl,o⟩)
 ·refine (?_:Tr _ _ _ _) o;refine Je ?_;have e:Ab6 Av0 0 X rc=(Av0 l,if (Av0 l).2=2 then { X with bad:=X.bad++[rc] } else X):=by unfold Ab6;rw [hr]
  have hb:=E87 hr;rw [e];rw [hk] at hl;rw [hl];refine Ja ?_;intros;refine Ye (I08 a cp l hl) fun h=>?_;intros;by_cases h2:(Av0 l).2=2
  ·refine Yt (by simpa using h2) ?_;have hz:=Jg3 l (by omega);simp only [if_pos h2];refine B6 (cmC c k F X) fun u=>?_;refine Je ?_;refine B6 (Z6 c k F.env F.caps X.bad) fun ⟨ca,cn,mb⟩=>?_;refine Je ?_;refine Ja ?_;intros;rw [Dc4,if_neg hb];refine Ja ?_;intros;rw [E18 hb];refine Ja ?_;intros;rw [El0 hb];refine Ja ?_;intros;rw [Dv8 X.bad 0 X.bad.length _ 0 rfl (by omega),Nat.zero_add];refine Ja ?_;intros;rw [E58];refine Yj Bl9 (B08 ..) ?_;refine Yt (by rw [bne_iff_ne];omega) ?_;rw [show X.bad.length+1=(X.bad++[rc]).length by simp];refine B1 (Z6 c k F.env F.caps (X.bad++[rc])) ⟨ca,cn,mb⟩ ?_;refine Je ?_;refine B1 (cmC c k F { X with bad:=X.bad++[rc] }) () ?_;refine Je ?_;refine Ys fun o=>?_;exact ⟨by rw [hz],o.sub⟩
  ·refine Yf (by simpa using h2) ?_;simp only [if_neg h2];refine Yj Bl9 (B08 ..) ?_;by_cases h1:(Av0 l).2=1
   ·refine Yf (by simpa using h1) ?_;exact Yz
   ·refine Yt (by simpa using h1) ?_;refine Ys fun o=>?_;exact ⟨by rw [Jg3 l h1],o.sub⟩
 ·refine (?_:Tr _ _ _ _) o;refine Je ?_;have e:Ab6 Av0 0 X rc=((0,2),X):=by unfold Ab6;rw [hr]
  rw [e];refine Ja ?_;intros;exact Yz
abbrev E72 (X:CX) (i:Int):(ProcS × Int) × CX:=Ab6 Aa5 .zero X ⟨1,i⟩
abbrev E35 (X:CX) (i:Int):(FileS × Int) × CX:=Ab6 Ad2 .zero X ⟨2,i⟩
abbrev D88 (X:CX) (i:Int):(PipeS × Int) × CX:=Ab6 V9 .zero X ⟨3,i⟩
abbrev Gq5 (X:CX):(PipeS × Int) × CX:=Ab6 V9 .zero X ⟨4,0⟩
abbrev Gm9 (X:CX):(Int × Int) × CX:=Ab6 Av0 0 X ⟨5,0⟩
abbrev Bc0 (X:CX) (i:Int) (p:ProcS):Bool × CX:=wrX X ⟨1,i⟩ (A61 p) (okS p)
abbrev Bw8 (X:CX) (i:Int) (p:FileS):Bool × CX:=wrX X ⟨2,i⟩ (Ap7 p) (okF p)
abbrev Bj5 (X:CX) (i:Int) (p:PipeS):Bool × CX:=wrX X ⟨3,i⟩ (P2 p) (okP p)
abbrev Bz0 (X:CX) (rc:RecS):Bool × CX:=wrX X rc (List.replicate (Y1 rc.kind) 0) true
theorem Ey5 (X:CX) (rc:RecS) (b:List UInt8):wrX X rc b false=(false,X):=by
 unfold wrX;split<;>simp
theorem Gl6 (c k:Nat) (F:Fr) (X:CX) (rc:RecS) (ok:FrOk F):Ct B0 Y6 [P0 c,.agg ⟨Af4 rc⟩] [cmC c k F X] fun v own =>
  v=.bool (Bz0 X rc).1∧own [cmC c k F (Bz0 X rc).2]:=by
 refine Co Ek0 (fun _=>Ej4 ..) fun h r=>?_;refine B6 (cmC c k F X) fun u=>?_;refine Je ?_;refine P9 2 rfl fun f=>?_
 (repeat' first|refine Gu ?_|(with_reducible first|refine Gn fun b h=>?_|apply Gx|apply Gy|rintro px rfl|apply Gw|refine fun(h:H)=>?_|intro hb)|refine Gs ?_|refine Gt ?_|exact Gz rfl|fail)
 refine Yc (Gk3 c k F.env F.caps X.bad rc ok.small ok.ne) ?_;rintro _ h ⟨rfl,o⟩<;>(refine (?_:Tr _ _ _ _) o;refine Je ?_;(repeat' first|refine Gu ?_|(with_reducible first|refine Gn fun b h=>?_|apply Gx|apply Gy|rintro px rfl|apply Gw|refine fun(h:H)=>?_|intro hb)|refine Gs ?_|refine Gt ?_|exact Gz rfl|fail));have em:=f.mlen ok
 cases hp:L0 F.caps.length rc with
 | none =>
  (repeat' first|refine Gu ?_|(with_reducible first|refine Gn fun b h=>?_|apply Gx|apply Gy|rintro px rfl|apply Gw|refine fun(h:H)=>?_|intro hb)|refine Gs ?_|refine Gt ?_|exact Gz rfl|fail)
  rw [show G9 (Int.toNat 0) [.int .u8 0]=A0 [] from rfl];refine Ag4 0 rfl 1 0 rfl (by omega) ?_;refine Je ?_;refine B1 (cmC c k F X) () ?_;refine Je ?_;refine Yc (Dc3 c k F X rc ok [] false (some ⟨b,0,none⟩) 0 (by simp)) ?_;rintro _ h ⟨rfl,o⟩<;>(refine (?_:Tr _ _ _ _) o;refine Je ?_;(repeat' first|refine Gu ?_|(with_reducible first|refine Gn fun b h=>?_|apply Gx|apply Gy|rintro px rfl|apply Gw|refine fun(h:H)=>?_|intro hb)|refine Gs ?_|refine Gt ?_|exact Gz rfl|fail));refine Ys fun o=>?_;have e:Bz0 X rc=(false,X):=by unfold Bz0 wrX;rw [em,hp]
  rw [Ey5] at o;rw [e,Ey5];exact ⟨by first|rfl|trivial,o.sub⟩
 | some p =>
  obtain ⟨j,a,n⟩:=p;have hn:=D50 hp;subst hn;have h40:Y1 rc.kind≤40:=by unfold Y1;(repeat' split)<;>omega
  (repeat' first|refine Gu ?_|(with_reducible first|refine Gn fun b h=>?_|apply Gx|apply Gy|rintro px rfl|apply Gw|refine fun(h:H)=>?_|intro hb)|refine Gs ?_|refine Gt ?_|exact Gz rfl|fail)
  refine Tr.ck ⟨by omega,by omega,by simp only [B3];omega⟩ ?_;refine Yn fun b1 h=>?_;rw [Int.toNat_natCast,show G9 (Y1 rc.kind) [.int .u8 0]=A0 (List.replicate (Y1 rc.kind) 0) by simp [G9,A0]];refine Ag4 0 rfl 1 (Y1 rc.kind) (by simp [A0]) (by omega) ?_;refine Je ?_;refine B1 (cmC c k F X) () ?_;refine Je ?_;have J:=Dc3 c k F X rc ok (List.replicate (Y1 rc.kind) 0) true (some ⟨b1,0,none⟩) (Y1 rc.kind) (by simp);rw [List.length_replicate] at J;refine Yc (J) ?_;rintro _ h ⟨rfl,o⟩<;>(refine (?_:Tr _ _ _ _) o;refine Je ?_;(repeat' first|refine Gu ?_|(with_reducible first|refine Gn fun b h=>?_|apply Gx|apply Gy|rintro px rfl|apply Gw|refine fun(h:H)=>?_|intro hb)|refine Gs ?_|refine Gt ?_|exact Gz rfl|fail));exact Yz
theorem E96 (c k:Nat) (F:Fr) (X:CX) (rc:RecS) (ok:FrOk F):Ct B0 P4 [P0 c,.agg ⟨Af4 rc⟩,.slice none 0 0,.bool false] [cmC c k F X] fun v own=>v=.bool false∧own [cmC c k F X]:=by
 intro h r o;have o1:Own h (slC false A9 1 none 0 0 (A0 [])::cmC c k F X::r):=o.slNil false A9 (by omega);obtain ⟨v,h',e,rfl,o2⟩:=Dc3 c k F X rc ok [] false none 0 (by simp) h r (o1.perm (.swap _ _ _));rw [Ey5] at e o2;exact ⟨_,h',e,rfl,o2.sub⟩
theorem E39 (i:Int):Ct B0 A11 [int i] [] fun v own=>v=.agg ⟨Af4 ⟨1,i⟩⟩∧own []:=by
 refine Co Hj7 (fun _=>Hj8 ..) fun h r=>?_;refine Ja ?_;intros;exact Yz
theorem Ga4 (i:Int):Ct B0 A10 [int i] [] fun v own=>v=.agg ⟨Af4 ⟨2,i⟩⟩∧own []:=by
 refine Co Hm8 (fun _=>Hm9 ..) fun h r=>?_;refine Ja ?_;intros;exact Yz
theorem E79 (i:Int):Ct B0 A14 [int i] [] fun v own=>v=.agg ⟨Af4 ⟨3,i⟩⟩∧own []:=by
 refine Co Ho2 (fun _=>Hj0 ..) fun h r=>?_;refine Ja ?_;intros;exact Yz
theorem Aa6 (c k:Nat) (F:Fr) (X:CX) (ok:FrOk F) (i:Int):Ct B0 E4 [P0 c,int i] [cmC c k F X] fun v own=>v=.tuple ⟨[.agg ⟨B5 (E72 X i).1.1⟩,int (E72 X i).1.2]⟩∧own [cmC c k F (E72 X i).2]:=by
 refine Co Es7 (fun _=>Eu1 ..) fun h r=>?_;refine Ja ?_;intros;refine Ye (E39 i) fun h=>?_;intros;refine Ye (Jy0 c k F X ⟨1,i⟩ ok rfl) fun h=>?_;intros;exact Yz
theorem Do7 (c k:Nat) (F:Fr) (X:CX) (ok:FrOk F) (i:Int):Ct B0 O2 [P0 c,int i] [cmC c k F X] fun v own=>v=.tuple ⟨[.agg ⟨Am5 (E35 X i).1.1⟩,int (E35 X i).1.2]⟩∧own [cmC c k F (E35 X i).2]:=by
 refine Co Er3 (fun _=>Ev5 ..) fun h r=>?_;refine Ja ?_;intros;refine Ye (Ga4 i) fun h=>?_;intros;refine Ye (Jv4 c k F X ⟨2,i⟩ ok rfl) fun h=>?_;intros;exact Yz
theorem E60 (c k:Nat) (F:Fr) (X:CX) (ok:FrOk F) (i:Int):Ct B0 U9 [P0 c,int i] [cmC c k F X] fun v own=>v=.tuple ⟨[.agg ⟨M6 (D88 X i).1.1⟩,int (D88 X i).1.2]⟩∧own [cmC c k F (D88 X i).2]:=by
 refine Co Eq6 (fun _=>Eq2 ..) fun h r=>?_;refine Ja ?_;intros;refine Ye (E79 i) fun h=>?_;intros;refine Ye (Iu5 c k F X ⟨3,i⟩ ok rfl) fun h=>?_;intros;exact Yz
theorem Jr6 (c k:Nat) (F:Fr) (X:CX) (ok:FrOk F):Ct B0 Ag8 [P0 c] [cmC c k F X] fun v own=>v=.tuple ⟨[.agg ⟨M6 (Gq5 X).1.1⟩,int (Gq5 X).1.2]⟩∧own [cmC c k F (Gq5 X).2]:=by
 refine Co Ev6 (fun _=>Er8 ..) fun h r=>?_;refine Ja ?_;intros;refine Ye (Iu5 c k F X ⟨4,0⟩ ok rfl) fun h=>?_;intros;exact Yz
theorem I76 (c k:Nat) (F:Fr) (X:CX) (ok:FrOk F):Ct B0 Ao8 [P0 c] [cmC c k F X] fun v own=>v=.tuple ⟨[int (Gm9 X).1.1,.bool ((Gm9 X).1.2==1)]⟩∧own [cmC c k F (Gm9 X).2]:=by
 refine Co Ek1 (fun _=>Ej9 ..) fun h r=>?_;refine Ja ?_;intros;refine Ye (Jy7 c k F X ⟨5,0⟩ ok rfl) fun h=>?_;intros;exact Yz
theorem Ea7 (f:FileS):(Ap7 f).length=8:=rfl
theorem Ah8 (c k:Nat) (F:Fr) (X:CX) (ok:FrOk F) (i:Int) (p:ProcS):Ct B0 G8 [P0 c,int i,.agg ⟨B5 p⟩] [cmC c k F X] fun v own=>v=.bool (Bc0 X i p).1∧own [cmC c k F (Bc0 X i p).2]:=by
 refine Co D76 (fun _=>D72 ..) fun h r=>?_;refine Ja ?_;intros;refine Yc (Hb4 p) ?_;rintro v h (⟨hk,a,rfl,o⟩|⟨hk,rfl,o⟩)
 ·refine (?_:Tr _ _ _ _) o;refine Je ?_;refine Ja ?_;intros;refine Ye (E39 i) fun h=>?_;intros;have J:=Dc3 c k F X ⟨1,i⟩ ok (A61 p) true a 24 (fun _=>E49 p);rw [E49] at J;refine Ye J fun h=>?_;intros;refine Ys fun o=>?_;unfold Bc0;rw [hk];exact ⟨rfl,o.sub⟩
 ·refine (?_:Tr _ _ _ _) o;refine Je ?_;refine Ja ?_;intros;refine Ye (E39 i) fun h=>?_;intros;refine Ye (E96 c k F X ⟨1,i⟩ ok) fun h=>?_;intros;refine Ys fun o=>?_;unfold Bc0;rw [hk,Ey5];exact ⟨rfl,o.sub⟩
theorem Ds6 (c k:Nat) (F:Fr) (X:CX) (ok:FrOk F) (i:Int) (p:FileS):Ct B0 P6 [P0 c,int i,.agg ⟨Am5 p⟩] [cmC c k F X] fun v own=>v=.bool (Bw8 X i p).1∧own [cmC c k F (Bw8 X i p).2]:=by
 refine Co D86 (fun _=>D60 ..) fun h r=>?_;refine Ja ?_;intros;refine Yc (Hf7 p) ?_;rintro v h (⟨hk,a,rfl,o⟩|⟨hk,rfl,o⟩)
 ·refine (?_:Tr _ _ _ _) o;refine Je ?_;refine Ja ?_;intros;refine Ye (Ga4 i) fun h=>?_;intros;have J:=Dc3 c k F X ⟨2,i⟩ ok (Ap7 p) true a 8 (fun _=>Ea7 p);rw [Ea7] at J;refine Ye J fun h=>?_;intros;refine Ys fun o=>?_;unfold Bw8;rw [hk];exact ⟨rfl,o.sub⟩
 ·refine (?_:Tr _ _ _ _) o;refine Je ?_;refine Ja ?_;intros;refine Ye (Ga4 i) fun h=>?_;intros;refine Ye (E96 c k F X ⟨2,i⟩ ok) fun h=>?_;intros;refine Ys fun o=>?_;unfold Bw8;rw [hk,Ey5];exact ⟨rfl,o.sub⟩
theorem Es0 (c k:Nat) (F:Fr) (X:CX) (ok:FrOk F) (i:Int) (p:PipeS):Ct B0 V5 [P0 c,int i,.agg ⟨M6 p⟩] [cmC c k F X] fun v own=>v=.bool (Bj5 X i p).1∧own [cmC c k F (Bj5 X i p).2]:=by
 refine Co D73 (fun _=>D89 ..) fun h r=>?_;refine Ja ?_;intros;refine Yc (Hh1 p) ?_;rintro v h (⟨hk,a,rfl,o⟩|⟨hk,rfl,o⟩)
 ·refine (?_:Tr _ _ _ _) o;refine Je ?_;refine Ja ?_;intros;refine Ye (E79 i) fun h=>?_;intros;have J:=Dc3 c k F X ⟨3,i⟩ ok (P2 p) true a 40 (fun _=>Bu0 p.len);rw [Bu0 p.len] at J;refine Ye J fun h=>?_;intros;refine Ys fun o=>?_;unfold Bj5;rw [hk];exact ⟨rfl,o.sub⟩
 ·refine (?_:Tr _ _ _ _) o;refine Je ?_;refine Ja ?_;intros;refine Ye (E79 i) fun h=>?_;intros;refine Ye (E96 c k F X ⟨3,i⟩ ok) fun h=>?_;intros;refine Ys fun o=>?_;unfold Bj5;rw [hk,Ey5];exact ⟨rfl,o.sub⟩
theorem Dk9 (c k:Nat) (F:Fr) (X:CX) (ok:FrOk F) (i:Int):Ct B0 O9 [P0 c,int i] [cmC c k F X] fun v own=>v=.bool (Bz0 X ⟨1,i⟩).1∧own [cmC c k F (Bz0 X ⟨1,i⟩).2]:=by
 refine Co D00 (fun _=>D18 ..) fun h r=>?_;refine Ye (E39 i) fun h=>?_;intros;refine Ye (Gl6 c k F X ⟨1,i⟩ ok) fun h=>?_;intros;exact Yz
theorem H22 (c k:Nat) (F:Fr) (X:CX) (ok:FrOk F) (i:Int):Ct B0 Ai5 [P0 c,int i] [cmC c k F X] fun v own=>v=.bool (Bz0 X ⟨2,i⟩).1∧own [cmC c k F (Bz0 X ⟨2,i⟩).2]:=by
 refine Co D04 (fun _=>Dz7 ..) fun h r=>?_;refine Ye (Ga4 i) fun h=>?_;intros;refine Ye (Gl6 c k F X ⟨2,i⟩ ok) fun h=>?_;intros;exact Yz
theorem Ie8 (c k:Nat) (F:Fr) (X:CX) (ok:FrOk F) (i:Int):Ct B0 Ah9 [P0 c,int i] [cmC c k F X] fun v own=>v=.bool (Bz0 X ⟨3,i⟩).1∧own [cmC c k F (Bz0 X ⟨3,i⟩).2]:=by
 refine Co D16 (fun _=>D07 ..) fun h r=>?_;refine Ye (E79 i) fun h=>?_;intros;refine Ye (Gl6 c k F X ⟨3,i⟩ ok) fun h=>?_;intros;exact Yz
def D57 (f:CX→Int→CX):Nat→Int→CX→CX
 | 0,_,X=>X
 | m+1,i,X=>D57 f m (i+1) (f X i)
def Hh9 (X:CX):CX:=(Gm9 (Gq5 X).2).2
def Ib1 (nc:Nat) (X:CX):CX:=Hh9 (D57 (fun X i=>(D88 X i).2) (3+nc) 0 X)
def H54 (nc:Nat) (X:CX):CX:=Ib1 nc (D57 (fun X i=>(E35 X i).2) 12 0 X)
def lookN (nc:Nat) (X:CX):CX:=H54 nc (D57 (fun X i=>(E72 X i).2) 8 0 X)
def Ha8 (X:CX):CX:=lookN X.m.length X
theorem I42 (c k:Nat) (F:Fr) (ok:FrOk F):∀ (m:Nat) (i:Int) (X:CX),0≤i→i+m=3+F.caps.length →
  CtJ H0 D1 Ak0 [(0,P0 c),(20,int (3+F.caps.length)),(21,int i)] [cmC c k F X] fun v own=>v=.tuple ⟨[]⟩∧own [cmC c k F (Hh9 (D57 (fun X i=>(D88 X i).2) m i X))]:=by
 have hs:=ok.small;intro m
 induction m with
 | zero =>
  intro i X h0 hi;refine Cj U3 (fun _=>Bt7 ..) fun h r=>?_;refine Yf (by simp;omega) ?_;refine Ye (Jr6 c k F X ok) fun h=>?_;intros;refine Ye (I76 c k F (Gq5 X).2 ok) fun h=>?_;intros;refine Ys fun o=>?_;exact ⟨rfl,o⟩
 | succ m ih =>
  intro i X h0 hi;have e1:=wI i;refine Cj U3 (fun _=>Bt7 ..) fun h r=>?_;refine Yt (by simp;omega) ?_;refine Ye (E60 c k F X ok i) fun h=>?_;intros;rw [e1];refine Yr (ih (i+1) (D88 X i).2 (by omega) (by omega)) ?_;rintro _ h ⟨rfl,o⟩;exact ⟨rfl,o⟩
theorem I01 (c k:Nat) (F:Fr) (ok:FrOk F):∀ (m:Nat) (i:Int) (X:CX),0≤i→i+m=12 →
  CtJ H0 D1 Ak4 [(0,P0 c),(12,int i)] [cmC c k F X] fun v own=>v=.tuple ⟨[]⟩∧own [cmC c k F (Ib1 F.caps.length (D57 (fun X i=>(E35 X i).2) m i X))]:=by
 have hs:=ok.small;intro m
 induction m with
 | zero =>
  intro i X h0 hi;refine Cj U3 (fun _=>Br2 ..) fun h r=>?_;refine Yf (by simp;omega) ?_;refine B6 (cmC c k F X) fun u=>?_;refine Je ?_;refine Tr.pcall (Ig3 c k F.env F.caps X.bad 3 ok.small) ?_;refine Je ?_;refine Ja ?_;intros;refine B1 (cmC c k F X) () ?_;refine Je ?_;refine Yr (I42 c k F ok (3+F.caps.length) 0 X (by omega) (by omega)) ?_;rintro _ h ⟨rfl,o⟩;exact ⟨rfl,o⟩
 | succ m ih =>
  intro i X h0 hi;have e1:=wI i;refine Cj U3 (fun _=>Br2 ..) fun h r=>?_;refine Yt (by simp;omega) ?_;refine Ye (Do7 c k F X ok i) fun h=>?_;intros;rw [e1];refine Yr (ih (i+1) (E35 X i).2 (by omega) (by omega)) ?_;rintro _ h ⟨rfl,o⟩;exact ⟨rfl,o⟩
theorem I07 (c k:Nat) (F:Fr) (ok:FrOk F):∀ (m:Nat) (i:Int) (X:CX),0≤i→i+m=8 →
  CtJ H0 D1 Ak5 [(0,P0 c),(5,int i)] [cmC c k F X] fun v own=>v=.tuple ⟨[]⟩∧own [cmC c k F (H54 F.caps.length (D57 (fun X i=>(E72 X i).2) m i X))]:=by
 intro m
 induction m with
 | zero =>
  intro i X h0 hi;refine Cj U3 (fun _=>Bs6 ..) fun h r=>?_;refine Yf (by simp;omega) ?_;refine Yr (I01 c k F ok 12 0 X (by omega) (by omega)) ?_;rintro _ h ⟨rfl,o⟩;exact ⟨rfl,o⟩
 | succ m ih =>
  intro i X h0 hi;have e1:=wI i;refine Cj U3 (fun _=>Bs6 ..) fun h r=>?_;refine Yt (by simp;omega) ?_;refine Ye (Aa6 c k F X ok i) fun h=>?_;intros;rw [e1];refine Yr (ih (i+1) (E72 X i).2 (by omega) (by omega)) ?_;rintro _ h ⟨rfl,o⟩;exact ⟨rfl,o⟩
theorem Ag5 (c k:Nat) (F:Fr) (X:CX) (ok:FrOk F):Ct B0 D1 [P0 c] [cmC c k F X] fun v own=>v=.tuple ⟨[]⟩∧own [cmC c k F (Ha8 X)]:=by
 refine Co U3 (fun _=>Ep1 ..) fun h r=>?_;intro o;obtain ⟨u,o1⟩:=Own.unfold (cmC c k F X) o;have f:=(Own.front o1 (i:=2) rfl).pure;have e:Ha8 X=lookN F.caps.length X:=by unfold Ha8;rw [f.mlen ok]
 rw [e];refine (?_:Tr _ _ _ _) o;refine Yr (I07 c k F ok 8 0 X (by omega) (by omega)) ?_;rintro _ h ⟨rfl,o⟩;exact ⟨rfl,o⟩
end Go.EQ
