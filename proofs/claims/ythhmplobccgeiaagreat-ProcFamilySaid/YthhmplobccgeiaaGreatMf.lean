/- A process' children are waited for each once, with the code each ended with; no conditions. -/
import Derived.Test.YthhmplobccgeiaaGreatMe
set_option linter.all false
set_option maxRecDepth 10000
namespace Go.EQ
open Go Go.NN
theorem U4 (l:List UInt8):(A0 l).length=l.length:=by simp [A0]
theorem D74 {l:List UInt8} {i:Nat} {x:UInt8} (h:l[i]?=some x):(A0 l)[i]?=some (.int .u8 x.toNat):=by
 unfold A0;rw [List.getElem?_map,h];rfl
def Ec0 (n:Int) (l:List UInt8):Int:=l.foldl (fun n c=>IntKind.wrap .u8 (n+c.toNat)) n
def Gl2 (l:List UInt8):Int:=Ec0 (IntKind.wrap .u8 l.length) l
theorem Ht4 (p:HP) (a:Option Addr) (ro:Bool) (n c d:Nat) (l:List UInt8) [ks:IsSl p a ro A5 1 n c (A0 l)] (x:Nat) (hx:x≤l.length) (hl:l.length≤B4):∀ (m i:Nat) (acc:Int),x-i=m→i≤x →
  U9 E3 Aa0 Bj7 [(3,.int .u8 acc),(9,.slice a x d),(10,int x),(11,int i)] [p] (.int .u8 (Ec0 acc ((l.take x).drop i))):=by
 intro m
 induction m with
 | zero =>
  intro i acc hm hi
  refine U9.of D06 fun h r=>Tr.eq (D32 ..) ?_;refine Je ?_
  refine Yf (by simp;omega) ?_
  refine Ys fun o=>?_
  rw [List.drop_eq_nil_of_le (by simp;omega)];exact ⟨rfl,rfl⟩
 | succ m ih =>
  intro i acc hm hi
  have hlt:i<(l.take x).length:=by rw [List.length_take];omega
  have hp:l[i]?=some (l.take x)[i]:=by
   rw [List.getElem_take];exact List.getElem?_eq_getElem (by omega)
  have hd:(l.take x).drop i=(l.take x)[i]::(l.take x).drop (i+1):=List.drop_eq_getElem_cons hlt
  generalize (l.take x)[i]=y at hp hd
  have e1:IntKind.wrap .i64 ((i:Int)+1)=((i+1:Nat):Int):=by rw [A8];simp only [B4] at hl;omega
  refine U9.of D06 fun h r=>Tr.eq (D32 ..) ?_;refine Je ?_
  refine Yt (by simp;omega) ?_
  refine S9 0 rfl fun h1 h2 h3=>?_
  rw [U4] at h1
  (refine Ja ?_;unhygienic intros;repeat(refine Gw ?_;rintro px rfl;refine Ja ?_;unhygienic intros))
  refine Tr.xIntS (v:=y.toNat) (by simpa using D74 hp) ?_
  rw [e1,hd]
  exact Y9 (ih (i+1) _ (by omega) (by omega)) (r:=r) (by simp) fun o=>⟨rfl,rfl⟩
theorem Gc5 (p:HP) (a:Option Addr) (ro:Bool) (n c d:Nat) (l:List UInt8) [ks:IsSl p a ro A5 1 n c (A0 l)] (x:Nat) (hx:x≤l.length) (hl:l.length≤B4) :
  CtP B0 Aa0 [.slice a x d] [p] (.int .u8 (Gl2 (l.take x))):=by
 refine CtP.of D06 rfl fun h r=>Tr.eq (Hd0 ..) ?_;refine Je ?_
 have e:(l.take x).length=x:=by rw [List.length_take];omega
 have J:=Ht4 p a ro n c d l x hx hl _ 0 (IntKind.wrap .u8 x) rfl (by omega)
 rw [List.drop_zero] at J
 refine Y9 J (r:=r) (by simp) fun o=>⟨?_,rfl⟩
 unfold Gl2;rw [e]
def Dw8:Nat→List UInt8→Int
 | _,[]=>-1
 | i,x::l=>if x≠0 then i else Dw8 (i+1) l
theorem Go5:∀ (l:List UInt8) (i:Nat),decide (Dw8 i l≥0)=!l.all (·==0)
 | [],i=>by simp [Dw8]
 | x::l,i=>by
  unfold Dw8
  by_cases h:x=0
  ·rw [if_neg (by simp [h]),Go5 l (i+1)];simp [h]
  ·rw [if_pos h];simp [h]
theorem Ik2 (x:UInt8):CtP B0 Af4 [.int .u8 x.toNat] [] (.bool (x != 0)):=by
 refine CtP.of Ga0 rfl fun h r=>Tr.eq (Gb8 ..) ?_;refine Je ?_
 refine Ys fun o=>?_
 refine ⟨?_,rfl⟩
 congr 1
 have:((x.toNat:Int)=0)↔x=0:=by
  constructor
  ·intro h;exact UInt8.toNat.inj (by simpa using (show x.toNat=0 by omega))
  ·rintro rfl;rfl
 by_cases h:x=0
 ·subst h;rfl
 ·rw [bne_iff_ne.2 h,bne_iff_ne];intro h2;exact h (this.1 h2)
theorem E47 (p:HP) (a:Option Addr) (ro:Bool) (c:Nat) (l:List UInt8) [ks:IsSl p a ro A5 1 l.length c (A0 l)] (hl:l.length≤B4):∀ (m i:Nat),l.length-i=m→i≤l.length →
  U9 E3 E8 Q0 [(0,.slice a l.length c),(1,.func (.func Af4) ⟨[]⟩ ⟨[]⟩),(7,int l.length),(8,int i)] [p] (int (Dw8 i (l.drop i))):=by
 intro m
 induction m with
 | zero =>
  intro i hm hi
  refine U9.of Af3 fun h r=>Tr.eq (As1 ..) ?_;refine Je ?_
  refine Yf (by simp;omega) ?_
  refine Ys fun o=>?_
  rw [List.drop_eq_nil_of_le (by omega)];exact ⟨rfl,rfl⟩
 | succ m ih =>
  intro i hm hi
  have hlt:i<l.length:=by omega
  have hp:l[i]?=some l[i]:=List.getElem?_eq_getElem hlt
  have hd:l.drop i=l[i]::l.drop (i+1):=List.drop_eq_getElem_cons hlt
  generalize l[i]=x at hp hd
  have e1:IntKind.wrap .i64 ((i:Int)+1)=((i+1:Nat):Int):=by rw [A8];simp only [B4] at hl;omega
  refine U9.of Af3 fun h r=>Tr.eq (As1 ..) ?_;refine Je ?_
  refine Yt (by simp;omega) ?_
  (refine Ja ?_;unhygienic intros;repeat(refine Gw ?_;rintro px rfl;refine Ja ?_;unhygienic intros))
  refine Tr.xIntS (v:=x.toNat) (by simpa using D74 hp) ?_
  (refine Ja ?_;unhygienic intros)
  refine Bw2 (Ik2 x) (r:=p::r) (by simp) ?_
  by_cases hx:x=0
  ·have:(x != 0)=false:=by simp [hx]
   rw [this]
   (refine Ja ?_;unhygienic intros)
   rw [e1]
   refine Y9 (ih (i+1) (by omega) (by omega)) (r:=r) (by simp) fun o=>?_
   rw [hd,Dw8,if_neg (by simp [hx])];exact ⟨by first|rfl|trivial,by first|rfl|trivial⟩
  ·have:(x != 0)=true:=by simp [hx]
   rw [this]
   (refine Ja ?_;unhygienic intros)
   refine Ys fun o=>?_
   rw [hd,Dw8,if_pos hx];exact ⟨by first|rfl|trivial,by first|rfl|trivial⟩
theorem H35 (p:HP) (a:Option Addr) (ro:Bool) (c:Nat) (l:List UInt8) [ks:IsSl p a ro A5 1 l.length c (A0 l)] (hl:l.length≤B4) :
  CtP B0 Am6 [.slice a l.length c] [p] (.bool (l.all (·==0))):=by
 have j:CtP B0 E8 [.slice a l.length c,.func (.func Af4) ⟨[]⟩ ⟨[]⟩] [p] (int (Dw8 0 l)):=by
  refine CtP.of Af3 rfl fun h r=>Tr.eq (B15 ..) ?_;refine Je ?_
  exact Y9 (E47 p a ro c l hl _ 0 rfl (by omega)) (r:=r) (by simp) fun o=>⟨rfl,rfl⟩
 have j2:CtP B0 P8 [.slice a l.length c,.func (.func Af4) ⟨[]⟩ ⟨[]⟩] [p] (.bool (!l.all (·==0))):=by
  refine CtP.of Bo0 rfl fun h r=>Tr.eq (Bo3 ..) ?_;refine Je ?_
  refine Bw2 j (r:=r) (by simp) ?_
  (refine Ja ?_;unhygienic intros)
  refine Ys fun o=>?_
  rw [Go5];exact ⟨by first|rfl|trivial,by first|rfl|trivial⟩
 refine CtP.of Gt5 rfl fun h r=>Tr.eq (Gu4 ..) ?_;refine Je ?_
 refine Bw2 j2 (r:=r) (by simp) ?_
 (refine Ja ?_;unhygienic intros)
 refine Ys fun o=>?_
 exact ⟨by simp,rfl⟩
theorem G24 (p q:HP) (a:Option Addr) (ro:Bool) (c:Nat) (a2:Option Addr) (ro2:Bool) (c2:Nat) (l m:List UInt8) [ks:IsSl p a ro A5 1 l.length c (A0 l)] [ks2:IsSl q a2 ro2 A5 1 m.length c2 (A0 m)] (hl:l.length≤B4) (hlm:m.length=l.length):∀ (k i:Nat),l.length-i=k→i≤l.length →
  U9 E3 D4 V6 [(0,.slice a l.length c),(1,.slice a2 m.length c2),(12,int l.length),(13,int i)] [p,q] (.bool (decide (l.drop i=m.drop i))):=by
 intro k
 induction k with
 | zero =>
  intro i hm hi
  refine U9.of Am4 fun h r=>Tr.eq (A22 ..) ?_;refine Je ?_
  refine Yf (by simp;omega) ?_
  refine Ys fun o=>?_
  rw [List.drop_eq_nil_of_le (by omega),List.drop_eq_nil_of_le (by omega)];exact ⟨rfl,rfl⟩
 | succ k ih =>
  intro i hm hi
  have hlt:i<l.length:=by omega
  have hp:l[i]?=some l[i]:=List.getElem?_eq_getElem hlt
  have hd:l.drop i=l[i]::l.drop (i+1):=List.drop_eq_getElem_cons hlt
  have hlt2:i<m.length:=by omega
  have hp2:m[i]?=some m[i]:=List.getElem?_eq_getElem hlt2
  have hd2:m.drop i=m[i]::m.drop (i+1):=List.drop_eq_getElem_cons hlt2
  generalize l[i]=x at hp hd
  generalize m[i]=y at hp2 hd2
  have e1:IntKind.wrap .i64 ((i:Int)+1)=((i+1:Nat):Int):=by rw [A8];simp only [B4] at hl;omega
  refine U9.of Am4 fun h r=>Tr.eq (A22 ..) ?_;refine Je ?_
  refine Yt (by simp;omega) ?_
  (refine Ja ?_;unhygienic intros;repeat(refine Gw ?_;rintro px rfl;refine Ja ?_;unhygienic intros))
  refine Tr.xIntS (v:=x.toNat) (by simpa using D74 hp) ?_
  (refine Ja ?_;unhygienic intros;repeat(refine Gw ?_;rintro px rfl;refine Ja ?_;unhygienic intros))
  refine Tr.xIntS (v:=y.toNat) (by simpa using D74 hp2) ?_
  by_cases hx:x=y
  ·subst hx
   refine Yf (by simp) ?_
   rw [e1]
   refine Y9 (ih (i+1) (by omega) (by omega)) (r:=r) (by simp) fun o=>?_
   rw [hd,hd2];exact ⟨by simp,rfl⟩
  ·refine Yt (by rw [bne_iff_ne];intro h2;exact hx (UInt8.toNat.inj (by omega))) ?_
   refine Ys fun o=>?_
   rw [hd,hd2];exact ⟨by simp [hx],rfl⟩
theorem Ep7 (p q:HP) (a:Option Addr) (ro:Bool) (c:Nat) (a2:Option Addr) (ro2:Bool) (c2:Nat) (l m:List UInt8) [ks:IsSl p a ro A5 1 l.length c (A0 l)] [ks2:IsSl q a2 ro2 A5 1 m.length c2 (A0 m)] (hl:l.length≤B4) :
  CtP B0 D4 [.slice a l.length c,.slice a2 m.length c2] [p,q] (.bool (decide (l=m))):=by
 refine CtP.of Am4 rfl fun h r=>Tr.eq (Df4 ..) ?_;refine Je ?_
 by_cases h:m.length=l.length
 ·refine Yf (by simp [h]) ?_
  have J:=G24 p q a ro c a2 ro2 c2 l m hl h _ 0 rfl (by omega)
  simp only [List.drop_zero] at J
  exact Y9 J (r:=r) (by simp) fun o=>⟨rfl,rfl⟩
 ·refine Yt (by rw [bne_iff_ne];omega) ?_
  refine Ys fun o=>?_
  exact ⟨by rw [decide_eq_false (fun e=>h (by rw [e]))],rfl⟩
theorem Ht8 (p:HP) (ro:Bool) (a:Option Addr) (c:Nat) (l:List UInt8) [ks:IsSl p a ro A5 1 l.length c (A0 l)] (hn:l.length≤B4) :
  Ct B0 G3 [.slice a l.length c] [p] fun v own=>∃ a' c',v=.slice a' l.length c'∧own [slC false A5 1 a' l.length c' (A0 l),p]:=by
 refine Ct.of Bc4 rfl fun h r=>Tr.eq (Bb7 ..) ?_;refine Je ?_
 refine S9 0 rfl fun hl hc _=>?_
 refine Tr.cond (fun hb=>?_) fun hb=>?_
 ·obtain rfl:a=none:=by simpa using hb
  refine G9 false A5 1 (by omega) ?_
  intro o
  have o1:=(o.tail.head ks.en).slNone
  obtain rfl:l=[]:=by
   have:=o1.2.2.1
   cases l with
   | nil=>rfl
   | cons x l=>simp [A0] at this
  obtain rfl:c=0:=o1.2.1
  exact ⟨_,_,rfl,none,0,rfl,o⟩
 ·(refine Ja ?_;unhygienic intros)
  refine Af7 0 rfl 1 0 rfl (by omega) ?_;refine Je ?_
  (refine Ja ?_;unhygienic intros)
  refine Tr.xApd ⟨by simp [A0],by simp [A0,Value.oneCell],by omega⟩ fun a' c' h'=>?_
  refine Je ?_
  refine Ys fun o=>⟨a',c',by simp,by simpa using o⟩
end Go.EQ
namespace Go.NN
section
variable {l:List HP} {h:H} {α:Type} {Q:α→H→Prop} {ro:Bool} {e:TypeId} {cs:List Value}
instance {f:Fn} {a c:Array Value} {k:Option α}:Dx (one (.func f a c) k) k:=⟨rfl⟩
theorem Tr.xPCells {a:Option Addr} {n c sz:Nat} {vs cs':List Value} {l':List HP} {k:H→Option (α × H)} [k1:LkO l a false e sz n c cs] (hn:0<n) (hj:vs≠[]∧vs.length≤cs.length∧vs.all Value.oneCell=true∧vs++cs.drop vs.length=cs') [k2:UpO l a (slC false e sz a n c cs') e sz n c cs l'] (t:∀ h',Tr l' h' (k h') Q):Tr l h (NN.pCells a vs h k) Q:=fun ow=>by
 obtain ⟨i,p,hi,hp⟩:=k1.ix
 obtain ⟨y,rfl⟩:=((ow.front hi).head hp).slSome hn
 have:NN.pCells (Option.some y) vs h k=NN.pAgg ((B7 y).add 0) vs h k:=by
  show NN.pAgg (B7 y) vs h k=_
  congr 1
 rw [this]
 exact Tr.xPAggS (k1:=k1) ⟨hj.1,by omega,hj.2.2.1,by simpa using hj.2.2.2⟩ (k2:=k2) t ow
end
end Go.NN

set_option maxRecDepth 10000
namespace Go.EQ
open Go Go.NN
def b8 (x:Int):UInt8:=UInt8.ofNat (x%256).toNat
theorem Di0 (x:Int):IntKind.wrap .u8 x=x%256:=H77 x
theorem Bg1 (x:Int):IntKind.wrap .u8 x=((b8 x).toNat:Int):=by
 rw [Di0,b8,UInt8.toNat_ofNat']
 omega
def Bu4 (l:List UInt8):UInt8:=b8 (Gl2 l)
theorem G84:∀ (l:List UInt8) (n:Int),0≤n∧n<256→0≤Ec0 n l∧Ec0 n l<256
 | [],n,h=>h
 | x::l,n,h=>G84 l _ (by show 0≤IntKind.wrap .u8 (n+x.toNat)∧IntKind.wrap .u8 (n+x.toNat)<256;rw [Di0];omega)
theorem Do0 (l:List UInt8):Gl2 l=((Bu4 l).toNat:Int):=by
 have:=G84 l (IntKind.wrap .u8 l.length) (by rw [Di0];omega)
 unfold Bu4
 rw [← Bg1,Di0]
 unfold Gl2 at *;omega
structure FileS where
 kind:Int
 pipe:Int
 refs:Int
 flags:Int
abbrev FileS.zero:FileS:=⟨0,0,0,0⟩
abbrev Br9 (f:FileS):List Value:=[int f.kind,int f.pipe,int f.refs,int f.flags]
def okF (f:FileS):Bool:=decide (f.kind≥1) && decide (f.kind≤3) && decide (f.pipe≥0) && decide (f.pipe≤7) && (f.kind != 3 || f.pipe==0) && decide (f.refs≥1) && decide (f.refs≤64) && (f.flags==0 || f.flags==1)
def A68 (f:FileS):List UInt8:=[b8 f.kind,b8 f.pipe,b8 f.refs,b8 f.flags,179]
def Ai4 (f:FileS):List UInt8:=A68 f++[Bu4 (A68 f),0,0]
theorem Ig5 (f:FileS):Ct B0 Dk5 [.agg ⟨Br9 f⟩] [] fun v own=>v=.bool (okF f)∧own []:=by
 refine Ct.of Hl3 rfl fun h r=>Tr.eq (Hj5 ..) ?_;refine Je ?_
 (refine Ja ?_;unhygienic intros)
 refine Ys fun o=>?_
 refine ⟨?_,o.sub⟩
 rfl
theorem Id7 (a:Option Addr) (c:Nat) (f:FileS):Ct B0 As0 [.agg ⟨Br9 f⟩,.slice a 8 c] [slC false A5 1 a 8 c (A0 (List.replicate 8 0))] fun v own=>v=.bool (okF f)∧own [slC false A5 1 a 8 c (A0 (if okF f then Ai4 f else List.replicate 8 0))]:=by
 refine Ct.of G99 rfl fun h r=>Tr.eq (Hb7 ..) ?_;refine Je ?_
 (refine Ja ?_;unhygienic intros)
 refine Yc (Ig5 f) ?_;rintro _ h ⟨rfl,o⟩<;>(refine Jf o ?_;unhygienic intros)
 cases hk:okF f with
 | false =>
  (refine Ja ?_;unhygienic intros)
  refine Ys fun o=>?_
  rw [if_neg (by simp)]
  exact ⟨rfl,o.sub⟩
 | true =>
  (refine Ja ?_;unhygienic intros)
  simp only [Bg1,List.drop_zero,List.take]
  refine S9 2 rfl fun hl hc _=>?_
  refine Tr.xPCells (cs':=A0 (A68 f++[0,0,0])) (by omega) ⟨by simp,by simp [A0],by simp [Value.oneCell],rfl⟩ fun h=>?_
  (refine Ja ?_;unhygienic intros)
  refine Tr.pcall (Gc5 (slC false A5 1 a 8 c (A0 (A68 f++[0,0,0]))) a false 8 c c (A68 f++[0,0,0]) 5 (by simp [A68]) (by simp [A68,B4])) ?_
  refine Je ?_
  (refine Ja ?_;unhygienic intros;repeat(refine Gw ?_;rintro px rfl;refine Ja ?_;unhygienic intros))
  rw [show List.take 5 (A68 f++[0,0,0]:List UInt8)=A68 f from rfl,Do0]
  refine Tr.xVS (cs':=A0 (Ai4 f)) ⟨by simp [A0,A68],rfl,rfl⟩ fun h=>?_
  refine Ys fun o=>?_
  simp only [if_true]
  exact ⟨trivial,o.sub⟩
theorem Dv4 {l:List Value} (h:l.all (fun v=>match v with|.int _ _=>true|_=>false)=true):Ap8 (.agg ⟨l⟩) (.agg ⟨l⟩)=true:=by
 show Bs1 l l=true
 induction l with
 | nil=>rfl
 | cons v l ih =>
  simp only [List.all_cons,Bool.and_eq_true] at h
  show (A32 v v && Bs1 l l)=true
  rw [ih h.2,Bool.and_true]
  cases v<;>first|(simp [A32];done)|exact absurd h.1 (by simp)
abbrev Gz4 (k:Nat):HP:=pt k (.cells Aj3 false [int 8,.func (.func As0) ⟨[]⟩ ⟨[]⟩,.func (.func Ar2) ⟨[]⟩ ⟨[]⟩])
theorem Hc5 (k:Nat) (f:FileS):Ct B0 V7 [P0 k,.agg ⟨Br9 f⟩] [Gz4 k] fun v own=>(okF f=true∧∃ a,v=.tuple ⟨[.slice a 8 8,.bool true]⟩∧own [Gz4 k,slC false A5 1 a 8 8 (A0 (Ai4 f))])∨(okF f=false∧v=.tuple ⟨[.slice none 0 0,.bool false]⟩∧own [Gz4 k]):=by
 refine Ct.of B42 rfl fun h r=>Tr.eq (B53 ..) ?_;refine Je ?_
 (refine Ja ?_;unhygienic intros)
 refine Tr.ck ⟨by omega,by omega,by simp [B4]⟩ ?_
 refine Yn fun b1 h=>?_
 rw [show H3 (Int.toNat 8) [.int .u8 0]=A0 (List.replicate 8 0) from rfl]
 refine Af7 0 rfl 1 8 rfl (by omega) ?_
 simp only [List.set_cons_zero]
 refine Je ?_
 (refine Jb ?_;unhygienic intros)
 refine Yb (Yf rfl ?_)
 (refine Jb ?_;unhygienic intros)
 refine Yc (Id7 (some ⟨b1,0,none⟩) 8 f) ?_;rintro _ h ⟨rfl,o⟩<;>(refine Jg o ?_;unhygienic intros)
 refine Ys fun o=>(?_:Tr _ _ _ _) o;refine Je ?_
 cases hk:okF f with
 | false =>
  (refine Ja ?_;unhygienic intros)
  refine Ys fun o=>?_
  exact .inr ⟨rfl,rfl,o.sub⟩
 | true =>
  (refine Ja ?_;unhygienic intros)
  refine Ys fun o=>?_
  simp only [if_true] at o
  exact .inl ⟨rfl,_,rfl,o.sub⟩
theorem Ib3:Ct B0 Ap6 [int 8,.func (.func As0) ⟨[]⟩ ⟨[]⟩,.func (.func Ar2) ⟨[]⟩ ⟨[]⟩] [] fun v own=>∃ k,v=P0 k∧own [pt k (.cells Aj3 false [int 8,.func (.func As0) ⟨[]⟩ ⟨[]⟩,.func (.func Ar2) ⟨[]⟩ ⟨[]⟩])]:=by
 refine Ct.of Eb0 rfl fun h r=>Tr.eq (D94 ..) ?_;refine Je ?_
 rw [show mm2 false (mm2 true 8 0) 64=8 from rfl]
 (refine Ja ?_;unhygienic intros)
 refine Ys fun o=>?_
 exact ⟨_,rfl,o.sub⟩
theorem Gq8:Ct B0 Bb2 [] [] fun v own=>∃ k,v=P0 k∧own [pt k (.cells Aj3 false [int 8,.func (.func As0) ⟨[]⟩ ⟨[]⟩,.func (.func Ar2) ⟨[]⟩ ⟨[]⟩])]:=by
 refine Ct.of Gr2 rfl fun h r=>Tr.eq (Gr0 ..) ?_;refine Je ?_
 refine Yc (Ib3) ?_;rintro _ h ⟨k,rfl,o⟩<;>(refine Jf o ?_;unhygienic intros)
 refine Ys fun o=>?_
 exact ⟨_,rfl,o.sub⟩
theorem Gf0 (f:FileS):Ct B0 A51 [.agg ⟨Br9 f⟩] [] fun v own=>(okF f=true∧∃ a,v=.tuple ⟨[.slice a 8 8,.bool true]⟩∧own [slC false A5 1 a 8 8 (A0 (Ai4 f))])∨(okF f=false∧v=.tuple ⟨[.slice none 0 0,.bool false]⟩∧own []):=by
 refine Ct.of Gg1 rfl fun h r=>Tr.eq (Gj3 ..) ?_;refine Je ?_
 (refine Ja ?_;unhygienic intros)
 refine Yc (Gq8) ?_;rintro _ h ⟨k,rfl,o⟩<;>(refine Jf o ?_;unhygienic intros)
 refine Tr.same (Dv4 rfl) ?_
 refine Yc (Hc5 k f) ?_
 rintro v h (⟨hk,a,rfl,o⟩|⟨hk,rfl,o⟩)
 ·refine (?_:Tr _ _ _ _) o
  refine Je ?_
  (refine Ja ?_;unhygienic intros)
  refine Ys fun o=>?_
  exact .inl ⟨hk,a,rfl,o.sub⟩
 ·refine (?_:Tr _ _ _ _) o
  refine Je ?_
  (refine Ja ?_;unhygienic intros)
  refine Ys fun o=>?_
  exact .inr ⟨hk,rfl,o.sub⟩
theorem Ad6 {l:List UInt8} {i:Nat} (h:i<l.length):(A0 l)[i]?=some (.int .u8 ((l.getD i 0).toNat:Int)):=by
 rw [List.getD_eq_getElem?_getD,List.getElem?_eq_getElem h];exact D74 (List.getElem?_eq_getElem h)
theorem An8 (x:UInt8):IntKind.wrap .i64 (x.toNat:Int)=(x.toNat:Int):=by
 have:=x.toNat_lt;rw [A8];omega
abbrev byI (l:List UInt8) (i:Nat):Int:=((l.getD i 0).toNat:Int)
def B81 (l:List UInt8):FileS:=⟨byI l 0,byI l 1,byI l 2,byI l 3⟩
def isF (l:List UInt8):Bool:=okF (B81 l) && decide (Ai4 (B81 l)=l)
theorem Ia2 (a:Option Addr) (c:Nat) (l:List UInt8) (hl:l.length=8):Ct B0 Ar2 [.slice a 8 c] [slC false A5 1 a 8 c (A0 l)] fun v own=>v=.tuple ⟨[.agg ⟨Br9 (B81 l)⟩,.bool (isF l)]⟩∧own [slC false A5 1 a 8 c (A0 l)]:=by
 have key:∀ a1:Option Addr,CtP B0 D4 [.slice a1 8 8,.slice a 8 c] [slC false A5 1 a1 8 8 (A0 (Ai4 (B81 l))),slC false A5 1 a 8 c (A0 l)] (.bool (decide (Ai4 (B81 l)=l))):=fun a1=>by
  have J:=Ep7 (slC false A5 1 a1 8 8 (A0 (Ai4 (B81 l)))) (slC false A5 1 a l.length c (A0 l)) a1 false 8 a false c (Ai4 (B81 l)) l (by simp [Ai4,A68,B4])
  rwa [hl,show (Ai4 (B81 l)).length=8 from rfl] at J
 refine Ct.of G90 rfl fun h r=>Tr.eq (He1 ..) ?_;refine Je ?_
 refine Yn fun b1 h=>?_
 (refine Ja ?_;unhygienic intros;repeat(refine Gw ?_;rintro px rfl;refine Ja ?_;unhygienic intros))
 refine Tr.xIntS (v:=byI l 0) (Ad6 (by omega)) ?_
 (refine Ja ?_;unhygienic intros)
 refine Tr.xIntS (v:=byI l 1) (Ad6 (by omega)) ?_
 (refine Ja ?_;unhygienic intros)
 refine Tr.xIntS (v:=byI l 2) (Ad6 (by omega)) ?_
 (refine Ja ?_;unhygienic intros)
 refine Tr.xIntS (v:=byI l 3) (Ad6 (by omega)) ?_
 simp only [byI,An8]
 refine Yn fun b2 h=>?_
 (refine Jb ?_;unhygienic intros)
 refine Yc (Gf0 (B81 l)) ?_
 rintro v h (⟨hk,a1,rfl,o⟩|⟨hk,rfl,o⟩)
 ·refine (?_:Tr _ _ _ _) o
  refine Je ?_
  (refine Jb ?_;unhygienic intros)
  refine Yb (Yt rfl ?_)
  refine Tr.pcall (key a1) ?_;refine Je ?_;(refine Jb ?_;unhygienic intros)
  refine Tr.same (Dv4 rfl) ?_
  refine Ys fun o=>(?_:Tr _ _ _ _) o;refine Je ?_
  (refine Ja ?_;unhygienic intros)
  refine Ys fun o=>?_
  exact ⟨by unfold isF;rw [hk,Bool.true_and];rfl,o.sub⟩
 ·refine (?_:Tr _ _ _ _) o
  refine Je ?_
  (refine Ja ?_;unhygienic intros)
  refine Ys fun o=>?_
  exact ⟨by unfold isF;rw [hk];rfl,o.sub⟩
theorem Es9 (n:Nat) (a:Option Addr) (c:Nat) (l:List UInt8) (hl:l.length=n) (hn:n≤B4):Ct B0 G3 [.slice a n c] [slC false A5 1 a n c (A0 l)] fun v own=>∃ a' c',v=.slice a' n c'∧own [slC false A5 1 a' n c' (A0 l),slC false A5 1 a n c (A0 l)]:=by
 subst hl;exact Ht8 (slC false A5 1 a l.length c (A0 l)) false a c l hn
theorem Et2 (n:Nat) (a:Option Addr) (c:Nat) (l:List UInt8) (hl:l.length=n) (hn:n≤B4):CtP B0 Am6 [.slice a n c] [slC false A5 1 a n c (A0 l)] (.bool (l.all (·==0))):=by
 subst hl;exact H35 (slC false A5 1 a l.length c (A0 l)) a false c l hn
theorem He5 (k:Nat) (a:Option Addr) (c:Nat) (l:List UInt8) (hl:l.length=8):Ct B0 V4 [P0 k,.slice a 8 c] [Gz4 k,slC false A5 1 a 8 c (A0 l)] fun v own=>v=.tuple ⟨[.agg ⟨Br9 (if isF l then B81 l else .zero)⟩,.bool (isF l)]⟩∧own [Gz4 k,slC false A5 1 a 8 c (A0 l)]:=by
 refine Ct.of B44 rfl fun h r=>Tr.eq (B46 ..) ?_;refine Je ?_
 (refine Ja ?_;unhygienic intros)
 refine Yf rfl ?_
 (refine Jb ?_;unhygienic intros)
 refine Yc (Es9 8 a c l hl (by simp [B4])) ?_;rintro _ h ⟨a1,c1,rfl,o⟩<;>(refine Jg o ?_;unhygienic intros)
 refine Yc (Ia2 a1 c1 l hl) ?_;rintro _ h ⟨rfl,o⟩<;>(refine Jg o ?_;unhygienic intros)
 cases hk:isF l with
 | false =>
  (refine Ja ?_;unhygienic intros)
  refine Ys fun o=>?_
  exact ⟨rfl,o.sub⟩
 | true =>
  (refine Ja ?_;unhygienic intros)
  refine Ys fun o=>?_
  exact ⟨rfl,o.sub⟩
def Y6 (l:List UInt8):FileS × Int:=if l.all (·==0) then (.zero,0) else if isF l then (B81 l,1) else (.zero,2)
theorem Hp4 (a:Option Addr) (c:Nat) (l:List UInt8) (hl:l.length=8):Ct B0 A40 [.slice a 8 c] [slC false A5 1 a 8 c (A0 l)] fun v own=>v=.tuple ⟨[.agg ⟨Br9 (Y6 l).1⟩,int (Y6 l).2]⟩∧own [slC false A5 1 a 8 c (A0 l)]:=by
 refine Ct.of Gl1 rfl fun h r=>Tr.eq (Gf4 ..) ?_;refine Je ?_
 refine Yn fun b1 h=>?_
 refine Yb (Yt rfl ?_)
 refine Tr.pcall (Et2 8 a c l hl (by simp [B4])) ?_;refine Je ?_;(refine Jb ?_;unhygienic intros)
 refine Ys fun o=>(?_:Tr _ _ _ _) o;refine Je ?_
 cases hb:l.all (·==0) with
 | true =>
  (refine Ja ?_;unhygienic intros)
  refine Ys fun o=>?_
  exact ⟨by unfold Y6;rw [hb];rfl,o.sub⟩
 | false =>
  (refine Jb ?_;unhygienic intros)
  refine Yc (Gq8) ?_;rintro _ h ⟨k,rfl,o⟩<;>(refine Jg o ?_;unhygienic intros)
  refine Yc (He5 k a c l hl) ?_;rintro _ h ⟨rfl,o⟩<;>(refine Jg o ?_;unhygienic intros)
  cases hk:isF l with
  | false =>
   (refine Ja ?_;unhygienic intros)
   refine Ys fun o=>?_
   exact ⟨by unfold Y6;rw [hb,hk];rfl,o.sub⟩
  | true =>
   (refine Ja ?_;unhygienic intros)
   refine Ys fun o=>?_
   exact ⟨by unfold Y6;rw [hb,hk];rfl,o.sub⟩
structure PipeS where
 head:Int
 count:Int
 readers:Int
 writers:Int
 data:List UInt8
 len:data.length=32
abbrev PipeS.zero:PipeS:=⟨0,0,0,0,List.replicate 32 0,rfl⟩
abbrev N5 (p:PipeS):List Value:=int p.head::int p.count::int p.readers::int p.writers::A0 p.data
theorem Dx9 {p:PipeS} (hd:p.data.length=32):(N5 p).length=36:=by simp [N5,U4,hd]
theorem Hr4 {p:PipeS} (hd:p.data.length=32):4+32≤(N5 p).length∧((N5 p).drop 4).take 32=A0 p.data:=⟨by rw [Dx9 hd];exact Nat.le_refl _,by
 rw [show (N5 p).drop 4=A0 p.data from rfl,List.take_of_length_le (by rw [U4,hd];exact Nat.le_refl _)]⟩
theorem H17 (p:PipeS):(N5 p).all Value.oneCell=true:=by simp [N5,Af9,Value.oneCell]
theorem Hr7 (p:PipeS):Ap8 (.agg ⟨N5 p⟩) (.agg ⟨N5 p⟩)=true:=Dv4 (by simp [N5,A0])
instance {p:PipeS}:LenC (N5 p) 36:=⟨Dx9 p.len⟩
instance {p:PipeS}:PartC (N5 p) 0 36 (N5 p):=⟨Bw5 (Dx9 p.len)⟩
instance {p:PipeS} {cs:List Value} [k:LenC cs 36]:SetsC cs 0 (N5 p) (N5 p):=⟨Bw8 k.ok (Dx9 p.len) (H17 p)⟩
instance {p:PipeS}:SameC (.agg ⟨N5 p⟩):=⟨Hr7 p⟩
def okP (p:PipeS):Bool:=decide (0≤p.head∧p.head≤31) && decide (0≤p.count∧p.count≤32) && decide (0≤p.readers∧p.readers≤8) && decide (0≤p.writers∧p.writers≤8)
def Ah5 (p:PipeS):List UInt8:=[1,b8 p.head,b8 p.count,b8 p.readers,b8 p.writers,197]
def J7 (p:PipeS):List UInt8:=Ah5 p++Bu4 (Ah5 p)::0::p.data
theorem Bs7 {p:PipeS} (hd:p.data.length=32):(J7 p).length=40:=by simp [J7,Ah5,hd]
theorem If8 (n m:Int):CtP B0 Ar7 [int n,int m] [] (.bool (decide (0≤n∧n≤m))):=by
 refine CtP.of Hf9 rfl fun h r=>Tr.eq (Ha0 ..) ?_;refine Je ?_
 (refine Ja ?_;unhygienic intros)
 refine Ys fun o=>?_
 refine ⟨?_,rfl⟩
 refine congrArg Value.bool ?_;rw [Bool.eq_iff_iff];simp only [Bool.and_eq_true,Bool.or_eq_true,Bool.not_eq_true',Bool.not_eq_false',decide_eq_true_eq,decide_eq_false_iff_not,bne_iff_ne,beq_iff_eq,ne_eq,A8,W6,Ac2,ge_iff_le,gt_iff_lt];first|done|omega
instance {n m:Int} {l:List HP}:PCi B0 Ar7 [.int .i64 n,.int .i64 m] l (.bool (decide (0≤n∧n≤m))):=PCi.of (If8 n m)
theorem If9 (p:PipeS):Ct B0 Du3 [.agg ⟨N5 p⟩] [] fun v own=>v=.bool (okP p)∧own []:=by
 refine Ct.of Hx5 rfl fun h r=>Tr.eq (Hs9 ..) ?_;refine Je ?_
 (refine Ja ?_;unhygienic intros)
 refine Ys fun o=>?_
 exact ⟨rfl,o.sub⟩
theorem Ie0 (a:Option Addr) (c:Nat) (p:PipeS):Ct B0 Bk6 [.agg ⟨N5 p⟩,.slice a 40 c] [slC false A5 1 a 40 c (A0 (List.replicate 40 0))] fun v own=>v=.bool (okP p)∧own [slC false A5 1 a 40 c (A0 (if okP p then J7 p else List.replicate 40 0))]:=by
 have hd:=p.len
 refine Ct.of Hn9 rfl fun h r=>Tr.eq (Hk9 ..) ?_;refine Je ?_
 refine Yn fun b1 h=>?_
 (refine Ja ?_;unhygienic intros)
 refine Yc (If9 p) ?_;rintro _ h ⟨rfl,o⟩<;>(refine Jg o ?_;unhygienic intros)
 cases hk:okP p with
 | false =>
  (refine Ja ?_;unhygienic intros)
  refine Ys fun o=>?_
  rw [if_neg (by simp)]
  exact ⟨rfl,o.sub⟩
 | true =>
  (refine Ja ?_;unhygienic intros)
  simp only [Bg1,List.drop_zero,List.take]
  refine S9 2 rfl fun hl hc _=>?_
  refine Tr.xPCells (cs':=A0 (Ah5 p++List.replicate 34 0)) (by omega) ⟨by simp,by simp [A0],by simp [Value.oneCell],rfl⟩ fun h=>?_
  (refine Ja ?_;unhygienic intros)
  refine Tr.pcall (Gc5 (slC false A5 1 a 40 c (A0 (Ah5 p++List.replicate 34 0))) a false 40 c c (Ah5 p++List.replicate 34 0) 6 (by simp [Ah5]) (by simp [Ah5,B4])) ?_
  refine Je ?_
  (refine Ja ?_;unhygienic intros;repeat(refine Gw ?_;rintro px rfl;refine Ja ?_;unhygienic intros))
  rw [show List.take 6 (Ah5 p++List.replicate 34 0:List UInt8)=Ah5 p from rfl,Do0]
  refine Tr.xVS (cs':=A0 (Ah5 p++Bu4 (Ah5 p)::List.replicate 33 0)) ⟨by simp [A0,Ah5],rfl,rfl⟩ fun h=>?_
  (refine Ja ?_;unhygienic intros)
  refine Tr.xCellsB (xs:=A0 p.data) (Hr4 p.len) ?_
  rw [Gj7 (by omega),En7]
  refine Tr.xPAggS (cs':=A0 (J7 p)) ⟨?_,?_,Af9 _,?_⟩ fun h=>?_
  ·intro e;have:=congrArg List.length e;simp [A0,hd] at this
  ·simp [A0,hd,Ah5]
  ·rw [U4,hd]
   simp [A0,J7,Ah5]
  refine Ys fun o=>?_
  simp only [if_true]
  exact ⟨trivial,o.sub⟩
abbrev E55 (k:Nat):HP:=pt k (.cells Bo6 false [int 40,.func (.func Bk6) ⟨[]⟩ ⟨[]⟩,.func (.func Bk8) ⟨[]⟩ ⟨[]⟩])
theorem G93 (k:Nat) (f:PipeS):Ct B0 V5 [P0 k,.agg ⟨N5 f⟩] [E55 k] fun v own=>(okP f=true∧∃ a,v=.tuple ⟨[.slice a 40 40,.bool true]⟩∧own [E55 k,slC false A5 1 a 40 40 (A0 (J7 f))])∨(okP f=false∧v=.tuple ⟨[.slice none 0 0,.bool false]⟩∧own [E55 k]):=by
 refine Ct.of B45 rfl fun h r=>Tr.eq (B48 ..) ?_;refine Je ?_
 (refine Ja ?_;unhygienic intros)
 refine Tr.ck ⟨by omega,by omega,by simp [B4]⟩ ?_
 refine Yn fun b1 h=>?_
 rw [show H3 (Int.toNat 40) [.int .u8 0]=A0 (List.replicate 40 0) from rfl]
 refine Af7 0 rfl 1 40 rfl (by omega) ?_
 simp only [List.set_cons_zero]
 refine Je ?_
 (refine Jb ?_;unhygienic intros)
 refine Yb (Yf rfl ?_)
 (refine Jb ?_;unhygienic intros)
 refine Yc (Ie0 (some ⟨b1,0,none⟩) 40 f) ?_;rintro _ h ⟨rfl,o⟩<;>(refine Jg o ?_;unhygienic intros)
 refine Ys fun o=>(?_:Tr _ _ _ _) o;refine Je ?_
 cases hk:okP f with
 | false =>
  (refine Ja ?_;unhygienic intros)
  refine Ys fun o=>?_
  exact .inr ⟨rfl,rfl,o.sub⟩
 | true =>
  (refine Ja ?_;unhygienic intros)
  refine Ys fun o=>?_
  simp only [if_true] at o
  exact .inl ⟨rfl,_,rfl,o.sub⟩
theorem If3:Ct B0 Ao2 [int 40,.func (.func Bk6) ⟨[]⟩ ⟨[]⟩,.func (.func Bk8) ⟨[]⟩ ⟨[]⟩] [] fun v own=>∃ k,v=P0 k∧own [E55 k]:=by
 refine Ct.of Ea2 rfl fun h r=>Tr.eq (Eb8 ..) ?_;refine Je ?_
 rw [show mm2 false (mm2 true 40 0) 64=40 from rfl]
 (refine Ja ?_;unhygienic intros)
 refine Ys fun o=>?_
 exact ⟨_,rfl,o.sub⟩
theorem Gm4:Ct B0 Bg8 [] [] fun v own=>∃ k,v=P0 k∧own [E55 k]:=by
 refine Ct.of G34 rfl fun h r=>Tr.eq (G22 ..) ?_;refine Je ?_
 refine Yc (If3) ?_;rintro _ h ⟨k,rfl,o⟩<;>(refine Jf o ?_;unhygienic intros)
 refine Ys fun o=>?_
 exact ⟨_,rfl,o.sub⟩
theorem Ge9 (f:PipeS):Ct B0 Ba8 [.agg ⟨N5 f⟩] [] fun v own=>(okP f=true∧∃ a,v=.tuple ⟨[.slice a 40 40,.bool true]⟩∧own [slC false A5 1 a 40 40 (A0 (J7 f))])∨(okP f=false∧v=.tuple ⟨[.slice none 0 0,.bool false]⟩∧own []):=by
 refine Ct.of Gr5 rfl fun h r=>Tr.eq (Gu1 ..) ?_;refine Je ?_
 refine Yn fun b1 h=>?_
 (refine Ja ?_;unhygienic intros)
 refine Yc (Gm4) ?_;rintro _ h ⟨k,rfl,o⟩<;>(refine Jg o ?_;unhygienic intros)
 (refine Ja ?_;unhygienic intros)
 refine Yc (G93 k f) ?_
 rintro v h (⟨hk,a,rfl,o⟩|⟨hk,rfl,o⟩)
 ·refine (?_:Tr _ _ _ _) o
  refine Je ?_
  (refine Ja ?_;unhygienic intros)
  refine Ys fun o=>?_
  exact .inl ⟨hk,a,rfl,o.sub⟩
 ·refine (?_:Tr _ _ _ _) o
  refine Je ?_
  (refine Ja ?_;unhygienic intros)
  refine Ys fun o=>?_
  exact .inr ⟨hk,rfl,o.sub⟩
def Dw5 (l:List UInt8):List UInt8:=(l++List.replicate 32 0).take 32
theorem Hu9 (l:List UInt8):(Dw5 l).length=32:=by simp [Dw5]
theorem Ee6 {l:List UInt8} (h:l.length=32):Dw5 l=l:=by simp [Dw5,← h]
def Bd8 (l:List UInt8):PipeS:=⟨byI l 1,byI l 2,byI l 3,byI l 4,Dw5 (l.drop 8),Hu9 _⟩
def isP (l:List UInt8):Bool:=okP (Bd8 l) && decide (J7 (Bd8 l)=l)
theorem Ie3 (a:Option Addr) (c:Nat) (l:List UInt8) (hl:l.length=40):Ct B0 Bk8 [.slice a 40 c] [slC false A5 1 a 40 c (A0 l)] fun v own=>v=.tuple ⟨[.agg ⟨N5 (Bd8 l)⟩,.bool (isP l)]⟩∧own [slC false A5 1 a 40 c (A0 l)]:=by
 have hd:=(Bd8 l).len
 have hp:Dw5 (l.drop 8)=l.drop 8:=Ee6 (by simp [hl])
 have key:∀ a1:Option Addr,CtP B0 D4 [.slice a1 40 40,.slice a 40 c] [slC false A5 1 a1 40 40 (A0 (J7 (Bd8 l))),slC false A5 1 a 40 c (A0 l)] (.bool (decide (J7 (Bd8 l)=l))):=fun a1=>by
  have e:=Bs7 hd
  have J:=Ep7 (slC false A5 1 a1 (J7 (Bd8 l)).length 40 (A0 (J7 (Bd8 l)))) (slC false A5 1 a l.length c (A0 l)) a1 false 40 a false c (J7 (Bd8 l)) l (by rw [e];simp [B4])
  rwa [hl,e] at J
 refine Ct.of Hj4 rfl fun h r=>Tr.eq (Hl4 ..) ?_;refine Je ?_
 refine Yn fun b1 h=>?_
 refine S9 1 rfl fun hl2 hc2 _=>?_
 (refine Ja ?_;unhygienic intros;repeat(refine Gw ?_;rintro px rfl;refine Ja ?_;unhygienic intros))
 refine Tr.xIntS (v:=byI l 1) (Ad6 (by omega)) ?_
 (refine Ja ?_;unhygienic intros)
 refine Tr.xIntS (v:=byI l 2) (Ad6 (by omega)) ?_
 (refine Ja ?_;unhygienic intros)
 refine Tr.xIntS (v:=byI l 3) (Ad6 (by omega)) ?_
 (refine Ja ?_;unhygienic intros)
 refine Tr.xIntS (v:=byI l 4) (Ad6 (by omega)) ?_
 simp only [byI,An8]
 refine Yn fun b2 h=>?_
 (refine Jb ?_;unhygienic intros)
 rw [Gj7 (show 8<c by omega),Gy9]
 refine Tr.xAggS (xs:=A0 (l.drop 8)) ⟨by omega,by simp [U4,hl],?_⟩ ?_
 ·rw [B84,List.take_of_length_le (by simp [U4,hl])]
 rw [show pCells (some (⟨b2,4,none⟩:Addr))=pAgg ⟨b2,4,none⟩ from rfl]
 refine Tr.xPAgg (cs':=N5 (Bd8 l)) ⟨by simp [U4,hl],Af9 _,by simp [N5,Bd8,byI,U4,hl,hp]⟩ fun h=>?_
 (refine Ja ?_;unhygienic intros)
 refine Yc (Ge9 (Bd8 l)) ?_
 rintro v h (⟨hk,a1,rfl,o⟩|⟨hk,rfl,o⟩)
 ·refine (?_:Tr _ _ _ _) o
  refine Je ?_
  (refine Jb ?_;unhygienic intros)
  refine Yb (Yt rfl ?_)
  refine Tr.pcall (key a1) ?_;refine Je ?_;(refine Jb ?_;unhygienic intros)
  refine Ys fun o=>(?_:Tr _ _ _ _) o;refine Je ?_
  (refine Ja ?_;unhygienic intros)
  refine Ys fun o=>?_
  exact ⟨by unfold isP;rw [hk,Bool.true_and],o.sub⟩
 ·refine (?_:Tr _ _ _ _) o
  refine Je ?_
  (refine Ja ?_;unhygienic intros)
  refine Ys fun o=>?_
  exact ⟨by unfold isP;rw [hk];rfl,o.sub⟩
theorem Hg2 (k:Nat) (a:Option Addr) (c:Nat) (l:List UInt8) (hl:l.length=40):Ct B0 V3 [P0 k,.slice a 40 c] [E55 k,slC false A5 1 a 40 c (A0 l)] fun v own=>v=.tuple ⟨[.agg ⟨N5 (if isP l then Bd8 l else .zero)⟩,.bool (isP l)]⟩∧own [E55 k,slC false A5 1 a 40 c (A0 l)]:=by
 have hd:=(Bd8 l).len
 have hp:Dw5 (l.drop 8)=l.drop 8:=Ee6 (by simp [hl])
 refine Ct.of B47 rfl fun h r=>Tr.eq (B50 ..) ?_;refine Je ?_
 (refine Ja ?_;unhygienic intros)
 refine Yf rfl ?_
 (refine Jb ?_;unhygienic intros)
 refine Yc (Es9 40 a c l hl (by simp [B4])) ?_;rintro _ h ⟨a1,c1,rfl,o⟩<;>(refine Jg o ?_;unhygienic intros)
 refine Yc (Ie3 a1 c1 l hl) ?_;rintro _ h ⟨rfl,o⟩<;>(refine Jg o ?_;unhygienic intros)
 cases hk:isP l with
 | false =>
  (refine Ja ?_;unhygienic intros)
  refine Ys fun o=>?_
  exact ⟨rfl,o.sub⟩
 | true =>
  (refine Ja ?_;unhygienic intros)
  refine Ys fun o=>?_
  exact ⟨rfl,o.sub⟩
def U7 (l:List UInt8):PipeS × Int:=if l.all (·==0) then (.zero,0) else if isP l then (Bd8 l,1) else (.zero,2)
theorem Hl8 (a:Option Addr) (c:Nat) (l:List UInt8) (hl:l.length=40):Ct B0 Aw7 [.slice a 40 c] [slC false A5 1 a 40 c (A0 l)] fun v own=>v=.tuple ⟨[.agg ⟨N5 (U7 l).1⟩,int (U7 l).2]⟩∧own [slC false A5 1 a 40 c (A0 l)]:=by
 have hd:=(Bd8 l).len
 have hp:Dw5 (l.drop 8)=l.drop 8:=Ee6 (by simp [hl])
 refine Ct.of Gq9 rfl fun h r=>Tr.eq (Gr1 ..) ?_;refine Je ?_
 refine Yn fun b1 h=>?_
 refine Yb (Yt rfl ?_)
 refine Tr.pcall (Et2 40 a c l hl (by simp [B4])) ?_;refine Je ?_;(refine Jb ?_;unhygienic intros)
 refine Ys fun o=>(?_:Tr _ _ _ _) o;refine Je ?_
 cases hb:l.all (·==0) with
 | true =>
  (refine Ja ?_;unhygienic intros)
  refine Ys fun o=>?_
  exact ⟨by unfold U7;rw [hb];rfl,o.sub⟩
 | false =>
  (refine Jb ?_;unhygienic intros)
  refine Yc (Gm4) ?_;rintro _ h ⟨k,rfl,o⟩<;>(refine Jg o ?_;unhygienic intros)
  refine Yc (Hg2 k a c l hl) ?_;rintro _ h ⟨rfl,o⟩<;>(refine Jg o ?_;unhygienic intros)
  cases hk:isP l with
  | false =>
   (refine Ja ?_;unhygienic intros)
   refine Ys fun o=>?_
   exact ⟨by unfold U7;rw [hb,hk];rfl,o.sub⟩
  | true =>
   (refine Ja ?_;unhygienic intros)
   refine Ys fun o=>?_
   exact ⟨by unfold U7;rw [hb,hk];rfl,o.sub⟩
structure ProcS where
 state:Int
 parent:Int
 group:Int
 code:Int
 pending:Int
 mask:Int
 ignored:Int
 caught:Int
 fds:List Int
 len:fds.length=8
abbrev Bs2:List Int:=[0,0,0,0,0,0,0,0]
abbrev ProcS.zero:ProcS:=⟨0,0,0,0,0,0,0,0,Bs2,rfl⟩
abbrev D3 (p:ProcS):List Value:=int p.state::int p.parent::int p.group::int p.code::int p.pending::int p.mask::int p.ignored::int p.caught::p.fds.map int
theorem A65 (p:ProcS):(D3 p).length=16:=by simp [D3,p.len]
theorem Hz3 (p:ProcS):(D3 p).all Value.oneCell=true:=by simp [D3,Value.oneCell]
instance {p:ProcS}:LenC (D3 p) 16:=⟨A65 p⟩
instance {p:ProcS}:PartC (D3 p) 0 16 (D3 p):=⟨Bw5 (A65 p)⟩
instance {p:ProcS}:PartC (D3 p) 8 8 (p.fds.map int):=⟨by
 have h:Nat.ble (8+8) (D3 p).length=true:=by rw [A65];rfl
 have e:((D3 p).drop 8).take 8=p.fds.map int:=by rw [show (D3 p).drop 8=p.fds.map int from rfl,List.take_of_length_le (by simp [p.len])]
 rw [B32,h,e];rfl⟩
instance {p:ProcS} {cs:List Value} [k:LenC cs 16]:SetsC cs 0 (D3 p) (D3 p):=⟨Bw8 k.ok (A65 p) (Hz3 p)⟩
instance {p:ProcS}:SameC (.agg ⟨D3 p⟩):=⟨Dv4 (by simp [D3])⟩
def D82 (n w:Int):Bool:=En1 .i64 n 65534==0 && P5 .i64 n w==0
def okS (p:ProcS):Bool :=
 !(decide (p.state<1) || decide (p.state>3) || decide (p.parent<0) || decide (p.parent>8) || decide (p.group<0) || decide (p.group≥8) || decide (p.code<0) || decide (p.code>255)) &&
 (!(!D82 p.pending 0 || !D82 p.mask 16896 || !D82 p.ignored 16896 || !D82 p.caught 16896 || P5 .i64 p.ignored p.caught != 0) &&
 (!(p.fds.any fun f=>decide (f<0) || decide (f>12)) &&
 (if p.state=2 then p.pending==0 && decide (p.fds=Bs2) else p.code==0)))
def hi2 (n:Int):UInt8:=if 0≤n∧n≤65535 then b8 (n / 256) else 0
def lo2 (n:Int):UInt8:=if 0≤n∧n≤65535 then b8 n else 0
abbrev put2 (n:Int):List UInt8:=[hi2 n,lo2 n]
def D88 (p:ProcS):List UInt8:=[b8 p.state,b8 p.parent,b8 p.group,b8 p.code]++(put2 p.pending++(put2 p.mask++(put2 p.ignored++(put2 p.caught++(p.fds.map b8++[167])))))
theorem H34 (n:Int):(put2 n).length=2:=rfl
theorem H11 (p:ProcS):(D88 p).length=21:=by simp [D88,H34,p.len]
def Av9 (p:ProcS):List UInt8:=D88 p++[Bu4 (D88 p),0,0]
theorem D91 (p:ProcS):(Av9 p).length=24:=by simp [Av9,H11]
theorem If0 (n w:Int):CtP B0 Ak3 [int n,int w] [] (.bool (D82 n w)):=by
 refine CtP.of Gz1 rfl fun h r=>Tr.eq (G25 ..) ?_;refine Je ?_
 exact Jz
instance {n w:Int} {l:List HP}:PCi B0 Ak3 [.int .i64 n,.int .i64 w] l (.bool (D82 n w)):=PCi.of (If0 n w)
theorem Id2 (f:Int):CtP B0 Bj2 [int f] [] (.bool (decide (f<0) || decide (f>12))):=by
 refine CtP.of G51 rfl fun h r=>Tr.eq (Gv2 ..) ?_;refine Je ?_
 exact Jz
theorem E57 (p:HP) (a:Option Addr) (ro:Bool) (c:Nat) (l:List Int) (g:FuncId) (f:Int→Bool) {e:TypeId} [ks:IsSl p a ro e 1 l.length c (l.map int)] (hl:l.length≤B4) (hf:∀ x,CtP B0 g [int x] [] (.bool (f x))):∀ (m i:Nat),l.length-i=m→i≤l.length →
  U9 E3 D6 N4 [(0,.slice a l.length c),(1,.func (.func g) ⟨[]⟩ ⟨[]⟩),(7,int l.length),(8,int i)] [p] (int (Bs5 f i (l.drop i))):=by
 intro m
 induction m with
 | zero =>
  intro i hm hi
  refine U9.of M0 fun h r=>Tr.eq (S5 ..) ?_;refine Je ?_
  refine Yf (by simp;omega) ?_
  refine Ys fun o=>?_
  rw [List.drop_eq_nil_of_le (by omega)];exact ⟨rfl,rfl⟩
 | succ m ih =>
  intro i hm hi
  have hlt:i<l.length:=by omega
  have hp:l[i]?=some l[i]:=List.getElem?_eq_getElem hlt
  have hd:l.drop i=l[i]::l.drop (i+1):=List.drop_eq_getElem_cons hlt
  generalize l[i]=x at hp hd
  have e1:IntKind.wrap .i64 ((i:Int)+1)=((i+1:Nat):Int):=by rw [A8];simp only [B4] at hl;omega
  refine U9.of M0 fun h r=>Tr.eq (S5 ..) ?_;refine Je ?_
  refine Yt (by simp;omega) ?_
  (refine Ja ?_;unhygienic intros;repeat(refine Gw ?_;rintro px rfl;refine Ja ?_;unhygienic intros))
  refine Tr.xIntS (v:=x) (by simp [hp]) ?_
  (refine Ja ?_;unhygienic intros)
  refine Tr.pcall (hf x) ?_
  cases hx:f x with
  | true =>
   (refine Ja ?_;unhygienic intros)
   refine Ys fun o=>?_
   rw [hd,Bs5,if_pos hx];exact ⟨by first|rfl|trivial,by first|rfl|trivial⟩
  | false =>
   (refine Ja ?_;unhygienic intros)
   rw [e1]
   refine Y9 (ih (i+1) (by omega) (by omega)) (r:=r) (by simp) fun o=>?_
   rw [hd,Bs5,if_neg (by simp [hx])];exact ⟨by first|rfl|trivial,by first|rfl|trivial⟩
theorem E76 (p:HP) (a:Option Addr) (ro:Bool) (c:Nat) (l:List Int) (g:FuncId) (f:Int→Bool) {e:TypeId} [ks:IsSl p a ro e 1 l.length c (l.map int)] (hl:l.length≤B4) (hf:∀ x,CtP B0 g [int x] [] (.bool (f x))) :
  CtP B0 E5 [.slice a l.length c,.func (.func g) ⟨[]⟩ ⟨[]⟩] [p] (.bool (l.any f)):=by
 have j:CtP B0 D6 [.slice a l.length c,.func (.func g) ⟨[]⟩ ⟨[]⟩] [p] (int (Bs5 f 0 l)):=by
  refine CtP.of M0 rfl fun h r=>Tr.eq (A56 ..) ?_;refine Je ?_
  exact Y9 (E57 p a ro c l g f hl hf _ 0 rfl (by omega)) (r:=r) (by simp) fun o=>⟨rfl,rfl⟩
 refine CtP.of Av6 rfl fun h r=>Tr.eq (Av5 ..) ?_;refine Je ?_
 refine Bw2 j (r:=r) (by simp) ?_
 (refine Ja ?_;unhygienic intros)
 refine Ys fun o=>?_
 rw [Er5];exact ⟨by first|rfl|trivial,by first|rfl|trivial⟩
theorem G76:∀ (l m:List Int),l.length=m.length→eqs (l.map int) (m.map int)=some (decide (l=m))
 | [],[],_=>rfl
 | [],_::_,h=>by simp at h
 | _::_,[],h=>by simp at h
 | a::l,b::m,h=>by
  have ih:=G76 l m (by simpa using h)
  simp only [List.map_cons,eqs,eq1,decide_true,ih]
  by_cases h1:a=b<;>by_cases h2:l=m<;>simp [h1,h2]
theorem E54:∀ (l:List Int),G8 (List.replicate l.length (TypeDesc.int .i64)) (l.map int)=true
 | []=>rfl
 | a::l=>by
  have:=E54 l
  simp only [List.length_cons,List.replicate_succ,List.map_cons,G8,decide_true,this,Bool.and_self]
theorem eq8 {α:Type} (l m:List Int) (hl:l.length=8) (hm:m.length=8) (k:Bool→Option α):B96 PR Gg3 (l.map int) (m.map int) k=k (decide (l=m)):=by
 have e:Aj4 PR 8 Gg3=some (List.replicate 8 (TypeDesc.int .i64)):=by kernel_rfl
 have f1:=E54 l;have f2:=E54 m
 rw [hl] at f1;rw [hm] at f2
 rw [B96,e]
 simp only [f1,f2,G76 l m (by omega),Bool.and_self,ckB,cond_true,eqK]
theorem Ih8 (p:ProcS):Ct B0 Di1 [.agg ⟨D3 p⟩] [] fun v own=>v=.bool (okS p)∧own []:=by
 have h8:=p.len
 refine Ct.of Hk5 rfl fun h r=>Tr.eq (Hp9 ..) ?_;refine Je ?_
 (refine Ja ?_;unhygienic intros)
 refine Tr.cond (fun h1=>?_) fun h1=>?_
 ·refine Ys fun o=>?_
  refine ⟨?_,o.sub⟩
  unfold okS;rw [h1];rfl
 (refine Ja ?_;unhygienic intros)
 refine Tr.cond (fun h2=>?_) fun h2=>?_
 ·refine Ys fun o=>?_
  refine ⟨?_,o.sub⟩
  unfold okS;rw [h1,h2];rfl
 (refine Ja ?_;unhygienic intros)
 refine Gf5 0 rfl [int p.state,int p.parent,int p.group,int p.code,int p.pending,int p.mask,int p.ignored,int p.caught] (p.fds.map int) [] (by simp [D3]) 1 8 8 8 ⟨by simp [h8],by omega,by simp,by simp [D3],by omega,by omega⟩ ?_
 refine Je ?_
 have J:=E76 (e:=D2) (slX false D2 1 (some ⟨b,8,none⟩) p.fds.length 8 ([int p.state,int p.parent,int p.group,int p.code,int p.pending,int p.mask,int p.ignored,int p.caught],[]) (p.fds.map int)) (some ⟨b,8,none⟩) false 8 p.fds Bj2 (fun f=>decide (f<0) || decide (f>12)) (by rw [h8];simp [B4]) Id2
 rw [h8] at J
 refine Tr.pcall (J) ?_;refine Je ?_;(refine Ja ?_;unhygienic intros)
 refine Ep9 0 rfl (D3 p) (by simp [D3]) ?_
 refine Je ?_
 cases h3:p.fds.any fun f=>decide (f<0) || decide (f>12) with
 | true =>
  (refine Ja ?_;unhygienic intros)
  refine Ys fun o=>?_
  refine ⟨?_,o.sub⟩
  unfold okS;rw [h1,h2,h3];rfl
 | false =>
  (refine Ja ?_;unhygienic intros)
  have e:okS p=if p.state=2 then p.pending==0 && decide (p.fds=Bs2) else p.code==0:=by unfold okS;rw [h1,h2,h3];rfl
  rw [e]
  by_cases h4:p.state=2
  ·refine Yt (by simpa using h4) ?_
   rw [if_pos h4]
   (repeat' first|refine Gu ?_|(with_reducible first|refine Gn fun b h=>?_|apply Gx|apply Gy|rintro px rfl|apply Gw|refine fun(h:H)=>?_|intro hb)|refine Gs ?_|refine Gt ?_|exact Gz rfl|fail)
   rw [show ([int 0,int 0,int 0,int 0,int 0,int 0,int 0,int 0]:List Value)=Bs2.map int from rfl,eq8 _ _ h8 rfl]
   (repeat' first|refine Gu ?_|(with_reducible first|refine Gn fun b h=>?_|apply Gx|apply Gy|rintro px rfl|apply Gw|refine fun(h:H)=>?_|intro hb)|refine Gs ?_|refine Gt ?_|exact Gz rfl|fail)
   refine Ys fun o=>?_
   exact ⟨rfl,o.sub⟩
  ·refine Yf (by simpa using h4) ?_
   rw [if_neg h4]
   (refine Ja ?_;unhygienic intros)
   refine Ys fun o=>?_
   exact ⟨rfl,o.sub⟩
theorem If2 (a:Option Addr) (c:Nat) (cs:List Value) (j:Nat) (n:Int) (hj:j+2≤cs.length) (hm:cs.length≤B4):Ct B0 Bi3 [.slice a cs.length c,int j,int n] [slC false A5 1 a cs.length c cs] fun v own =>
  (∃ ok,v=.bool ok)∧own [slC false A5 1 a cs.length c (if 0≤n∧n≤65535 then (cs.set j (.int .u8 ((b8 (n / 256)).toNat:Int))).set (j+1) (.int .u8 ((b8 n).toNat:Int)) else cs)]:=by
 simp only [B4] at hm
 have e1:IntKind.wrap .i64 ((cs.length:Int)-2)=(cs.length:Int)-2:=by rw [A8];omega
 have e2:IntKind.wrap .i64 ((j:Int)+1)=((j+1:Nat):Int):=by rw [A8];omega
 refine Ct.of G58 rfl fun h r=>Tr.eq (G86 ..) ?_;refine Je ?_
 rw [e1,e2]
 (refine Ja ?_;unhygienic intros)
 by_cases h:0≤n∧n≤65535
 ·refine Yf (by simp;omega) ?_
  rw [if_pos h]
  (refine Ja ?_;unhygienic intros;repeat(refine Gw ?_;rintro px rfl;refine Ja ?_;unhygienic intros))
  rw [Int.toNat_natCast,show Int.fdiv n (2 ^ 8)=n / 256 by rw [Int.fdiv_eq_ediv_of_nonneg _ (by omega)];rfl,Bg1,Bg1]
  refine Je ?_
  refine Tr.xVS (cs':=cs.set j (.int .u8 ((b8 (n / 256)).toNat:Int))) ⟨by omega,rfl,rfl⟩ fun h=>?_
  (refine Ja ?_;unhygienic intros)
  rw [Int.toNat_natCast]
  refine Je ?_
  refine Tr.xVS (cs':=(cs.set j (.int .u8 ((b8 (n / 256)).toNat:Int))).set (j+1) (.int .u8 ((b8 n).toNat:Int))) ⟨by simp;omega,rfl,rfl⟩ fun h=>?_
  refine Ys fun o=>?_
  exact ⟨⟨_,rfl⟩,o.sub⟩
 ·refine Yt (by simp;omega) ?_
  rw [if_neg h]
  refine Ys fun o=>?_
  exact ⟨⟨_,rfl⟩,o.sub⟩
theorem D50 (l:List UInt8) (j:Nat) (x:UInt8):(A0 l).set j (.int .u8 (x.toNat:Int))=A0 (l.set j x):=by simp [A0,List.map_set]
theorem Eb2 (a:Option Addr) (c m:Nat) (l:List UInt8) (j:Nat) (n:Int) (hm:l.length=m) (hj:j+2≤m) (h1:l[j]?=some 0) (h2:l[j+1]?=some 0) (hl:m≤B4):Ct B0 Bi3 [.slice a m c,int j,int n] [slC false A5 1 a m c (A0 l)] fun v own =>
  (∃ ok,v=.bool ok)∧own [slC false A5 1 a m c (A0 ((l.set j (hi2 n)).set (j+1) (lo2 n)))]:=by
 subst hm
 have J:=If2 a c (A0 l) j n (by rw [U4];omega) (by rw [U4];omega)
 rw [U4] at J
 have e:(if 0≤n∧n≤65535 then ((A0 l).set j (.int .u8 ((b8 (n / 256)).toNat:Int))).set (j+1) (.int .u8 ((b8 n).toNat:Int)) else A0 l)=A0 ((l.set j (hi2 n)).set (j+1) (lo2 n)):=by
  unfold hi2 lo2
  split
  ·rw [D50,D50]
  ·rw [Eo8 h1,Eo8 h2]
 rw [e] at J
 exact J
def two (l:List UInt8) (j:Nat):Int:=byI l j*256+byI l (j+1)
theorem Ii4 (x y:UInt8):Hr3 .i64 (IntKind.wrap .i64 (IntKind.wrap .i64 (x.toNat:Int)*2 ^ 8)) (IntKind.wrap .i64 (y.toNat:Int))=(x.toNat:Int)*256+y.toNat:=by
 have hx:=x.toNat_lt;have hy:=y.toNat_lt
 have e1:IntKind.wrap .i64 (IntKind.wrap .i64 (x.toNat:Int)*2 ^ 8)=((x.toNat*256:Nat):Int):=by rw [An8,A8];omega
 rw [e1,An8]
 unfold Hr3
 have e0:IntKind.bits .i64=64:=rfl
 rw [e0,BitVec.ofInt_natCast,BitVec.ofInt_natCast,BitVec.toNat_or,BitVec.toNat_ofNat,BitVec.toNat_ofNat,Nat.mod_eq_of_lt (by omega),Nat.mod_eq_of_lt (by omega)]
 have e2:x.toNat*256 ||| y.toNat=x.toNat*256+y.toNat:=by
  have:=Nat.two_pow_add_eq_or_of_lt (i:=8) (b:=y.toNat) (by omega) x.toNat
  rw [show 2 ^ 8*x.toNat=x.toNat*256 by omega] at this
  exact this.symm
 rw [e2,A8];omega
theorem Eu7 (a:Option Addr) (c n:Nat) (l:List UInt8) (j:Nat) (hn:l.length=n) (hj:j+2≤n) (hm:n≤B4):CtP B0 B07 [.slice a n c,int j] [slC false A5 1 a n c (A0 l)] (.tuple ⟨[int (two l j),.bool true]⟩):=by
 simp only [B4] at hm
 have e1:IntKind.wrap .i64 ((n:Int)-2)=(n:Int)-2:=by rw [A8];omega
 have e2:IntKind.wrap .i64 ((j:Int)+1)=((j+1:Nat):Int):=by rw [A8];omega
 refine CtP.of G40 rfl fun h r=>Tr.eq (Gz0 ..) ?_;refine Je ?_
 rw [e1,e2]
 (refine Ja ?_;unhygienic intros)
 refine Yf (by simp;omega) ?_
 (refine Ja ?_;unhygienic intros;repeat(refine Gw ?_;rintro px rfl;refine Ja ?_;unhygienic intros))
 rw [Int.toNat_natCast]
 refine Je ?_
 refine Tr.xIntS (v:=byI l j) (Ad6 (by omega)) ?_
 (refine Ja ?_;unhygienic intros)
 rw [Int.toNat_natCast]
 refine Je ?_
 refine Tr.xIntS (v:=byI l (j+1)) (Ad6 (by omega)) ?_
 refine Ys fun o=>?_
 rw [Ii4];exact ⟨rfl,rfl⟩
theorem Ib2 (a:Option Addr) (c:Nat) (p:ProcS):Ct B0 O4 [.agg ⟨D3 p⟩,.slice a 24 c] [slC false A5 1 a 24 c (A0 (List.replicate 24 0))] fun v own=>v=.bool (okS p)∧own [slC false A5 1 a 24 c (A0 (if okS p then Av9 p else List.replicate 24 0))]:=by
 refine Ct.of H6 rfl fun h r=>Tr.eq (Hf5 ..) ?_;refine Je ?_
 refine Yn fun b1 h=>?_
 (refine Ja ?_;unhygienic intros)
 refine Yc (Ih8 p) ?_;rintro _ h ⟨rfl,o⟩<;>(refine Jf o ?_;unhygienic intros)
 cases hk:okS p with
 | false =>
  (refine Ja ?_;unhygienic intros)
  refine Ys fun o=>?_
  rw [if_neg (by simp)]
  exact ⟨rfl,o.sub⟩
 | true =>
  simp only [if_true]
  obtain ⟨st,pa,gr,co,pe,ma,ig,ca,fds,len⟩:=p
  match fds,len with
  | [f0,f1,f2,f3,f4,f5,f6,f7],len =>
  (refine Ja ?_;unhygienic intros)
  rename_i b2 h2
  refine S9 2 rfl fun hl hc _=>?_
  simp only [List.map]
  refine Tr.jmp H6 (Tr.eq (A49 ..) ?_);(try simp only[Nr,Nl,wl,Nat.reduceAdd,Nat.reduceMul,Int.reduceToNat])
  (refine Jd ?_;unhygienic intros;repeat(refine Gw ?_;rintro px rfl;refine Jd ?_;unhygienic intros))
  refine Tr.jmp H6 (Tr.eq (A49 ..) ?_);(try simp only[Nr,Nl,wl,Nat.reduceAdd,Nat.reduceMul,Int.reduceToNat])
  (refine Jd ?_;unhygienic intros)
  refine Tr.jmp H6 (Tr.eq (A49 ..) ?_);(try simp only[Nr,Nl,wl,Nat.reduceAdd,Nat.reduceMul,Int.reduceToNat])
  (refine Jd ?_;unhygienic intros)
  refine Tr.jmp H6 (Tr.eq (A49 ..) ?_);(try simp only[Nr,Nl,wl,Nat.reduceAdd,Nat.reduceMul,Int.reduceToNat])
  (refine Jd ?_;unhygienic intros)
  refine Tr.jmp H6 (Tr.eq (A49 ..) ?_);(try simp only[Nr,Nl,wl,Nat.reduceAdd,Nat.reduceMul,Int.reduceToNat])
  (refine Jd ?_;unhygienic intros)
  simp only [Bg1,D50,List.replicate,List.set_cons_zero,List.set_cons_succ,Nat.mul_one]
  refine Tr.jmp H6 (Tr.eq (A52 ..) ?_);(try simp only[Nr,Nl,wl,Nat.reduceAdd,Nat.reduceMul,Int.reduceToNat])
  (refine Jd ?_;unhygienic intros)
  refine Yc (Eb2 (some px) c 24 [b8 st,b8 pa,b8 gr,b8 co,0,0,0,0,0,0,0,0,0,0,0,0,0,0,0,0,0,0,0,0] 4 pe rfl (by omega) rfl rfl (by simp [B4])) ?_;rintro _ h ⟨⟨_,rfl⟩,o⟩<;>(refine Jf o ?_;unhygienic intros)
  refine Tr.jmp H6 (Tr.eq (A52 ..) ?_);(try simp only[Nr,Nl,wl,Nat.reduceAdd,Nat.reduceMul,Int.reduceToNat])
  (refine Jd ?_;unhygienic intros)
  refine Yc (Eb2 (some px) c 24 [b8 st,b8 pa,b8 gr,b8 co,hi2 pe,lo2 pe,0,0,0,0,0,0,0,0,0,0,0,0,0,0,0,0,0,0] 6 ma rfl (by omega) rfl rfl (by simp [B4])) ?_;rintro _ h ⟨⟨_,rfl⟩,o⟩<;>(refine Jf o ?_;unhygienic intros)
  refine Tr.jmp H6 (Tr.eq (A52 ..) ?_);(try simp only[Nr,Nl,wl,Nat.reduceAdd,Nat.reduceMul,Int.reduceToNat])
  (refine Jd ?_;unhygienic intros)
  refine Yc (Eb2 (some px) c 24 [b8 st,b8 pa,b8 gr,b8 co,hi2 pe,lo2 pe,hi2 ma,lo2 ma,0,0,0,0,0,0,0,0,0,0,0,0,0,0,0,0] 8 ig rfl (by omega) rfl rfl (by simp [B4])) ?_;rintro _ h ⟨⟨_,rfl⟩,o⟩<;>(refine Jf o ?_;unhygienic intros)
  refine Tr.jmp H6 (Tr.eq (A52 ..) ?_);(try simp only[Nr,Nl,wl,Nat.reduceAdd,Nat.reduceMul,Int.reduceToNat])
  (refine Jd ?_;unhygienic intros)
  refine Yc (Eb2 (some px) c 24 [b8 st,b8 pa,b8 gr,b8 co,hi2 pe,lo2 pe,hi2 ma,lo2 ma,hi2 ig,lo2 ig,0,0,0,0,0,0,0,0,0,0,0,0,0,0] 10 ca rfl (by omega) rfl rfl (by simp [B4])) ?_;rintro _ h ⟨⟨_,rfl⟩,o⟩<;>(refine Jf o ?_;unhygienic intros)
  refine Tr.jmp H6 (Tr.eq (A52 ..) ?_);(try simp only[Nr,Nl,wl,Nat.reduceAdd,Nat.reduceMul,Int.reduceToNat])
  (refine Jd ?_;unhygienic intros)
  refine Tr.jmp H6 (Tr.eq (Y0 ..) ?_);(try simp only[Nr,Nl,wl,Nat.reduceAdd,Nat.reduceMul,Int.reduceToNat])
  (refine Jd ?_;unhygienic intros)
  refine Tr.jmp H6 (Tr.eq (Y0 ..) ?_);(try simp only[Nr,Nl,wl,Nat.reduceAdd,Nat.reduceMul,Int.reduceToNat])
  (refine Jd ?_;unhygienic intros)
  refine Tr.jmp H6 (Tr.eq (Y0 ..) ?_);(try simp only[Nr,Nl,wl,Nat.reduceAdd,Nat.reduceMul,Int.reduceToNat])
  (refine Jd ?_;unhygienic intros)
  refine Tr.jmp H6 (Tr.eq (Y0 ..) ?_);(try simp only[Nr,Nl,wl,Nat.reduceAdd,Nat.reduceMul,Int.reduceToNat])
  (refine Jd ?_;unhygienic intros)
  refine Tr.jmp H6 (Tr.eq (Y0 ..) ?_);(try simp only[Nr,Nl,wl,Nat.reduceAdd,Nat.reduceMul,Int.reduceToNat])
  (refine Jd ?_;unhygienic intros)
  refine Tr.jmp H6 (Tr.eq (Y0 ..) ?_);(try simp only[Nr,Nl,wl,Nat.reduceAdd,Nat.reduceMul,Int.reduceToNat])
  (refine Jd ?_;unhygienic intros)
  refine Tr.jmp H6 (Tr.eq (Y0 ..) ?_);(try simp only[Nr,Nl,wl,Nat.reduceAdd,Nat.reduceMul,Int.reduceToNat])
  (refine Jd ?_;unhygienic intros)
  refine Tr.jmp H6 (Tr.eq (Y0 ..) ?_);(try simp only[Nr,Nl,wl,Nat.reduceAdd,Nat.reduceMul,Int.reduceToNat])
  (refine Jd ?_;unhygienic intros)
  refine Tr.jmp H6 (Tr.eq (Y0 ..) ?_);(try simp only[Nr,Nl,wl,Nat.reduceAdd,Nat.reduceMul,Int.reduceToNat])
  (refine Jd ?_;unhygienic intros)
  simp only [Bg1,D50,List.set_cons_zero,List.set_cons_succ,Nat.mul_one]
  rw [show (.int .u8 167:Value)=.int .u8 ((167:UInt8).toNat:Int) from rfl,D50]
  simp only [List.set_cons_zero,List.set_cons_succ]
  refine Tr.pcall (Gc5 (slC false A5 1 (some px) 24 c (A0 [b8 st,b8 pa,b8 gr,b8 co,hi2 pe,lo2 pe,hi2 ma,lo2 ma,hi2 ig,lo2 ig,hi2 ca,lo2 ca,b8 f0,b8 f1,b8 f2,b8 f3,b8 f4,b8 f5,b8 f6,b8 f7,167,0,0,0])) (some px) false 24 c c [b8 st,b8 pa,b8 gr,b8 co,hi2 pe,lo2 pe,hi2 ma,lo2 ma,hi2 ig,lo2 ig,hi2 ca,lo2 ca,b8 f0,b8 f1,b8 f2,b8 f3,b8 f4,b8 f5,b8 f6,b8 f7,167,0,0,0] 21 (by simp) (by simp [B4])) ?_
  refine Je ?_
  (refine Ja ?_;unhygienic intros)
  rw [Do0]
  (refine Jd ?_;unhygienic intros)
  refine Ys fun o=>?_
  rw [D50] at o
  simp only [List.set_cons_zero,List.set_cons_succ] at o
  simp only [Av9,D88,put2,List.map,List.cons_append,List.nil_append]
  exact ⟨trivial,o.sub⟩
abbrev E34 (k:Nat):HP:=pt k (.cells Bp7 false [int 24,.func (.func O4) ⟨[]⟩ ⟨[]⟩,.func (.func W5) ⟨[]⟩ ⟨[]⟩])
theorem Hc1 (k:Nat) (f:ProcS):Ct B0 V2 [P0 k,.agg ⟨D3 f⟩] [E34 k] fun v own=>(okS f=true∧∃ a,v=.tuple ⟨[.slice a 24 24,.bool true]⟩∧own [E34 k,slC false A5 1 a 24 24 (A0 (Av9 f))])∨(okS f=false∧v=.tuple ⟨[.slice none 0 0,.bool false]⟩∧own [E34 k]):=by
 refine Ct.of B43 rfl fun h r=>Tr.eq (B52 ..) ?_;refine Je ?_
 (refine Ja ?_;unhygienic intros)
 refine Tr.ck ⟨by omega,by omega,by simp [B4]⟩ ?_
 refine Yn fun b1 h=>?_
 rw [show H3 (Int.toNat 24) [.int .u8 0]=A0 (List.replicate 24 0) from rfl]
 refine Af7 0 rfl 1 24 rfl (by omega) ?_
 simp only [List.set_cons_zero]
 refine Je ?_
 (refine Jb ?_;unhygienic intros)
 refine Yb (Yf rfl ?_)
 (refine Jb ?_;unhygienic intros)
 refine Yc (Ib2 (some ⟨b1,0,none⟩) 24 f) ?_;rintro _ h ⟨rfl,o⟩<;>(refine Jg o ?_;unhygienic intros)
 refine Ys fun o=>(?_:Tr _ _ _ _) o;refine Je ?_
 cases hk:okS f with
 | false =>
  (refine Ja ?_;unhygienic intros)
  refine Ys fun o=>?_
  exact .inr ⟨rfl,rfl,o.sub⟩
 | true =>
  (refine Ja ?_;unhygienic intros)
  refine Ys fun o=>?_
  simp only [if_true] at o
  exact .inl ⟨rfl,_,rfl,o.sub⟩
theorem Ib1:Ct B0 Ao8 [int 24,.func (.func O4) ⟨[]⟩ ⟨[]⟩,.func (.func W5) ⟨[]⟩ ⟨[]⟩] [] fun v own=>∃ k,v=P0 k∧own [E34 k]:=by
 refine Ct.of Ea1 rfl fun h r=>Tr.eq (D80 ..) ?_;refine Je ?_
 rw [show mm2 false (mm2 true 24 0) 64=24 from rfl]
 (refine Ja ?_;unhygienic intros)
 refine Ys fun o=>?_
 exact ⟨_,rfl,o.sub⟩
theorem Gm7:Ct B0 Bc2 [] [] fun v own=>∃ k,v=P0 k∧own [E34 k]:=by
 refine Ct.of Gs9 rfl fun h r=>Tr.eq (Gu2 ..) ?_;refine Je ?_
 refine Yc (Ib1) ?_;rintro _ h ⟨k,rfl,o⟩<;>(refine Jf o ?_;unhygienic intros)
 refine Ys fun o=>?_
 exact ⟨_,rfl,o.sub⟩
theorem Gb7 (f:ProcS):Ct B0 A46 [.agg ⟨D3 f⟩] [] fun v own=>(okS f=true∧∃ a,v=.tuple ⟨[.slice a 24 24,.bool true]⟩∧own [slC false A5 1 a 24 24 (A0 (Av9 f))])∨(okS f=false∧v=.tuple ⟨[.slice none 0 0,.bool false]⟩∧own []):=by
 refine Ct.of Gi7 rfl fun h r=>Tr.eq (Gl0 ..) ?_;refine Je ?_
 (refine Ja ?_;unhygienic intros)
 refine Yc (Gm7) ?_;rintro _ h ⟨k,rfl,o⟩<;>(refine Jg o ?_;unhygienic intros)
 refine Yc (Hc1 k f) ?_
 rintro v h (⟨hk,a,rfl,o⟩|⟨hk,rfl,o⟩)
 ·refine (?_:Tr _ _ _ _) o
  refine Je ?_
  (refine Ja ?_;unhygienic intros)
  refine Ys fun o=>?_
  exact .inl ⟨hk,a,rfl,o.sub⟩
 ·refine (?_:Tr _ _ _ _) o
  refine Je ?_
  (refine Ja ?_;unhygienic intros)
  refine Ys fun o=>?_
  exact .inr ⟨hk,rfl,o.sub⟩
def Bd6 (l:List UInt8):ProcS:=⟨byI l 0,byI l 1,byI l 2,byI l 3,two l 4,two l 6,two l 8,two l 10,[byI l 12,byI l 13,byI l 14,byI l 15,byI l 16,byI l 17,byI l 18,byI l 19],rfl⟩
def isS (l:List UInt8):Bool:=okS (Bd6 l) && decide (Av9 (Bd6 l)=l)
theorem Ia8 (a:Option Addr) (c:Nat) (l:List UInt8) (hl:l.length=24):Ct B0 W5 [.slice a 24 c] [slC false A5 1 a 24 c (A0 l)] fun v own=>v=.tuple ⟨[.agg ⟨D3 (Bd6 l)⟩,.bool (isS l)]⟩∧own [slC false A5 1 a 24 c (A0 l)]:=by
 have key:∀ a1:Option Addr,CtP B0 D4 [.slice a1 24 24,.slice a 24 c] [slC false A5 1 a1 24 24 (A0 (Av9 (Bd6 l))),slC false A5 1 a 24 c (A0 l)] (.bool (decide (Av9 (Bd6 l)=l))):=fun a1=>by
  have e:=D91 (Bd6 l)
  have J:=Ep7 (slC false A5 1 a1 (Av9 (Bd6 l)).length 24 (A0 (Av9 (Bd6 l)))) (slC false A5 1 a l.length c (A0 l)) a1 false 24 a false c (Av9 (Bd6 l)) l (by rw [e];simp [B4])
  rwa [hl,e] at J
 refine Ct.of O3 rfl fun h r=>Tr.eq (Ha5 ..) ?_;refine Je ?_
 refine Yn fun b1 h=>?_
 refine S9 1 rfl fun hl2 hc2 _=>?_
 (refine Ja ?_;unhygienic intros;repeat(refine Gw ?_;rintro px rfl;refine Ja ?_;unhygienic intros))
 refine Tr.xIntS (v:=byI l 0) (Ad6 (by omega)) ?_
 (refine Ja ?_;unhygienic intros)
 refine Tr.xIntS (v:=byI l 1) (Ad6 (by omega)) ?_
 (refine Ja ?_;unhygienic intros)
 refine Tr.xIntS (v:=byI l 2) (Ad6 (by omega)) ?_
 (refine Ja ?_;unhygienic intros)
 refine Tr.xIntS (v:=byI l 3) (Ad6 (by omega)) ?_
 (refine Ja ?_;unhygienic intros)
 simp only [byI,An8]
 refine Tr.jmp O3 (Tr.eq (A57 ..) ?_);(try simp only[Nr,Nl,wl,Nat.reduceAdd,Nat.reduceMul,Int.reduceToNat])
 (refine Jd ?_;unhygienic intros)
 refine Tr.pcall (Eu7 (some px) c 24 l 4 hl (by omega) (by simp [B4])) ?_;refine Je ?_;(refine Ja ?_;unhygienic intros)
 refine Tr.jmp O3 (Tr.eq (A57 ..) ?_);(try simp only[Nr,Nl,wl,Nat.reduceAdd,Nat.reduceMul,Int.reduceToNat])
 (refine Jd ?_;unhygienic intros)
 refine Tr.pcall (Eu7 (some px) c 24 l 6 hl (by omega) (by simp [B4])) ?_;refine Je ?_;(refine Ja ?_;unhygienic intros)
 refine Tr.jmp O3 (Tr.eq (A57 ..) ?_);(try simp only[Nr,Nl,wl,Nat.reduceAdd,Nat.reduceMul,Int.reduceToNat])
 (refine Jd ?_;unhygienic intros)
 refine Tr.pcall (Eu7 (some px) c 24 l 8 hl (by omega) (by simp [B4])) ?_;refine Je ?_;(refine Ja ?_;unhygienic intros)
 refine Tr.jmp O3 (Tr.eq (A57 ..) ?_);(try simp only[Nr,Nl,wl,Nat.reduceAdd,Nat.reduceMul,Int.reduceToNat])
 (refine Jd ?_;unhygienic intros)
 refine Tr.pcall (Eu7 (some px) c 24 l 10 hl (by omega) (by simp [B4])) ?_;refine Je ?_;(refine Ja ?_;unhygienic intros)
 refine Tr.jmp O3 (Tr.eq (A57 ..) ?_);(try simp only[Nr,Nl,wl,Nat.reduceAdd,Nat.reduceMul,Int.reduceToNat])
 (refine Jd ?_;unhygienic intros)
 refine Tr.jmp O3 (Tr.eq (Y4 ..) ?_);(try simp only[Nr,Nl,wl,Nat.reduceAdd,Nat.reduceMul,Int.reduceToNat])
 (refine Jd ?_;unhygienic intros)
 refine Tr.xIntS (v:=byI l 12) (Ad6 (by omega)) ?_
 (refine Jd ?_;unhygienic intros)
 simp only [byI,An8]
 refine Tr.jmp O3 (Tr.eq (Y4 ..) ?_);(try simp only[Nr,Nl,wl,Nat.reduceAdd,Nat.reduceMul,Int.reduceToNat])
 (refine Jd ?_;unhygienic intros)
 refine Tr.xIntS (v:=byI l 13) (Ad6 (by omega)) ?_
 (refine Jd ?_;unhygienic intros)
 simp only [byI,An8]
 refine Tr.jmp O3 (Tr.eq (Y4 ..) ?_);(try simp only[Nr,Nl,wl,Nat.reduceAdd,Nat.reduceMul,Int.reduceToNat])
 (refine Jd ?_;unhygienic intros)
 refine Tr.xIntS (v:=byI l 14) (Ad6 (by omega)) ?_
 (refine Jd ?_;unhygienic intros)
 simp only [byI,An8]
 refine Tr.jmp O3 (Tr.eq (Y4 ..) ?_);(try simp only[Nr,Nl,wl,Nat.reduceAdd,Nat.reduceMul,Int.reduceToNat])
 (refine Jd ?_;unhygienic intros)
 refine Tr.xIntS (v:=byI l 15) (Ad6 (by omega)) ?_
 (refine Jd ?_;unhygienic intros)
 simp only [byI,An8]
 refine Tr.jmp O3 (Tr.eq (Y4 ..) ?_);(try simp only[Nr,Nl,wl,Nat.reduceAdd,Nat.reduceMul,Int.reduceToNat])
 (refine Jd ?_;unhygienic intros)
 refine Tr.xIntS (v:=byI l 16) (Ad6 (by omega)) ?_
 (refine Jd ?_;unhygienic intros)
 simp only [byI,An8]
 refine Tr.jmp O3 (Tr.eq (Y4 ..) ?_);(try simp only[Nr,Nl,wl,Nat.reduceAdd,Nat.reduceMul,Int.reduceToNat])
 (refine Jd ?_;unhygienic intros)
 refine Tr.xIntS (v:=byI l 17) (Ad6 (by omega)) ?_
 (refine Jd ?_;unhygienic intros)
 simp only [byI,An8]
 refine Tr.jmp O3 (Tr.eq (Y4 ..) ?_);(try simp only[Nr,Nl,wl,Nat.reduceAdd,Nat.reduceMul,Int.reduceToNat])
 (refine Jd ?_;unhygienic intros)
 refine Tr.xIntS (v:=byI l 18) (Ad6 (by omega)) ?_
 (refine Jd ?_;unhygienic intros)
 simp only [byI,An8]
 refine Tr.jmp O3 (Tr.eq (Y4 ..) ?_);(try simp only[Nr,Nl,wl,Nat.reduceAdd,Nat.reduceMul,Int.reduceToNat])
 (refine Jd ?_;unhygienic intros)
 refine Tr.xIntS (v:=byI l 19) (Ad6 (by omega)) ?_
 (refine Jd ?_;unhygienic intros)
 simp only [byI,An8]
 refine Tr.jmp O3 (Tr.eq (Y4 ..) ?_);(try simp only[Nr,Nl,wl,Nat.reduceAdd,Nat.reduceMul,Int.reduceToNat])
 refine Yf rfl ?_
 refine Tr.xAgg (xs:=D3 (Bd6 l)) ⟨Nat.le_of_ble_eq_true rfl,rfl⟩ ?_
 refine Yc (Gb7 (Bd6 l)) ?_
 rintro v h (⟨hk,a1,rfl,o⟩|⟨hk,rfl,o⟩)
 ·refine (?_:Tr _ _ _ _) o
  refine Je ?_
  refine Tr.dx ?_
  refine Tr.dx ?_
  refine Tr.dx ?_
  refine Tr.xAgg (xs:=D3 (Bd6 l)) ⟨Nat.le_of_ble_eq_true rfl,rfl⟩ ?_
  refine Yb (Yt rfl ?_)
  refine Tr.pcall (key a1) ?_
  refine Tr.dx ?_
  refine Tr.xAgg (xs:=D3 (Bd6 l)) ⟨Nat.le_of_ble_eq_true rfl,rfl⟩ ?_
  (refine Ja ?_;unhygienic intros)
  refine Ys fun o=>(?_:Tr _ _ _ _) o;refine Je ?_
  (refine Ja ?_;unhygienic intros)
  refine Ys fun o=>?_
  exact ⟨by unfold isS;rw [hk,Bool.true_and],o.sub⟩
 ·refine (?_:Tr _ _ _ _) o
  refine Je ?_
  refine Tr.dx ?_
  refine Tr.dx ?_
  refine Tr.dx ?_
  refine Tr.xAgg (xs:=D3 (Bd6 l)) ⟨Nat.le_of_ble_eq_true rfl,rfl⟩ ?_
  (refine Ja ?_;unhygienic intros)
  refine Ys fun o=>?_
  exact ⟨by unfold isS;rw [hk];rfl,o.sub⟩
theorem Hd1 (k:Nat) (a:Option Addr) (c:Nat) (l:List UInt8) (hl:l.length=24):Ct B0 V1 [P0 k,.slice a 24 c] [E34 k,slC false A5 1 a 24 c (A0 l)] fun v own=>v=.tuple ⟨[.agg ⟨D3 (if isS l then Bd6 l else .zero)⟩,.bool (isS l)]⟩∧own [E34 k,slC false A5 1 a 24 c (A0 l)]:=by
 refine Ct.of B51 rfl fun h r=>Tr.eq (B49 ..) ?_;refine Je ?_
 (refine Ja ?_;unhygienic intros)
 refine Yf rfl ?_
 (refine Jb ?_;unhygienic intros)
 refine Yc (Es9 24 a c l hl (by simp [B4])) ?_;rintro _ h ⟨a1,c1,rfl,o⟩<;>(refine Jg o ?_;unhygienic intros)
 refine Yc (Ia8 a1 c1 l hl) ?_;rintro _ h ⟨rfl,o⟩<;>(refine Jg o ?_;unhygienic intros)
 cases hk:isS l with
 | false =>
  (refine Ja ?_;unhygienic intros)
  refine Ys fun o=>?_
  exact ⟨rfl,o.sub⟩
 | true =>
  (refine Ja ?_;unhygienic intros)
  refine Ys fun o=>?_
  exact ⟨rfl,o.sub⟩
def V9 (l:List UInt8):ProcS × Int:=if l.all (·==0) then (.zero,0) else if isS l then (Bd6 l,1) else (.zero,2)
theorem Hq7 (a:Option Addr) (c:Nat) (l:List UInt8) (hl:l.length=24):Ct B0 A42 [.slice a 24 c] [slC false A5 1 a 24 c (A0 l)] fun v own=>v=.tuple ⟨[.agg ⟨D3 (V9 l).1⟩,int (V9 l).2]⟩∧own [slC false A5 1 a 24 c (A0 l)]:=by
 refine Ct.of Gi8 rfl fun h r=>Tr.eq (Gj9 ..) ?_;refine Je ?_
 refine Yn fun b1 h=>?_
 refine Yb (Yt rfl ?_)
 refine Tr.pcall (Et2 24 a c l hl (by simp [B4])) ?_;refine Je ?_;(refine Jb ?_;unhygienic intros)
 refine Ys fun o=>(?_:Tr _ _ _ _) o;refine Je ?_
 cases hb:l.all (·==0) with
 | true =>
  (refine Ja ?_;unhygienic intros)
  refine Ys fun o=>?_
  exact ⟨by unfold V9;rw [hb];rfl,o.sub⟩
 | false =>
  (refine Jb ?_;unhygienic intros)
  refine Yc (Gm7) ?_;rintro _ h ⟨k,rfl,o⟩<;>(refine Jg o ?_;unhygienic intros)
  refine Yc (Hd1 k a c l hl) ?_;rintro _ h ⟨rfl,o⟩<;>(refine Jg o ?_;unhygienic intros)
  cases hk:isS l with
  | false =>
   (refine Ja ?_;unhygienic intros)
   refine Ys fun o=>?_
   exact ⟨by unfold V9;rw [hb,hk];rfl,o.sub⟩
  | true =>
   (refine Ja ?_;unhygienic intros)
   refine Ys fun o=>?_
   exact ⟨by unfold V9;rw [hb,hk];rfl,o.sub⟩
def L6 (l:List UInt8) (a:Nat) (b:List UInt8):List UInt8:=l.take a++b++l.drop (a+b.length)
theorem Af2 {l b:List UInt8} {a:Nat} (h:a+b.length≤l.length):(L6 l a b).length=l.length:=by simp [L6];omega
theorem Bk4 {l b:List UInt8} {a:Nat} (h:a+b.length≤l.length) (i:Nat):(L6 l a b)[i]?=if a≤i∧i<a+b.length then b[i-a]? else l[i]?:=by
 unfold L6
 by_cases h1:i<a
 ·rw [if_neg (by omega),List.append_assoc,List.getElem?_append_left (by simp;omega),List.getElem?_take,if_pos h1]
 ·rw [List.append_assoc,List.getElem?_append_right (by simp;omega),List.length_take,Nat.min_eq_left (by omega)]
  by_cases h2:i<a+b.length
  ·rw [if_pos ⟨by omega,h2⟩,List.getElem?_append_left (by omega)]
  ·rw [if_neg (by omega),List.getElem?_append_right (by omega),List.getElem?_drop];congr 1;omega
def slice (l:List UInt8) (a n:Nat):List UInt8:=(l.drop a).take n
theorem Bx5 (l:List UInt8) (a n i:Nat):(slice l a n)[i]?=if i<n then l[a+i]? else none:=by
 unfold slice;rw [List.getElem?_take];split
 ·rw [List.getElem?_drop]
 ·rfl
theorem Gp9 {l:List UInt8} {a n:Nat} (h:a+n≤l.length):(slice l a n).length=n:=by simp [slice];omega
abbrev Rg:=List (Nat × Nat)
def A05:List UInt8→Rg→List (List UInt8)→List UInt8
 | l,(lo,_)::rg,x::m=>A05 (L6 l lo x) rg m
 | l,_,_=>l
structure Fit (size:Nat) (rg:Rg) (m:List (List UInt8)):Prop where
 len:m.length=rg.length
 each:∀ (j lo n:Nat),rg[j]?=some (lo,n)→lo+n≤size∧∃ x,m[j]?=some x∧x.length=n
def RgOk (rg:Rg):Prop:=∀ (i j lo n lo' n':Nat),i≠j→rg[i]?=some (lo,n)→rg[j]?=some (lo',n')→lo+n≤lo'∨lo'+n'≤lo
theorem Fit.tail {size:Nat} {p:Nat × Nat} {rg:Rg} {x:List UInt8} {m:List (List UInt8)} (f:Fit size (p::rg) (x::m)):Fit size rg m:=⟨by simpa using f.len,fun j lo n h=>by simpa using f.each (j+1) lo n (by simpa using h)⟩
theorem Fit.head {size lo n:Nat} {rg:Rg} {x:List UInt8} {m:List (List UInt8)} (f:Fit size ((lo,n)::rg) (x::m)):lo+n≤size∧x.length=n:=by
 obtain ⟨h,y,hy,hl⟩:=f.each 0 lo n rfl
 simp at hy;subst hy;exact ⟨h,hl⟩
theorem RgOk.tail {p:Nat × Nat} {rg:Rg} (k:RgOk (p::rg)):RgOk rg:=fun i j lo n lo' n' hij hi hj=>k (i+1) (j+1) lo n lo' n' (by omega) (by simpa using hi) (by simpa using hj)
theorem Dr7:∀ {rg:Rg} {m:List (List UInt8)} {l:List UInt8},Fit l.length rg m→(A05 l rg m).length=l.length
 | [],m,l,f=>by simp [A05]
 | (lo,n)::rg,[],l,f=>by simp [A05]
 | (lo,n)::rg,x::m,l,f=>by
  have h:=f.head
  have e:=Af2 (l:=l) (b:=x) (a:=lo) (by omega)
  unfold A05
  rw [Dr7 (by rw [e];exact f.tail),e]
theorem Ds8:∀ {rg:Rg} {m:List (List UInt8)} {l:List UInt8},Fit l.length rg m→∀ i,(∀ (j lo n:Nat),rg[j]?=some (lo,n)→i<lo∨lo+n≤i)→(A05 l rg m)[i]?=l[i]?
 | [],m,l,f,i,h=>by simp [A05]
 | (lo,n)::rg,[],l,f,i,h=>by simp [A05]
 | (lo,n)::rg,x::m,l,f,i,h=>by
  have h0:=f.head
  have e:=Af2 (l:=l) (b:=x) (a:=lo) (by omega)
  unfold A05
  rw [Ds8 (by rw [e];exact f.tail) i (fun j lo' n' hj=>h (j+1) lo' n' (by simpa using hj)),Bk4 (by omega),if_neg]
  have:=h 0 lo n rfl;omega
theorem B79:∀ {rg:Rg} {m:List (List UInt8)} {l:List UInt8},Fit l.length rg m→RgOk rg→∀ (j lo n:Nat) (x:List UInt8),rg[j]?=some (lo,n)→m[j]?=some x→∀ i,i<n→(A05 l rg m)[lo+i]?=x[i]?
 | [],m,l,f,k,j,lo,n,x,h,hx,i,hi=>by simp at h
 | (lo0,n0)::rg,[],l,f,k,j,lo,n,x,h,hx,i,hi=>by simp at hx
 | (lo0,n0)::rg,x0::m,l,f,k,j,lo,n,x,h,hx,i,hi=>by
  have h0:=f.head
  have e:=Af2 (l:=l) (b:=x0) (a:=lo0) (by omega)
  unfold A05
  cases j with
  | zero =>
   simp at h hx
   obtain ⟨rfl,rfl⟩:=h;subst hx
   rw [Ds8 (by rw [e];exact f.tail) (lo0+i) (fun j lo' n' hj=>by
    have:=k 0 (j+1) lo0 n0 lo' n' (by omega) rfl (by simpa using hj)
    omega),Bk4 (by omega),if_pos (by omega)]
   congr 1;omega
  | succ j=>exact B79 (by rw [e];exact f.tail) k.tail j lo n x (by simpa using h) (by simpa using hx) i hi
theorem Hp5 {rg:Rg} {m:List (List UInt8)} {l:List UInt8} (f:Fit l.length rg m) (k:RgOk rg) {j lo n:Nat} {x:List UInt8} (h:rg[j]?=some (lo,n)) (hx:m[j]?=some x) {a c:Nat} (hc:a+c≤n):slice (A05 l rg m) (lo+a) c=slice x a c:=by
 refine List.ext_getElem? fun i=>?_
 rw [Bx5,Bx5]
 split
 ·rw [Nat.add_assoc,B79 f k j lo n x h hx (a+i) (by omega)]
 ·rfl
theorem Fit.set {size:Nat} {rg:Rg} {m:List (List UInt8)} (f:Fit size rg m) {j lo n:Nat} (h:rg[j]?=some (lo,n)) {y:List UInt8} (hy:y.length=n):Fit size rg (m.set j y):=⟨by simpa using f.len,fun i lo' n' hi=>by
 obtain ⟨h1,z,hz,hl⟩:=f.each i lo' n' hi
 refine ⟨h1,?_⟩
 by_cases hij:j=i
 ·subst hij
  rw [h] at hi;cases hi
  exact ⟨y,by simp [(List.getElem?_eq_some_iff.1 hz).1],hy⟩
 ·exact ⟨z,by rw [List.getElem?_set_ne hij];exact hz,hl⟩⟩
theorem Hc9 {rg:Rg} {m:List (List UInt8)} {l:List UInt8} (f:Fit l.length rg m) (k:RgOk rg) {j lo n:Nat} {x:List UInt8} (h:rg[j]?=some (lo,n)) (hx:m[j]?=some x) {a:Nat} {b:List UInt8} (hc:a+b.length≤n):L6 (A05 l rg m) (lo+a) b=A05 l rg (m.set j (L6 x a b)):=by
 obtain ⟨h1,y,hy,hl⟩:=f.each j lo n h
 rw [hx] at hy;cases hy
 have e:=Af2 (l:=x) (b:=b) (a:=a) (by omega)
 have f2:=f.set h (y:=L6 x a b) (by omega)
 have lp:=Dr7 f
 refine List.ext_getElem? fun i=>?_
 rw [Bk4 (by omega)]
 by_cases hi:lo≤i∧i<lo+n
 ·obtain ⟨i',rfl⟩:∃ i',i=lo+i':=⟨i-lo,by omega⟩
  rw [B79 f2 k j lo n (L6 x a b) h (by simp [(List.getElem?_eq_some_iff.1 hx).1]) i' (by omega),Bk4 (by omega),B79 f k j lo n x h hx i' (by omega)]
  by_cases h2:a≤i'∧i'<a+b.length
  ·rw [if_pos (by omega),if_pos h2];congr 1;omega
  ·rw [if_neg (by omega),if_neg h2]
 ·rw [if_neg (by omega)]
  by_cases ho:∃ (j' lo' n':Nat),rg[j']?=some (lo',n')∧lo'≤i∧i<lo'+n'
  ·obtain ⟨j',lo',n',hj',h3,h4⟩:=ho
   have hne:j≠j':=fun e=>by subst e;rw [h] at hj';cases hj';omega
   obtain ⟨_,z,hz,_⟩:=f.each j' lo' n' hj'
   obtain ⟨i',rfl⟩:∃ i',i=lo'+i':=⟨i-lo',by omega⟩
   rw [B79 f k j' lo' n' z hj' hz i' (by omega),B79 f2 k j' lo' n' z hj' (by rw [List.getElem?_set_ne hne];exact hz) i' (by omega)]
  ·have hall:∀ (j' lo' n':Nat),rg[j']?=some (lo',n')→i<lo'∨lo'+n'≤i:=fun j' lo' n' hj'=>by
    by_cases hh:lo'≤i∧i<lo'+n'
    ·exact absurd ⟨j',lo',n',hj',hh.1,hh.2⟩ ho
    ·omega
   rw [Ds8 f i hall,Ds8 f2 i hall]
structure RecS where
 kind:Int
 index:Int
deriving DecidableEq
abbrev Z0 (r:RecS):List Value:=[int r.kind,int r.index]
structure Fr where
 S:KS
 N:Nat
 env:Int
 caps:List Int
 rg:Rg
structure FrOk (F:Fr):Prop where
 ok:KOk F.N F.S
 hN:F.N+1<1000000000
 ne:0<F.caps.length
 small:F.caps.length≤40
 len:F.rg.length=F.caps.length
 env:¬ (F.env<0∨F.env≥(F.S.envs.length:Int))
 pl:∀ (j:Nat) (cap:Int) (lo n:Nat),F.caps[j]?=some cap→F.rg[j]?=some (lo,n)→∀ (a m:Nat) (right:Int),right=1∨right=2→a+m≤n→P6 F.S.tabs F.S.regs F.env cap right a m=(((lo+a:Nat):Int),0)
 dj:RgOk F.rg
 own:∃ lo,F.rg[0]?=some (lo,492)
 brs:∀ (j lo n:Nat),0<j→F.rg[j]?=some (lo,n)→n=40
def Fr.at (F:Fr) (m:List (List UInt8)):KS:=Bo9 F.S (A05 F.S.mem F.rg m)
structure CX where
 m:List (List UInt8)
 bad:List RecS
def Ag2:Nat→List RecS→List MapEntry
 | _,[]=>[]
 | i,r::l=>{ key:=.agg ⟨Z0 r⟩,val:=int 1,born:=i }::Ag2 (i+1) l
abbrev Ih4 (c k:Nat) (env:Int) (caps:List Int) (bad:List RecS) (x:Option Addr × Nat × Nat):List HP :=
 [pt c (.cells Dh8 false [P0 k,int env,.slice x.1 caps.length x.2.1,.map (some x.2.2)]),slC false B5 1 x.1 caps.length x.2.1 (caps.map int),pt x.2.2 (.map (Ag2 0 bad) bad.length)]
def W0 (c k:Nat) (env:Int) (caps:List Int) (bad:List RecS):HP:=hex fun x=>sl (Ih4 c k env caps bad x)
instance {c k:Nat} {env:Int} {caps:List Int} {bad:List RecS}:Chk (W0 c k env caps bad) (Ih4 c k env caps bad):=⟨rfl⟩
abbrev cmF (c k:Nat) (F:Fr) (x:CX):List HP:=[E0 k (F.at x.m),W0 c k F.env F.caps x.bad,pu (Fit F.S.mem.length F.rg x.m)]
def cmC (c k:Nat) (F:Fr) (x:CX):HP:=hex fun _:Unit=>sl (cmF c k F x)
instance {c k:Nat} {F:Fr} {x:CX}:Chk (cmC c k F x) (fun _:Unit=>cmF c k F x):=⟨rfl⟩
def W8 (nc:Nat) (kind:Int):Int:=if kind=1 then 8 else if kind=2 then 12 else if kind=3 then 3+nc else 1
def H0 (nc:Nat) (r:RecS):Option (Nat × Nat × Nat) :=
 if r.index<0∨r.index≥W8 nc r.kind then none
 else if r.kind=1 then some (0,24*r.index.toNat,24)
 else if r.kind=2 then some (0,192+8*r.index.toNat,8)
 else if r.kind=3 then if r.index<4 then some (0,288+40*r.index.toNat,40) else some (r.index.toNat-3,0,40)
 else if r.kind=4 then some (0,448,40)
 else some (0,488,4)
def G15 (caps:List Int):Option (Nat × Nat × Nat)→List Value
 | some (j,a,n)=>[int (caps.getD j 0),int a,int n]
 | none=>[int 0,int 0,int 0]
theorem Gx6 (c k:Nat) (env:Int) (caps:List Int) (bad:List RecS) (kind:Int) (hs:caps.length≤40):CtP B0 Aa3 [P0 c,int kind] [W0 c k env caps bad] (int (W8 caps.length kind)):=by
 have e:IntKind.wrap .i64 (IntKind.wrap .i64 (4+(caps.length:Int))-1)=3+(caps.length:Int):=by rw [A8,A8];omega
 refine CtP.of D10 rfl fun h r=>Tr.eq (Dy5 ..) ?_;refine Je ?_
 refine B8 (W0 c k env caps bad) fun ⟨a,n,mb⟩=>?_;refine Je ?_
 unfold W8
 by_cases h1:kind=1
 ·refine Yt (by simpa using h1) ?_
  rw [if_pos h1];exact Jz
 refine Yf (by simpa using h1) ?_
 rw [if_neg h1]
 by_cases h2:kind=2
 ·refine Yt (by simpa using h2) ?_
  rw [if_pos h2];exact Jz
 refine Yf (by simpa using h2) ?_
 rw [if_neg h2]
 by_cases h3:kind=3
 ·refine Yt (by simpa using h3) ?_
  rw [if_pos h3];(refine Ja ?_;unhygienic intros)
  refine Ys fun o=>?_
  rw [e];exact ⟨by first|rfl|trivial,by first|rfl|trivial⟩
 refine Yf (by simpa using h3) ?_
 rw [if_neg h3];exact Jz
theorem Em7 (c k:Nat) (env:Int) (caps:List Int) (bad:List RecS) (rc:RecS) (hs:caps.length≤40) (hn:0<caps.length):Ct B0 Q3 [P0 c,.agg ⟨Z0 rc⟩] [W0 c k env caps bad] fun v own =>
  v=.tuple ⟨[.agg ⟨G15 caps (H0 caps.length rc)⟩,.bool (H0 caps.length rc).isSome]⟩∧own [W0 c k env caps bad]:=by
 have hg:∀ j,j<caps.length→(caps.map int)[j]?=some (int (caps.getD j 0)):=fun j hj=>by rw [List.getElem?_map,O6 0 hj];rfl
 refine Ct.of Dt2 rfl fun h r=>Tr.eq (Ds9 ..) ?_;refine Je ?_
 (refine Jb ?_;unhygienic intros)
 refine Tr.orG (c:=decide (rc.index≥W8 caps.length rc.kind)) (fun hb=>?_) ?_
 ·(refine Ja ?_;unhygienic intros)
  refine Tr.pcall (Gx6 c k env caps bad rc.kind hs) ?_;refine Je ?_;exact Jz
 by_cases hi:rc.index<0∨rc.index≥W8 caps.length rc.kind
 ·refine Yt (by simp only [Bool.or_eq_true,decide_eq_true_eq];exact hi) ?_
  have e:H0 caps.length rc=none:=by unfold H0;rw [if_pos hi]
  rw [e]
  (refine Ja ?_;unhygienic intros)
  refine Ys fun o=>?_
  exact ⟨rfl,o.sub⟩
 refine Yf (by simp only [Bool.or_eq_false_iff,decide_eq_false_iff_not];omega) ?_
 refine B8 (W0 c k env caps bad) fun ⟨a,n,mb⟩=>?_;refine Je ?_
 (refine Ja ?_;unhygienic intros;repeat(refine Gw ?_;rintro px rfl;refine Ja ?_;unhygienic intros))
 refine Tr.xIntS (v:=caps.getD 0 0) (hg 0 hn) ?_
 (refine Ja ?_;unhygienic intros)
 by_cases h1:rc.kind=1
 ·refine Yt (by simpa using h1) ?_
  have e:H0 caps.length rc=some (0,24*rc.index.toNat,24):=by unfold H0;rw [if_neg hi,if_pos h1]
  have hm:W8 caps.length rc.kind=8:=by unfold W8;rw [if_pos h1]
  have e1:IntKind.wrap .i64 (24*rc.index)=((24*rc.index.toNat:Nat):Int):=by rw [A8];omega
  rw [e,e1]
  (refine Ja ?_;unhygienic intros)
  refine B6 (W0 c k env caps bad) ⟨some px,n,mb⟩ ?_;refine Je ?_
  refine Ys fun o=>?_
  exact ⟨rfl,o.sub⟩
 refine Yf (by simpa using h1) ?_
 by_cases h2:rc.kind=2
 ·(refine Ja ?_;unhygienic intros)
  refine Yt (by simpa using h2) ?_
  have e:H0 caps.length rc=some (0,192+8*rc.index.toNat,8):=by unfold H0;rw [if_neg hi,if_neg h1,if_pos h2]
  have hm:W8 caps.length rc.kind=12:=by unfold W8;rw [if_neg h1,if_pos h2]
  have e1:IntKind.wrap .i64 (192+IntKind.wrap .i64 (8*rc.index))=((192+8*rc.index.toNat:Nat):Int):=by rw [A8,A8];omega
  rw [e,e1]
  (refine Ja ?_;unhygienic intros)
  refine B6 (W0 c k env caps bad) ⟨some px,n,mb⟩ ?_;refine Je ?_
  refine Ys fun o=>?_
  exact ⟨rfl,o.sub⟩
 (refine Ja ?_;unhygienic intros)
 refine Yf (by simpa using h2) ?_
 (refine Jb ?_;unhygienic intros)
 refine Tr.andG (c:=decide (rc.index<4)) (fun hb=>?_) ?_
 ·exact Jz
 by_cases h3:rc.kind=3
 ·have hm:W8 caps.length rc.kind=3+caps.length:=by unfold W8;rw [if_neg h1,if_neg h2,if_pos h3]
  by_cases h4:rc.index<4
  ·refine Yt (by simp [h3,h4]) ?_
   have e:H0 caps.length rc=some (0,288+40*rc.index.toNat,40):=by unfold H0;rw [if_neg hi,if_neg h1,if_neg h2,if_pos h3,if_pos h4]
   have e1:IntKind.wrap .i64 (288+IntKind.wrap .i64 (40*rc.index))=((288+40*rc.index.toNat:Nat):Int):=by rw [A8,A8];omega
   rw [e,e1]
   (refine Ja ?_;unhygienic intros)
   refine B6 (W0 c k env caps bad) ⟨some px,n,mb⟩ ?_;refine Je ?_
   refine Ys fun o=>?_
   exact ⟨rfl,o.sub⟩
  ·refine Yf (by simp [h4]) ?_
   have e:H0 caps.length rc=some (rc.index.toNat-3,0,40):=by unfold H0;rw [if_neg hi,if_neg h1,if_neg h2,if_pos h3,if_neg h4]
   have e1:IntKind.wrap .i64 (IntKind.wrap .i64 (rc.index-4)+1)=((rc.index.toNat-3:Nat):Int):=by rw [A8,A8];omega
   rw [e,e1]
   (refine Ja ?_;unhygienic intros)
   refine Yt (by simpa using h3) ?_
   (refine Ja ?_;unhygienic intros)
   rw [Int.toNat_natCast]
   refine Je ?_
   refine Tr.xIntS (v:=caps.getD (rc.index.toNat-3) 0) (hg _ (by omega)) ?_
   (refine Ja ?_;unhygienic intros)
   refine B6 (W0 c k env caps bad) ⟨some px,n,mb⟩ ?_;refine Je ?_
   refine Ys fun o=>?_
   exact ⟨rfl,o.sub⟩
 refine Yf (by simp [h3]) ?_
 (refine Ja ?_;unhygienic intros)
 refine Yf (by simpa using h3) ?_
 (refine Ja ?_;unhygienic intros)
 by_cases h4:rc.kind=4
 ·refine Yt (by simpa using h4) ?_
  have e:H0 caps.length rc=some (0,448,40):=by unfold H0;rw [if_neg hi,if_neg h1,if_neg h2,if_neg h3,if_pos h4]
  rw [e]
  (refine Ja ?_;unhygienic intros)
  refine B6 (W0 c k env caps bad) ⟨some px,n,mb⟩ ?_;refine Je ?_
  refine Ys fun o=>?_
  exact ⟨rfl,o.sub⟩
 refine Yf (by simpa using h4) ?_
 have e:H0 caps.length rc=some (0,488,4):=by unfold H0;rw [if_neg hi,if_neg h1,if_neg h2,if_neg h3,if_neg h4]
 rw [e]
 (refine Ja ?_;unhygienic intros)
 refine B6 (W0 c k env caps bad) ⟨some px,n,mb⟩ ?_;refine Je ?_
 refine Ys fun o=>?_
 exact ⟨rfl,o.sub⟩
theorem H14:Aj4 PR 8 D7=some [TypeDesc.int .i64,TypeDesc.int .i64]:=by kernel_rfl
theorem Id3:Ef3 PR D7=some true:=by kernel_rfl
instance {a b:Int}:KeyC PR D7 (.agg ⟨[.int .i64 a,.int .i64 b]⟩):=⟨fun x=>by
 unfold NN.keyN;rw [H14,Id3];rfl⟩
theorem En6 (r:RecS):∀ (l:List RecS) (i j:Nat),Ah3 (.agg ⟨Z0 r⟩) (Ag2 j l) i=some (if r ∈ l then some (i+l.idxOf r) else none)
 | [],i,j=>by simp [Ag2,Ah3]
 | q::l,i,j=>by
  have ih:=En6 r l (i+1) (j+1)
  obtain ⟨qk,qi⟩:=q
  obtain ⟨rk,ri⟩:=r
  simp only [Ag2,Ah3,Be1,Z0,eqs,eq1,decide_true,List.mem_cons] at ih ⊢
  by_cases h:rk=qk∧ri=qi
  ·obtain ⟨rfl,rfl⟩:=h
   simp
  ·have e:(rk==qk && (ri==qi && true))=false:=by
    rw [Bool.and_eq_false_iff]
    by_cases h1:rk=qk
    ·right;simp;intro h2;exact h ⟨h1,h2⟩
    ·left;simpa using h1
   have hne:¬ (({ kind:=rk,index:=ri }:RecS)={ kind:=qk,index:=qi }):=fun e=>by
    rw [RecS.mk.injEq] at e;exact h e
   rw [e]
   simp only [hne,false_or]
   rw [ih,List.idxOf_cons]
   have:(({ kind:=qk,index:=qi }:RecS)=={ kind:=rk,index:=ri })=false:=by
    rw [beq_eq_false_iff_ne];exact fun e=>hne e.symm
   rw [this,cond_false]
   split<;>simp;omega
theorem Dm8:∀ (l:List RecS) (j:Nat),(Ag2 j l).length=l.length
 | [],_=>rfl
 | _::l,j=>by simp [Ag2,Dm8 l]
theorem Gw0:∀ (l:List RecS) (j i:Nat) (r:RecS),l[i]?=some r→(Ag2 j l)[i]?=some { key:=.agg ⟨Z0 r⟩,val:=int 1,born:=j+i }
 | [],_,i,r,h=>by simp at h
 | q::l,j,0,r,h=>by simp at h;subst h;rfl
 | q::l,j,i+1,r,h=>by
  have:=Gw0 l (j+1) i r (by simpa using h)
  rw [Ag2,List.getElem?_cons_succ,this];congr 2;omega
theorem Bx9 (r:RecS) (l:List RecS):Al4 (int 0) (.agg ⟨Z0 r⟩) (Ag2 0 l)=some (if r ∈ l then (int 1,true) else (int 0,false)):=by
 unfold Al4
 rw [En6]
 by_cases h:r ∈ l
 ·rw [if_pos h,if_pos h]
  have hi:=List.idxOf_lt_length_of_mem h
  have hg:l[l.idxOf r]?=some r:=by rw [List.getElem?_eq_getElem hi,List.getElem_idxOf]
  simp only [Nat.zero_add]
  rw [Gw0 l 0 _ r hg]
 ·rw [if_neg h,if_neg h]
theorem G64:∀ (l m:List RecS) (j:Nat),Ag2 j (l++m)=Ag2 j l++Ag2 (j+l.length) m
 | [],m,j=>by simp [Ag2]
 | q::l,m,j=>by simp only [List.cons_append,Ag2,G64 l m (j+1),List.length_cons];congr 2;congr 1;omega
theorem Eb3 {r:RecS} {l:List RecS} (h:¬ r ∈ l):D18 (int 0) (.agg ⟨Z0 r⟩) (Ag2 0 l) l.length=some (int 0,l.length,.map (Ag2 0 l++[{ key:=.agg ⟨Z0 r⟩,val:=int 0,born:=l.length }]) (l.length+1)):=by
 unfold D18;rw [En6,if_neg h]
theorem Gq2 (r:RecS) (e:MapEntry):∀ (l:List RecS) (i j:Nat),¬ r ∈ l→Ah3 (.agg ⟨Z0 r⟩) (Ag2 j l++[e]) i=Ah3 (.agg ⟨Z0 r⟩) [e] (i+l.length)
 | [],i,j,h=>by simp [Ag2]
 | q::l,i,j,h=>by
  have ih:=Gq2 r e l (i+1) (j+1) (fun hm=>h (List.mem_cons_of_mem _ hm))
  have hq:Be1 (.agg ⟨Z0 r⟩) (.agg ⟨Z0 q⟩)=some false:=by
   obtain ⟨qk,qi⟩:=q
   obtain ⟨rk,ri⟩:=r
   simp only [Be1,Z0,eqs,eq1,decide_true]
   congr 1
   rw [Bool.and_eq_false_iff]
   by_cases h1:rk=qk
   ·right;simp;intro h2;exact h (by subst h1 h2;exact List.mem_cons_self ..)
   ·left;simpa using h1
  show (match Be1 (.agg ⟨Z0 r⟩) (.agg ⟨Z0 q⟩) with
   | some true=>some (some i)
   | some false=>Ah3 (.agg ⟨Z0 r⟩) (Ag2 (j+1) l++[e]) (i+1)
   | none=>none)=_
  rw [hq]
  simp only
  rw [ih];congr 1;simp;omega
theorem Du5 {r:RecS} {l:List RecS} (h:¬ r ∈ l):Al4 (int 0) (.agg ⟨Z0 r⟩) (Ag2 0 l++[{ key:=.agg ⟨Z0 r⟩,val:=int 0,born:=l.length }])=some (int 0,true):=by
 unfold Al4
 rw [Gq2 r _ l 0 0 h]
 obtain ⟨rk,ri⟩:=r
 simp only [Ah3,Be1,Z0,eqs,eq1,decide_true,BEq.rfl,Bool.and_self,Nat.zero_add]
 rw [List.getElem?_append_right (by rw [Dm8];exact Nat.le_refl _),Dm8];simp
theorem Dc6:∀ (l:List RecS) (j:Nat) (n:Nat) (e:MapEntry) (i:Nat),e.born=n→j+l.length≤n→Bj8 (n:Int) (Ag2 j l++[e]) i=some (i+l.length)
 | [],j,n,e,i,h,hl=>by simp [Ag2,Bj8,h]
 | q::l,j,n,e,i,h,hl=>by
  have ih:=Dc6 l (j+1) n e (i+1) h (by simp at hl;omega)
  simp only [Ag2,List.cons_append,Bj8]
  have:(((j:Nat):Int)==(n:Int))=false:=by simp at hl ⊢;omega
  rw [this,cond_false,ih];congr 1;simp;omega
theorem Gm3 (f:MapEntry→MapEntry) (e:MapEntry):∀ (l:List MapEntry),modN f l.length (l++[e])=l++[f e]
 | []=>rfl
 | q::l=>by simp [modN,Gm3 f e l]
theorem Ee8 (r:RecS) (l:List RecS):modN (fun e=>{ e with val:=int (IntKind.wrap .i64 (0+1)) }) l.length (Ag2 0 l++[{ key:=.agg ⟨Z0 r⟩,val:=int 0,born:=l.length }])=Ag2 0 (l++[r]):=by
 rw [show l.length=(Ag2 0 l).length from (Dm8 l 0).symm,Gm3,G64]
 simp [Ag2,Dm8];decide
theorem Fr.mem_at (F:Fr) (m:List (List UInt8)):(F.at m).mem=A05 F.S.mem F.rg m:=rfl
theorem Fr.at_ok {F:Fr} (k:FrOk F) {m:List (List UInt8)} (f:Fit F.S.mem.length F.rg m):KOk F.N (F.at m):=by
 have:=k.ok
 exact ⟨this.envs,this.tabs,this.space,this.quota,by rw [Fr.mem_at,Dr7 f];exact this.mem,this.regs,this.may,this.mayl,this.nsect,this.sects,this.now⟩
theorem H38 {F:Fr} (k:FrOk F) {r:RecS} {j a n:Nat} (h:H0 F.caps.length r=some (j,a,n)):∃ lo z,F.rg[j]?=some (lo,z)∧a+n≤z∧j<F.caps.length:=by
 obtain ⟨lo0,h0⟩:=k.own
 have hl:=k.len;have hn:=k.ne
 unfold H0 at h
 split at h;· cases h
 rename_i hi
 split at h
 ·rename_i h1
  have hm:W8 F.caps.length r.kind=8:=by unfold W8;rw [if_pos h1]
  cases h;exact ⟨lo0,492,h0,by omega,hn⟩
 rename_i h1
 split at h
 ·rename_i h2
  have hm:W8 F.caps.length r.kind=12:=by unfold W8;rw [if_neg h1,if_pos h2]
  cases h;exact ⟨lo0,492,h0,by omega,hn⟩
 rename_i h2
 split at h
 ·rename_i h3
  have hm:W8 F.caps.length r.kind=3+F.caps.length:=by unfold W8;rw [if_neg h1,if_neg h2,if_pos h3]
  split at h
  ·cases h;exact ⟨lo0,492,h0,by omega,hn⟩
  ·cases h
   have hlt:r.index.toNat-3<F.rg.length:=by omega
   have hg:=List.getElem?_eq_getElem hlt
   generalize hx:F.rg[r.index.toNat-3]=x at hg
   obtain ⟨lo,z⟩:=x
   have:=k.brs _ lo z (by omega) hg
   exact ⟨lo,z,hg,by omega,by omega⟩
 split at h<;>(cases h;exact ⟨lo0,492,h0,by omega,hn⟩)
def Q9 (kind:Int):Nat:=if kind=1 then 24 else if kind=2 then 8 else if kind=3 then 40 else if kind=4 then 40 else 4
theorem Dl7 {nc:Nat} {r:RecS} {j a n:Nat} (h:H0 nc r=some (j,a,n)):n=Q9 r.kind:=by
 unfold H0 at h;unfold Q9
 split at h;· cases h
 split at h
 ·rename_i h1;cases h;rw [if_pos h1]
 rename_i h1
 rw [if_neg h1]
 split at h
 ·rename_i h2;cases h;rw [if_pos h2]
 rename_i h2
 rw [if_neg h2]
 split at h
 ·rename_i h3;rw [if_pos h3];split at h<;>(cases h;rfl)
 rename_i h3
 rw [if_neg h3]
 split at h
 ·rename_i h4;cases h;rw [if_pos h4]
 ·rename_i h4;cases h;rw [if_neg h4]
def rdX (X:CX) (r:RecS):Option (List UInt8) :=
 match H0 X.m.length r with
 | some (j,a,n)=>if r ∈ X.bad then none else some (slice (X.m.getD j []) a n)
 | none=>none
def wrX (X:CX) (r:RecS) (b:List UInt8) (ok:Bool):Bool × CX :=
 match H0 X.m.length r with
 | some (j,a,n)=>if ok=true∧¬ r ∈ X.bad then (true,{ X with m:=X.m.set j (L6 (X.m.getD j []) a b) }) else (false,X)
 | none=>(false,X)
theorem Fit.mlen {F:Fr} (k:FrOk F) {m:List (List UInt8)} (f:Fit F.S.mem.length F.rg m):m.length=F.caps.length:=by rw [f.len,k.len]
theorem D86 {F:Fr} (k:FrOk F) {m:List (List UInt8)} (f:Fit F.S.mem.length F.rg m) {r:RecS} {j a n:Nat} (h:H0 F.caps.length r=some (j,a,n)) :
  ∃ lo z cap,F.caps[j]?=some cap∧F.rg[j]?=some (lo,z)∧a+n≤z∧m[j]?=some (m.getD j [])∧(m.getD j []).length=z∧lo+z≤F.S.mem.length∧cap=F.caps.getD j 0:=by
 obtain ⟨lo,z,hr,ha,hj⟩:=H38 k h
 obtain ⟨h1,x,hx,hl⟩:=f.each j lo z hr
 have e:m.getD j []=x:=by rw [List.getD_eq_getElem?_getD,hx];rfl
 exact ⟨lo,z,F.caps.getD j 0,O6 0 hj,hr,ha,by rw [e];exact hx,by rw [e];exact hl,h1,rfl⟩
theorem Ib6 {F:Fr} (k:FrOk F) {X:CX} (f:Fit F.S.mem.length F.rg X.m) {r:RecS} {l:List UInt8} (h:rdX X r=some l):l.length=Q9 r.kind:=by
 unfold rdX at h
 rw [f.mlen k] at h
 cases hp:H0 F.caps.length r with
 | none=>rw [hp] at h;cases h
 | some p =>
  obtain ⟨j,a,n⟩:=p
  rw [hp] at h
  obtain ⟨lo,z,cap,_,_,ha,hx,hl,_⟩:=D86 k f hp
  simp only at h
  split at h
  ·cases h
  ·cases h;rw [Gp9 (by omega),Dl7 hp]
theorem Ik5 {F:Fr} (k:FrOk F) {m:List (List UInt8)} (f:Fit F.S.mem.length F.rg m) {r:RecS} {j a n:Nat} (h:H0 F.caps.length r=some (j,a,n)) :
  Z1 (F.at m) F.env ⟨1,F.caps.getD j 0,(a:Int),(n:Int),0,0,[]⟩=((0,0,slice (m.getD j []) a n),F.at m):=by
 obtain ⟨lo,z,cap,hc,hr,ha,hx,hl,hz,rfl⟩:=D86 k f h
 have hp:=k.pl j _ lo z hc hr a n 1 (.inl rfl) ha
 have lp:=Dr7 f
 have hb:Dv5 (A05 F.S.mem F.rg m) ((lo+a:Nat):Int) (n:Int)=some (slice (m.getD j []) a n):=by
  unfold Dv5
  rw [if_pos (by rw [lp];omega),Int.toNat_natCast,Int.toNat_natCast]
  rw [← Hp5 f k.dj hr hx ha];rfl
 have e:Aq0 (F.at m).tabs (F.at m).regs (F.at m).mem F.env (F.caps.getD j 0) (a:Int) (n:Int)=(slice (m.getD j []) a n,0):=by
  unfold Aq0
  rw [show P6 (F.at m).tabs (F.at m).regs F.env (F.caps.getD j 0) 1 (a:Int) (n:Int)=(((lo+a:Nat):Int),0) from hp]
  rw [if_neg (by simp),show Dv5 (F.at m).mem _ _=_ from hb]
 unfold Z1
 rw [if_neg (show ¬ (F.env<0∨F.env≥((F.at m).envs.length:Int)) from k.env)]
 unfold kDo
 rw [if_pos rfl,e]
theorem Ig8 {F:Fr} (k:FrOk F) {m:List (List UInt8)} (f:Fit F.S.mem.length F.rg m) {r:RecS} {j a n:Nat} (h:H0 F.caps.length r=some (j,a,n)) {b:List UInt8} (hb:b.length=n) :
  Z1 (F.at m) F.env ⟨2,F.caps.getD j 0,(a:Int),0,0,0,b⟩=((0,0,[]),F.at (m.set j (L6 (m.getD j []) a b))):=by
 obtain ⟨lo,z,cap,hc,hr,ha,hx,hl,hz,rfl⟩:=D86 k f h
 have hp:=k.pl j _ lo z hc hr a n 2 (.inr rfl) ha
 have lp:=Dr7 f
 have hs:Ba5 (A05 F.S.mem F.rg m) ((lo+a:Nat):Int) b=some (A05 F.S.mem F.rg (m.set j (L6 (m.getD j []) a b))):=by
  unfold Ba5
  rw [if_pos (by rw [lp];omega),Int.toNat_natCast]
  rw [← Hc9 f k.dj hr hx (by omega)];rfl
 have e:Ak1 (F.at m).tabs (F.at m).regs (F.at m).mem F.env (F.caps.getD j 0) (a:Int) b=(0,A05 F.S.mem F.rg (m.set j (L6 (m.getD j []) a b))):=by
  unfold Ak1
  rw [hb,show P6 (F.at m).tabs (F.at m).regs F.env (F.caps.getD j 0) 2 (a:Int) (n:Int)=(((lo+a:Nat):Int),0) from hp]
  rw [if_neg (by simp),show Ba5 (F.at m).mem _ _=_ from hs]
 unfold Z1
 rw [if_neg (show ¬ (F.env<0∨F.env≥((F.at m).envs.length:Int)) from k.env)]
 unfold kDo
 rw [if_neg (show ¬ ((2:Int)=1) by decide),if_pos rfl,e];rfl
theorem Ie5 {F:Fr} (k:FrOk F) {X:CX} (f:Fit F.S.mem.length F.rg X.m) {r:RecS} {b:List UInt8} {ok:Bool} (hb:ok=true→b.length=Q9 r.kind):Fit F.S.mem.length F.rg (wrX X r b ok).2.m:=by
 unfold wrX
 rw [f.mlen k]
 cases hp:H0 F.caps.length r with
 | none=>exact f
 | some p =>
  obtain ⟨j,a,n⟩:=p
  obtain ⟨lo,z,cap,hc,hr,ha,hx,hl,hz,_⟩:=D86 k f hp
  simp only
  split
  ·rename_i hk
   exact f.set hr (by rw [Af2 (by rw [hb hk.1,← Dl7 hp];omega)];exact hl)
  ·exact f
instance {caps:List Int} {o:Option (Nat × Nat × Nat)}:LenC (G15 caps o) 3:=⟨by cases o<;>rfl⟩
theorem H85 (caps:List Int) (o:Option (Nat × Nat × Nat)):(G15 caps o).all Value.oneCell=true:=by cases o<;>rfl
instance {caps:List Int} {o:Option (Nat × Nat × Nat)} {cs:List Value} [k:LenC cs 3]:SetsC cs 0 (G15 caps o) (G15 caps o):=⟨Bw8 k.ok LenC.ok (H85 caps o)⟩
instance {rc:RecS}:PartC (Z0 rc) 0 2 (Z0 rc):=⟨rfl⟩
theorem Hh9 (r:RecS) (l:List RecS):(if r ∈ l then (int 1,true) else (int 0,false))=(int (if r ∈ l then 1 else 0),decide (r ∈ l)):=by split<;>simp [*]
theorem Hh1 (r:RecS) (l:List RecS):decide ((if r ∈ l then (1:Int) else 0)>0)=decide (r ∈ l):=by split<;>simp [*]
theorem D65 (k:Nat) (S:KS) (N:Nat) (ok:KOk N S) (hN:N+1<1000000000) (env:Int) (c:CallS) (ba:Option Addr) (bc:Nat) (ro:Bool) (h5:c.op≠5) :
  Ct B0 S7 [P0 k,int env,.agg ⟨Bk2 c ba bc⟩] [E0 k S,slC ro A5 1 ba c.b.length bc (A0 c.b)] fun v own=>∃ x d,v=.agg ⟨[int (Z1 S env c).1.1,int (Z1 S env c).1.2.1,.slice x (Z1 S env c).1.2.2.length d]⟩ ∧
    own [slC false A5 1 x (Z1 S env c).1.2.2.length d (A0 (Z1 S env c).1.2.2),E0 k (Z1 S env c).2,slC ro A5 1 ba c.b.length bc (A0 c.b)]:=by
 intro h r o
 obtain ⟨pq,o1⟩:=Own.ex (f:=fun pq=>slX ro A5 1 ba c.b.length bc pq (A0 c.b)) (o.perm (.swap _ _ _))
 obtain ⟨v,h',e,x,d,rfl,o2⟩:=Hu8 k S N ok hN env c ba bc ro pq h5 h r (o1.perm (.swap _ _ _))
 refine ⟨_,h',e,x,d,rfl,?_⟩
 have o3:=o2.picks [2] rfl
 exact (Own.inex (f:=fun pq=>slX ro A5 1 ba c.b.length bc pq (A0 c.b)) pq o3).picks [1,1,0] rfl
theorem D92 (c k:Nat) (F:Fr) (X:CX) (rc:RecS) (ok:FrOk F):Ct B0 O5 [P0 c,.agg ⟨Z0 rc⟩] [cmC c k F X] fun v own =>
  (∃ l a cp,rdX X rc=some l∧l.length=Q9 rc.kind∧v=.tuple ⟨[.slice a l.length cp,.bool true]⟩∧own [slC false A5 1 a l.length cp (A0 l),cmC c k F X]) ∨
  (rdX X rc=none∧v=.tuple ⟨[.slice none 0 0,.bool false]⟩∧own [cmC c k F X]):=by
 refine Ct.of D07 rfl fun h r=>Tr.eq (D08 ..) ?_;refine Je ?_
 refine B8 (cmC c k F X) fun u=>?_;refine Je ?_
 refine P1 2 rfl fun f=>?_
 (refine Ja ?_;unhygienic intros)
 refine Yc (Em7 c k F.env F.caps X.bad rc ok.small ok.ne) ?_;rintro _ h ⟨rfl,o⟩<;>(refine Jg o ?_;unhygienic intros)
 have em:=f.mlen ok
 cases hp:H0 F.caps.length rc with
 | none =>
  (refine Jb ?_;unhygienic intros)
  refine Yb (Yt rfl ?_)
  refine Ys fun o=>(?_:Tr _ _ _ _) o;refine Je ?_
  (refine Ja ?_;unhygienic intros)
  refine B6 (cmC c k F X) () ?_;refine Je ?_
  refine Ys fun o=>?_
  exact .inr ⟨by unfold rdX;rw [em,hp],rfl,o.sub⟩
 | some p =>
  obtain ⟨j,a,n⟩:=p
  refine B8 (W0 c k F.env F.caps X.bad) fun ⟨ca,cn,mb⟩=>?_;refine Je ?_
  (refine Jb ?_;unhygienic intros)
  refine Tr.orG (c:=decide (rc ∈ X.bad)) (fun _=>?_) ?_
  ·(refine Ja ?_;unhygienic intros)
   rw [Bx9,Hh9]
   (refine Ja ?_;unhygienic intros)
   refine Ys fun o=>?_
   rw [Hh1];exact ⟨by first|rfl|trivial,by first|rfl|trivial⟩
  by_cases hb:rc ∈ X.bad
  ·rw [decide_eq_true hb]
   (refine Ja ?_;unhygienic intros)
   refine B6 (W0 c k F.env F.caps X.bad) ⟨ca,cn,mb⟩ ?_;refine Je ?_
   refine B6 (cmC c k F X) () ?_;refine Je ?_
   refine Ys fun o=>?_
   exact .inr ⟨by unfold rdX;rw [em,hp];exact if_pos hb,rfl,o.sub⟩
  ·rw [decide_eq_false hb]
   refine Yf rfl ?_
   (refine Ja ?_;unhygienic intros)
   refine B6 (W0 c k F.env F.caps X.bad) ⟨ca,cn,mb⟩ ?_;refine Je ?_
   have J:=Ic8 k (F.at X.m) F.N (F.at_ok ok f) ok.hN F.env 1 (F.caps.getD j 0) (a:Int) (n:Int) 0 0 (by decide)
   rw [Ik5 ok f hp] at J
   refine Yc (J) ?_;rintro _ h ⟨y,d,rfl,o⟩<;>(refine Jf o ?_;unhygienic intros)
   refine Yf rfl ?_
   (refine Ja ?_;unhygienic intros)
   refine B6 (cmC c k F X) () ?_;refine Je ?_
   refine Ys fun o=>?_
   have e:rdX X rc=some (slice (X.m.getD j []) a n):=by unfold rdX;rw [em,hp];exact if_neg hb
   exact .inl ⟨_,y,d,e,Ib6 ok f e,rfl,o.sub⟩
theorem Bv9 (c k:Nat) (F:Fr) (X:CX) (rc:RecS) (ok:FrOk F) (bs:List UInt8) (g:Bool) (ba:Option Addr) (bc:Nat) (hb:g=true→bs.length=Q9 rc.kind) :
  Ct B0 J5 [P0 c,.agg ⟨Z0 rc⟩,.slice ba bs.length bc,.bool g] [cmC c k F X,slC false A5 1 ba bs.length bc (A0 bs)] fun v own =>
   v=.bool (wrX X rc bs g).1∧own [cmC c k F (wrX X rc bs g).2,slC false A5 1 ba bs.length bc (A0 bs)]:=by
 refine Ct.of Dt0 rfl fun h r=>Tr.eq (Dt4 ..) ?_;refine Je ?_
 refine B8 (cmC c k F X) fun u=>?_;refine Je ?_
 refine P1 2 rfl fun f=>?_
 (refine Ja ?_;unhygienic intros)
 refine Yc (Em7 c k F.env F.caps X.bad rc ok.small ok.ne) ?_;rintro _ h ⟨rfl,o⟩<;>(refine Jg o ?_;unhygienic intros)
 have em:=f.mlen ok
 cases hp:H0 F.caps.length rc with
 | none =>
  (refine Jb ?_;unhygienic intros)
  refine Yb (Yt rfl ?_)
  refine Ys fun o=>(?_:Tr _ _ _ _) o;refine Je ?_
  refine Yb (Yt rfl ?_)
  refine Ys fun o=>(?_:Tr _ _ _ _) o;refine Je ?_
  (refine Ja ?_;unhygienic intros)
  refine B6 (cmC c k F X) () ?_;refine Je ?_
  refine Ys fun o=>?_
  have e:wrX X rc bs g=(false,X):=by unfold wrX;rw [em,hp]
  rw [e]
  exact ⟨by first|rfl|trivial,o.sub⟩
 | some p =>
  obtain ⟨j,a,n⟩:=p
  refine B8 (W0 c k F.env F.caps X.bad) fun ⟨ca,cn,mb⟩=>?_;refine Je ?_
  (refine Jb ?_;unhygienic intros)
  refine Yb (Yf rfl ?_)
  refine Ys fun o=>(?_:Tr _ _ _ _) o;refine Je ?_
  (refine Jb ?_;unhygienic intros)
  refine Tr.orG (c:=decide (rc ∈ X.bad)) (fun _=>?_) ?_
  ·(refine Ja ?_;unhygienic intros)
   rw [Bx9,Hh9]
   (refine Ja ?_;unhygienic intros)
   refine Ys fun o=>?_
   rw [Hh1];exact ⟨by first|rfl|trivial,by first|rfl|trivial⟩
  by_cases hg:g=true∧¬ rc ∈ X.bad
  ·have e:wrX X rc bs g=(true,{ X with m:=X.m.set j (L6 (X.m.getD j []) a bs) }):=by unfold wrX;rw [em,hp];exact if_pos hg
   have f2:=Ie5 (r:=rc) (b:=bs) (ok:=g) ok f hb
   rw [e] at f2
   obtain ⟨rfl,hg2⟩:=hg
   rw [e,decide_eq_false hg2]
   refine Yf rfl ?_
   (refine Ja ?_;unhygienic intros)
   refine B6 (W0 c k F.env F.caps X.bad) ⟨ca,cn,mb⟩ ?_;refine Je ?_
   have hl:bs.length=n:=by rw [hb rfl,Dl7 hp]
   have J:=D65 k (F.at X.m) F.N (F.at_ok ok f) ok.hN F.env ⟨2,F.caps.getD j 0,(a:Int),0,0,0,bs⟩ ba bc false (show ((2:Int)≠5) by decide)
   rw [Ig8 ok f hp hl] at J
   refine Yc (J) ?_;rintro _ h ⟨y,d,rfl,o⟩<;>(refine Jf o ?_;unhygienic intros)
   refine Ap0 (show Fit F.S.mem.length F.rg (X.m.set j (L6 (X.m.getD j []) a bs)) from f2) ?_
   refine B6 (cmC c k F { X with m:=X.m.set j (L6 (X.m.getD j []) a bs) }) () ?_;refine Je ?_
   refine Ys fun o=>?_
   exact ⟨rfl,o.sub⟩
  ·have e:wrX X rc bs g=(false,X):=by unfold wrX;rw [em,hp];exact if_neg hg
   rw [e]
   refine Yt ?_ ?_
   ·cases g with
    | false=>rfl
    | true=>simpa using hg
   refine B6 (W0 c k F.env F.caps X.bad) ⟨ca,cn,mb⟩ ?_;refine Je ?_
   refine B6 (cmC c k F X) () ?_;refine Je ?_
   refine Ys fun o=>?_
   exact ⟨by first|rfl|trivial,o.sub⟩
def U8 {α:Type} (dec:List UInt8→α × Int) (z:α) (X:CX) (rc:RecS):(α × Int) × CX :=
 match rdX X rc with
 | some l=>(dec l,if (dec l).2=2 then { X with bad:=X.bad++[rc] } else X)
 | none=>((z,2),X)
theorem Ea0 {X:CX} {rc:RecS} {l:List UInt8} (h:rdX X rc=some l):¬ rc ∈ X.bad:=by
 unfold rdX at h
 split at h
 ·split at h
  ·cases h
  ·assumption
 ·cases h
theorem Hx9 (l:List UInt8) (h:(V9 l).2≠1):(V9 l).1=.zero:=by
 unfold V9 at *;split<;>first|rfl|(split<;>first|rfl|(simp_all;done))
theorem Ht6 (l:List UInt8) (h:(Y6 l).2≠1):(Y6 l).1=.zero:=by
 unfold Y6 at *;split<;>first|rfl|(split<;>first|rfl|(simp_all;done))
theorem Hu3 (l:List UInt8) (h:(U7 l).2≠1):(U7 l).1=.zero:=by
 unfold U7 at *;split<;>first|rfl|(split<;>first|rfl|(simp_all;done))
theorem Ic3 (c k:Nat) (F:Fr) (X:CX) (rc:RecS) (ok:FrOk F) (hk:Q9 rc.kind=24):Ct B0 L1 [P0 c,.agg ⟨Z0 rc⟩,.func (.func A42) ⟨[]⟩ ⟨[]⟩] [cmC c k F X] fun v own =>
  v=.tuple ⟨[.agg ⟨D3 (U8 V9 .zero X rc).1.1⟩,int (U8 V9 .zero X rc).1.2]⟩∧own [cmC c k F (U8 V9 .zero X rc).2]:=by
 refine Ct.of Ao0 rfl fun h r=>Tr.eq (Dj8 ..) ?_;refine Je ?_
 (refine Ja ?_;unhygienic intros)
 refine Yc (D92 c k F X rc ok) ?_
 rintro v h (⟨l,a,cp,hr,hl,rfl,o⟩|⟨hr,rfl,o⟩)
 ·refine (?_:Tr _ _ _ _) o
  refine Je ?_
  have e:U8 V9 .zero X rc=(V9 l,if (V9 l).2=2 then { X with bad:=X.bad++[rc] } else X):=by unfold U8;rw [hr]
  have hb:=Ea0 hr
  rw [e]
  rw [hk] at hl
  rw [hl]
  (refine Ja ?_;unhygienic intros)
  refine Yc (Hq7 a cp l hl) ?_;rintro _ h ⟨rfl,o⟩<;>(refine Jf o ?_;unhygienic intros)
  by_cases h2:(V9 l).2=2
  ·refine Yt (by simpa using h2) ?_
   have hz:=Hx9 l (by omega)
   simp only [if_pos h2]
   refine B8 (cmC c k F X) fun u=>?_;refine Je ?_
   refine B8 (W0 c k F.env F.caps X.bad) fun ⟨ca,cn,mb⟩=>?_;refine Je ?_
   (refine Ja ?_;unhygienic intros)
   rw [Bx9,if_neg hb]
   (refine Ja ?_;unhygienic intros)
   rw [Eb3 hb]
   (refine Ja ?_;unhygienic intros)
   rw [Du5 hb]
   (refine Ja ?_;unhygienic intros)
   rw [Dc6 X.bad 0 X.bad.length _ 0 rfl (by omega),Nat.zero_add]
   (refine Ja ?_;unhygienic intros)
   rw [Ee8]
   refine Tr.jmp Ao0 (Tr.eq (A53 ..) ?_);(try simp only[Nr,Nl,wl,Nat.reduceAdd,Nat.reduceMul,Int.reduceToNat])
   refine Yt (by rw [bne_iff_ne];omega) ?_
   (refine Ja ?_;unhygienic intros)
   rw [show X.bad.length+1=(X.bad++[rc]).length by simp]
   refine B6 (W0 c k F.env F.caps (X.bad++[rc])) ⟨ca,cn,mb⟩ ?_;refine Je ?_
   refine B6 (cmC c k F { X with bad:=X.bad++[rc] }) () ?_;refine Je ?_
   refine Ys fun o=>?_
   exact ⟨by rw [hz]<;>rfl,o.sub⟩
  ·refine Yf (by simpa using h2) ?_
   simp only [if_neg h2]
   refine Tr.jmp Ao0 (Tr.eq (A53 ..) ?_);(try simp only[Nr,Nl,wl,Nat.reduceAdd,Nat.reduceMul,Int.reduceToNat])
   by_cases h1:(V9 l).2=1
   ·refine Yf (by simpa using h1) ?_
    (refine Ja ?_;unhygienic intros)
    refine Ys fun o=>?_
    exact ⟨rfl,o.sub⟩
   ·refine Yt (by simpa using h1) ?_
    (refine Ja ?_;unhygienic intros)
    refine Ys fun o=>?_
    exact ⟨by rw [Hx9 l h1]<;>rfl,o.sub⟩
 ·refine (?_:Tr _ _ _ _) o
  refine Je ?_
  have e:U8 V9 .zero X rc=((.zero,2),X):=by unfold U8;rw [hr]
  rw [e]
  (refine Ja ?_;unhygienic intros)
  refine Ys fun o=>?_
  exact ⟨rfl,o.sub⟩
theorem Ib5 (c k:Nat) (F:Fr) (X:CX) (rc:RecS) (ok:FrOk F) (hk:Q9 rc.kind=8):Ct B0 L0 [P0 c,.agg ⟨Z0 rc⟩,.func (.func A40) ⟨[]⟩ ⟨[]⟩] [cmC c k F X] fun v own =>
  v=.tuple ⟨[.agg ⟨Br9 (U8 Y6 .zero X rc).1.1⟩,int (U8 Y6 .zero X rc).1.2]⟩∧own [cmC c k F (U8 Y6 .zero X rc).2]:=by
 refine Ct.of Aq6 rfl fun h r=>Tr.eq (Dl8 ..) ?_;refine Je ?_
 (refine Ja ?_;unhygienic intros)
 refine Yc (D92 c k F X rc ok) ?_
 rintro v h (⟨l,a,cp,hr,hl,rfl,o⟩|⟨hr,rfl,o⟩)
 ·refine (?_:Tr _ _ _ _) o
  refine Je ?_
  have e:U8 Y6 .zero X rc=(Y6 l,if (Y6 l).2=2 then { X with bad:=X.bad++[rc] } else X):=by unfold U8;rw [hr]
  have hb:=Ea0 hr
  rw [e]
  rw [hk] at hl
  rw [hl]
  (refine Ja ?_;unhygienic intros)
  refine Yc (Hp4 a cp l hl) ?_;rintro _ h ⟨rfl,o⟩<;>(refine Jf o ?_;unhygienic intros)
  by_cases h2:(Y6 l).2=2
  ·refine Yt (by simpa using h2) ?_
   have hz:=Ht6 l (by omega)
   simp only [if_pos h2]
   refine B8 (cmC c k F X) fun u=>?_;refine Je ?_
   refine B8 (W0 c k F.env F.caps X.bad) fun ⟨ca,cn,mb⟩=>?_;refine Je ?_
   (refine Ja ?_;unhygienic intros)
   rw [Bx9,if_neg hb]
   (refine Ja ?_;unhygienic intros)
   rw [Eb3 hb]
   (refine Ja ?_;unhygienic intros)
   rw [Du5 hb]
   (refine Ja ?_;unhygienic intros)
   rw [Dc6 X.bad 0 X.bad.length _ 0 rfl (by omega),Nat.zero_add]
   (refine Ja ?_;unhygienic intros)
   rw [Ee8]
   refine Tr.jmp Aq6 (Tr.eq (A37 ..) ?_);(try simp only[Nr,Nl,wl,Nat.reduceAdd,Nat.reduceMul,Int.reduceToNat])
   refine Yt (by rw [bne_iff_ne];omega) ?_
   (refine Ja ?_;unhygienic intros)
   rw [show X.bad.length+1=(X.bad++[rc]).length by simp]
   refine B6 (W0 c k F.env F.caps (X.bad++[rc])) ⟨ca,cn,mb⟩ ?_;refine Je ?_
   refine B6 (cmC c k F { X with bad:=X.bad++[rc] }) () ?_;refine Je ?_
   refine Ys fun o=>?_
   exact ⟨by rw [hz]<;>rfl,o.sub⟩
  ·refine Yf (by simpa using h2) ?_
   simp only [if_neg h2]
   refine Tr.jmp Aq6 (Tr.eq (A37 ..) ?_);(try simp only[Nr,Nl,wl,Nat.reduceAdd,Nat.reduceMul,Int.reduceToNat])
   by_cases h1:(Y6 l).2=1
   ·refine Yf (by simpa using h1) ?_
    (refine Ja ?_;unhygienic intros)
    refine Ys fun o=>?_
    exact ⟨rfl,o.sub⟩
   ·refine Yt (by simpa using h1) ?_
    (refine Ja ?_;unhygienic intros)
    refine Ys fun o=>?_
    exact ⟨by rw [Ht6 l h1]<;>rfl,o.sub⟩
 ·refine (?_:Tr _ _ _ _) o
  refine Je ?_
  have e:U8 Y6 .zero X rc=((.zero,2),X):=by unfold U8;rw [hr]
  rw [e]
  (refine Ja ?_;unhygienic intros)
  refine Ys fun o=>?_
  exact ⟨rfl,o.sub⟩
theorem Hi5 (c k:Nat) (F:Fr) (X:CX) (rc:RecS) (ok:FrOk F) (hk:Q9 rc.kind=40):Ct B0 I0 [P0 c,.agg ⟨Z0 rc⟩,.func (.func Aw7) ⟨[]⟩ ⟨[]⟩] [cmC c k F X] fun v own =>
  v=.tuple ⟨[.agg ⟨N5 (U8 U7 .zero X rc).1.1⟩,int (U8 U7 .zero X rc).1.2]⟩∧own [cmC c k F (U8 U7 .zero X rc).2]:=by
 refine Ct.of Ao3 rfl fun h r=>Tr.eq (Dk9 ..) ?_;refine Je ?_
 (refine Ja ?_;unhygienic intros)
 refine Yc (D92 c k F X rc ok) ?_
 rintro v h (⟨l,a,cp,hr,hl,rfl,o⟩|⟨hr,rfl,o⟩)
 ·refine (?_:Tr _ _ _ _) o
  refine Je ?_
  have e:U8 U7 .zero X rc=(U7 l,if (U7 l).2=2 then { X with bad:=X.bad++[rc] } else X):=by unfold U8;rw [hr]
  have hb:=Ea0 hr
  rw [e]
  rw [hk] at hl
  rw [hl]
  (refine Ja ?_;unhygienic intros)
  refine Yc (Hl8 a cp l hl) ?_;rintro _ h ⟨rfl,o⟩<;>(refine Jf o ?_;unhygienic intros)
  by_cases h2:(U7 l).2=2
  ·refine Yt (by simpa using h2) ?_
   have hz:=Hu3 l (by omega)
   simp only [if_pos h2]
   refine B8 (cmC c k F X) fun u=>?_;refine Je ?_
   refine B8 (W0 c k F.env F.caps X.bad) fun ⟨ca,cn,mb⟩=>?_;refine Je ?_
   (refine Ja ?_;unhygienic intros)
   rw [Bx9,if_neg hb]
   (refine Ja ?_;unhygienic intros)
   rw [Eb3 hb]
   (refine Ja ?_;unhygienic intros)
   rw [Du5 hb]
   (refine Ja ?_;unhygienic intros)
   rw [Dc6 X.bad 0 X.bad.length _ 0 rfl (by omega),Nat.zero_add]
   (refine Ja ?_;unhygienic intros)
   rw [Ee8]
   refine Tr.jmp Ao3 (Tr.eq (A47 ..) ?_);(try simp only[Nr,Nl,wl,Nat.reduceAdd,Nat.reduceMul,Int.reduceToNat])
   refine Yt (by rw [bne_iff_ne];omega) ?_
   (refine Ja ?_;unhygienic intros)
   rw [show X.bad.length+1=(X.bad++[rc]).length by simp]
   refine B6 (W0 c k F.env F.caps (X.bad++[rc])) ⟨ca,cn,mb⟩ ?_;refine Je ?_
   refine B6 (cmC c k F { X with bad:=X.bad++[rc] }) () ?_;refine Je ?_
   refine Ys fun o=>?_
   exact ⟨by rw [hz]<;>rfl,o.sub⟩
  ·refine Yf (by simpa using h2) ?_
   simp only [if_neg h2]
   refine Tr.jmp Ao3 (Tr.eq (A47 ..) ?_);(try simp only[Nr,Nl,wl,Nat.reduceAdd,Nat.reduceMul,Int.reduceToNat])
   by_cases h1:(U7 l).2=1
   ·refine Yf (by simpa using h1) ?_
    (refine Ja ?_;unhygienic intros)
    refine Ys fun o=>?_
    exact ⟨rfl,o.sub⟩
   ·refine Yt (by simpa using h1) ?_
    (refine Ja ?_;unhygienic intros)
    refine Ys fun o=>?_
    exact ⟨by rw [Hu3 l h1]<;>rfl,o.sub⟩
 ·refine (?_:Tr _ _ _ _) o
  refine Je ?_
  have e:U8 U7 .zero X rc=((.zero,2),X):=by unfold U8;rw [hr]
  rw [e]
  (refine Ja ?_;unhygienic intros)
  refine Ys fun o=>?_
  exact ⟨rfl,o.sub⟩
def Ga9 (g:Int):List UInt8:=[b8 g,211,Bu4 [b8 g,211],0]
def Au1 (l:List UInt8):Int × Int:=if byI l 0<8∧Ga9 (byI l 0)=l then (byI l 0,1) else (0,2)
theorem Gt1 (g:Int):Ct B0 Ap5 [int g] [] fun v own =>
  (0≤g∧g<8∧∃ a c,v=.tuple ⟨[.slice a 4 c,.bool true]⟩∧own [slC false A5 1 a 4 c (A0 (Ga9 g))])∨(¬ (0≤g∧g<8)∧v=.tuple ⟨[.slice none 0 0,.bool false]⟩∧own []):=by
 refine Ct.of Eb1 rfl fun h r=>Tr.eq (Ec3 ..) ?_;refine Je ?_
 (refine Ja ?_;unhygienic intros)
 by_cases hg:0≤g∧g<8
 ·refine Yf (by simp;omega) ?_
  rw [Bg1]
  refine Yn fun b h=>?_
  rw [show ([.int .u8 ((b8 g).toNat:Int),.int .u8 211]:List Value)=A0 [b8 g,211] from rfl]
  refine Af7 0 rfl 1 2 rfl (by omega) ?_
  refine Je ?_
  refine Tr.pcall (Gc5 (slC false A5 1 (some ⟨b,0,none⟩) 2 2 (A0 [b8 g,211])) (some ⟨b,0,none⟩) false 2 2 2 [b8 g,211] 2 (by simp) (by simp [B4])) ?_
  (refine Ja ?_;unhygienic intros)
  rw [show List.take 2 [b8 g,211]=[b8 g,211] from rfl,Do0]
  refine Tr.xApd ⟨rfl,rfl,by simp [B4]⟩ fun a' c' h'=>?_
  refine Je ?_
  refine Ys fun o=>?_
  exact .inl ⟨hg.1,hg.2,a',c',rfl,(show Own h' (_::slC false A5 1 a' 4 c' (A0 (Ga9 g))::_) from o).sub⟩
 ·refine Yt (by simp;omega) ?_
  refine Ys fun o=>?_
  exact .inr ⟨hg,rfl,o.sub⟩
theorem Ia9 (l:List UInt8):∀ (m i:Nat) (r:List UInt8),l.length-i=m→ByteArray.toList.loop ⟨⟨l⟩⟩ i r=r.reverse++l.drop i:=by
 intro m
 induction m with
 | zero =>
  intro i r hm
  unfold ByteArray.toList.loop
  rw [if_neg (show ¬ i<(ByteArray.mk ⟨l⟩).size by show ¬ i<l.length;omega),List.drop_eq_nil_of_le (by omega)];simp
 | succ m ih =>
  intro i r hm
  have hlt:i<l.length:=by omega
  unfold ByteArray.toList.loop
  rw [if_pos (show i<(ByteArray.mk ⟨l⟩).size from hlt),ih (i+1) _ (by omega),List.drop_eq_getElem_cons hlt]
  have:(ByteArray.mk ⟨l⟩).get! i=l[i]:=by
   show (Array.mk l)[i]! = l[i]
   simp [hlt]
  rw [this];simp
theorem Gm9 (l:List UInt8):(ByteArray.mk ⟨l⟩).toList=l:=by
 unfold ByteArray.toList
 rw [Ia9 l _ 0 [] rfl];simp
theorem Ho6 (a:Option Addr) (c:Nat) (l:List UInt8) (hl:l.length=4):Ct B0 An2 [.slice a 4 c] [slC false A5 1 a 4 c (A0 l)] fun v own=>v=.tuple ⟨[int (Au1 l).1,int (Au1 l).2]⟩∧own [slC false A5 1 a 4 c (A0 l)]:=by
 refine Ct.of Ez1 rfl fun h r=>Tr.eq (Ex4 ..) ?_;refine Je ?_
 refine Yf rfl ?_
 (refine Ja ?_;unhygienic intros;repeat(refine Gw ?_;rintro px rfl;refine Ja ?_;unhygienic intros))
 refine Tr.xIntS (v:=byI l 0) (Ad6 (by omega)) ?_
 simp only [byI,An8]
 refine Yc (Gt1 (byI l 0)) ?_
 rintro v h (⟨h1,h2,a1,c1,rfl,o⟩|⟨hn,rfl,o⟩)
 ·refine (?_:Tr _ _ _ _) o
  refine Je ?_
  (refine Ja ?_;unhygienic intros)
  rw [Gm9,Gm9]
  by_cases he:Ga9 (byI l 0)=l
  ·have e:Au1 l=(byI l 0,1):=by unfold Au1;rw [if_pos ⟨h2,he⟩]
   refine Yf (by simp [he]) ?_
   (refine Ja ?_;unhygienic intros)
   refine Tr.xIntS (v:=byI l 0) (Ad6 (by omega)) ?_
   refine Ys fun o=>?_
   rw [e];exact ⟨by simp only [byI,An8],o.sub⟩
  ·have e:Au1 l=(0,2):=by unfold Au1;rw [if_neg (fun hh=>he hh.2)]
   refine Yt (by simp [he]) ?_
   refine Ys fun o=>?_
   rw [e];exact ⟨rfl,o.sub⟩
 ·refine (?_:Tr _ _ _ _) o
  refine Je ?_
  (refine Jb ?_;unhygienic intros)
  refine Yb (Yt rfl ?_)
  refine Ys fun o=>(?_:Tr _ _ _ _) o;refine Je ?_
  (refine Ja ?_;unhygienic intros)
  refine Ys fun o=>?_
  exact ⟨by unfold Au1;rw [if_neg (by simp only [byI] at *;omega)],o.sub⟩
theorem Hv6 (l:List UInt8) (h:(Au1 l).2≠1):(Au1 l).1=0:=by
 unfold Au1 at *;split<;>simp_all
theorem Ie8 (c k:Nat) (F:Fr) (X:CX) (rc:RecS) (ok:FrOk F) (hk:Q9 rc.kind=4):Ct B0 Q6 [P0 c,.agg ⟨Z0 rc⟩,.func (.func An2) ⟨[]⟩ ⟨[]⟩] [cmC c k F X] fun v own =>
  v=.tuple ⟨[int (U8 Au1 0 X rc).1.1,int (U8 Au1 0 X rc).1.2]⟩∧own [cmC c k F (U8 Au1 0 X rc).2]:=by
 refine Ct.of A74 rfl fun h r=>Tr.eq (D98 ..) ?_;refine Je ?_
 (refine Ja ?_;unhygienic intros)
 refine Yc (D92 c k F X rc ok) ?_
 rintro v h (⟨l,a,cp,hr,hl,rfl,o⟩|⟨hr,rfl,o⟩)
 ·refine (?_:Tr _ _ _ _) o
  refine Je ?_
  have e:U8 Au1 0 X rc=(Au1 l,if (Au1 l).2=2 then { X with bad:=X.bad++[rc] } else X):=by unfold U8;rw [hr]
  have hb:=Ea0 hr
  rw [e]
  rw [hk] at hl
  rw [hl]
  (refine Ja ?_;unhygienic intros)
  refine Yc (Ho6 a cp l hl) ?_;rintro _ h ⟨rfl,o⟩<;>(refine Jf o ?_;unhygienic intros)
  by_cases h2:(Au1 l).2=2
  ·refine Yt (by simpa using h2) ?_
   have hz:=Hv6 l (by omega)
   simp only [if_pos h2]
   refine B8 (cmC c k F X) fun u=>?_;refine Je ?_
   refine B8 (W0 c k F.env F.caps X.bad) fun ⟨ca,cn,mb⟩=>?_;refine Je ?_
   (refine Ja ?_;unhygienic intros)
   rw [Bx9,if_neg hb]
   (refine Ja ?_;unhygienic intros)
   rw [Eb3 hb]
   (refine Ja ?_;unhygienic intros)
   rw [Du5 hb]
   (refine Ja ?_;unhygienic intros)
   rw [Dc6 X.bad 0 X.bad.length _ 0 rfl (by omega),Nat.zero_add]
   (refine Ja ?_;unhygienic intros)
   rw [Ee8]
   refine Tr.jmp A74 (Tr.eq (Bm0 ..) ?_);(try simp only[Nr,Nl,wl,Nat.reduceAdd,Nat.reduceMul,Int.reduceToNat])
   refine Yt (by rw [bne_iff_ne];omega) ?_
   rw [show X.bad.length+1=(X.bad++[rc]).length by simp]
   refine B6 (W0 c k F.env F.caps (X.bad++[rc])) ⟨ca,cn,mb⟩ ?_;refine Je ?_
   refine B6 (cmC c k F { X with bad:=X.bad++[rc] }) () ?_;refine Je ?_
   refine Ys fun o=>?_
   exact ⟨by rw [hz],o.sub⟩
  ·refine Yf (by simpa using h2) ?_
   simp only [if_neg h2]
   refine Tr.jmp A74 (Tr.eq (Bm0 ..) ?_);(try simp only[Nr,Nl,wl,Nat.reduceAdd,Nat.reduceMul,Int.reduceToNat])
   by_cases h1:(Au1 l).2=1
   ·refine Yf (by simpa using h1) ?_
    refine Ys fun o=>?_
    exact ⟨rfl,o.sub⟩
   ·refine Yt (by simpa using h1) ?_
    refine Ys fun o=>?_
    exact ⟨by rw [Hv6 l h1],o.sub⟩
 ·refine (?_:Tr _ _ _ _) o
  refine Je ?_
  have e:U8 Au1 0 X rc=((0,2),X):=by unfold U8;rw [hr]
  rw [e]
  (refine Ja ?_;unhygienic intros)
  refine Ys fun o=>?_
  exact ⟨rfl,o.sub⟩
abbrev D96 (X:CX) (i:Int):(ProcS × Int) × CX:=U8 V9 .zero X ⟨1,i⟩
abbrev Ed6 (X:CX) (i:Int):(FileS × Int) × CX:=U8 Y6 .zero X ⟨2,i⟩
abbrev Dj5 (X:CX) (i:Int):(PipeS × Int) × CX:=U8 U7 .zero X ⟨3,i⟩
abbrev Eu9 (X:CX):(PipeS × Int) × CX:=U8 U7 .zero X ⟨4,0⟩
abbrev Er6 (X:CX):(Int × Int) × CX:=U8 Au1 0 X ⟨5,0⟩
abbrev B77 (X:CX) (i:Int) (p:ProcS):Bool × CX:=wrX X ⟨1,i⟩ (Av9 p) (okS p)
abbrev B89 (X:CX) (i:Int) (p:FileS):Bool × CX:=wrX X ⟨2,i⟩ (Ai4 p) (okF p)
abbrev B74 (X:CX) (i:Int) (p:PipeS):Bool × CX:=wrX X ⟨3,i⟩ (J7 p) (okP p)
abbrev Bk1 (X:CX) (rc:RecS):Bool × CX:=wrX X rc (List.replicate (Q9 rc.kind) 0) true
theorem D53 (X:CX) (rc:RecS) (b:List UInt8):wrX X rc b false=(false,X):=by
 unfold wrX;split<;>simp
theorem Ej7 (c k:Nat) (F:Fr) (X:CX) (rc:RecS) (ok:FrOk F):Ct B0 Q2 [P0 c,.agg ⟨Z0 rc⟩] [cmC c k F X] fun v own =>
  v=.bool (Bk1 X rc).1∧own [cmC c k F (Bk1 X rc).2]:=by
 refine Ct.of Dt5 rfl fun h r=>Tr.eq (Dt6 ..) ?_;refine Je ?_
 refine B8 (cmC c k F X) fun u=>?_;refine Je ?_
 refine P1 2 rfl fun f=>?_
 (repeat' first|refine Gu ?_|(with_reducible first|refine Gn fun b h=>?_|apply Gx|apply Gy|rintro px rfl|apply Gw|refine fun(h:H)=>?_|intro hb)|refine Gs ?_|refine Gt ?_|exact Gz rfl|fail)
 refine Yc (Em7 c k F.env F.caps X.bad rc ok.small ok.ne) ?_;rintro _ h ⟨rfl,o⟩<;>(refine (?_:Tr _ _ _ _) o;refine Je ?_;(repeat' first|refine Gu ?_|(with_reducible first|refine Gn fun b h=>?_|apply Gx|apply Gy|rintro px rfl|apply Gw|refine fun(h:H)=>?_|intro hb)|refine Gs ?_|refine Gt ?_|exact Gz rfl|fail))
 have em:=f.mlen ok
 cases hp:H0 F.caps.length rc with
 | none =>
  (repeat' first|refine Gu ?_|(with_reducible first|refine Gn fun b h=>?_|apply Gx|apply Gy|rintro px rfl|apply Gw|refine fun(h:H)=>?_|intro hb)|refine Gs ?_|refine Gt ?_|exact Gz rfl|fail)
  rw [show H3 (Int.toNat 0) [.int .u8 0]=A0 [] from rfl]
  refine Af7 0 rfl 1 0 rfl (by omega) ?_
  refine Je ?_
  refine B6 (cmC c k F X) () ?_;refine Je ?_
  refine Yc (Bv9 c k F X rc ok [] false (some ⟨b,0,none⟩) 0 (by simp)) ?_;rintro _ h ⟨rfl,o⟩<;>(refine (?_:Tr _ _ _ _) o;refine Je ?_;(repeat' first|refine Gu ?_|(with_reducible first|refine Gn fun b h=>?_|apply Gx|apply Gy|rintro px rfl|apply Gw|refine fun(h:H)=>?_|intro hb)|refine Gs ?_|refine Gt ?_|exact Gz rfl|fail))
  refine Ys fun o=>?_
  have e:Bk1 X rc=(false,X):=by unfold Bk1 wrX;rw [em,hp]
  rw [D53] at o
  rw [e,D53]
  exact ⟨by first|rfl|trivial,o.sub⟩
 | some p =>
  obtain ⟨j,a,n⟩:=p
  have hn:=Dl7 hp
  subst hn
  have h40:Q9 rc.kind≤40:=by unfold Q9;(repeat' split)<;>omega
  (repeat' first|refine Gu ?_|(with_reducible first|refine Gn fun b h=>?_|apply Gx|apply Gy|rintro px rfl|apply Gw|refine fun(h:H)=>?_|intro hb)|refine Gs ?_|refine Gt ?_|exact Gz rfl|fail)
  refine Tr.ck ⟨by omega,by omega,by simp only [B4];omega⟩ ?_
  refine Yn fun b1 h=>?_
  rw [Int.toNat_natCast,show H3 (Q9 rc.kind) [.int .u8 0]=A0 (List.replicate (Q9 rc.kind) 0) by simp [H3,A0]]
  refine Af7 0 rfl 1 (Q9 rc.kind) (by simp [A0]) (by omega) ?_
  refine Je ?_
  refine B6 (cmC c k F X) () ?_;refine Je ?_
  have J:=Bv9 c k F X rc ok (List.replicate (Q9 rc.kind) 0) true (some ⟨b1,0,none⟩) (Q9 rc.kind) (by simp)
  rw [List.length_replicate] at J
  refine Yc (J) ?_;rintro _ h ⟨rfl,o⟩<;>(refine (?_:Tr _ _ _ _) o;refine Je ?_;(repeat' first|refine Gu ?_|(with_reducible first|refine Gn fun b h=>?_|apply Gx|apply Gy|rintro px rfl|apply Gw|refine fun(h:H)=>?_|intro hb)|refine Gs ?_|refine Gt ?_|exact Gz rfl|fail))
  refine Ys fun o=>?_
  exact ⟨rfl,o.sub⟩
theorem Ee0 (c k:Nat) (F:Fr) (X:CX) (rc:RecS) (ok:FrOk F):Ct B0 J5 [P0 c,.agg ⟨Z0 rc⟩,.slice none 0 0,.bool false] [cmC c k F X] fun v own=>v=.bool false∧own [cmC c k F X]:=by
 intro h r o
 have o1:Own h (slC false A5 1 none 0 0 (A0 [])::cmC c k F X::r):=o.slNil false A5 (by omega)
 obtain ⟨v,h',e,rfl,o2⟩:=Bv9 c k F X rc ok [] false none 0 (by simp) h r (o1.perm (.swap _ _ _))
 rw [D53] at e o2
 exact ⟨_,h',e,rfl,o2.sub⟩
theorem Ea5 (i:Int):Ct B0 As3 [int i] [] fun v own=>v=.agg ⟨Z0 ⟨1,i⟩⟩∧own []:=by
 refine Ct.of Gg6 rfl fun h r=>Tr.eq (Gk6 ..) ?_;refine Je ?_
 (refine Ja ?_;unhygienic intros)
 refine Ys fun o=>?_
 exact ⟨rfl,o.sub⟩
theorem D85 (i:Int):Ct B0 As4 [int i] [] fun v own=>v=.agg ⟨Z0 ⟨2,i⟩⟩∧own []:=by
 refine Ct.of Gj2 rfl fun h r=>Tr.eq (Gg5 ..) ?_;refine Je ?_
 (refine Ja ?_;unhygienic intros)
 refine Ys fun o=>?_
 exact ⟨rfl,o.sub⟩
theorem Ea7 (i:Int):Ct B0 As6 [int i] [] fun v own=>v=.agg ⟨Z0 ⟨3,i⟩⟩∧own []:=by
 refine Ct.of Gg2 rfl fun h r=>Tr.eq (Gk1 ..) ?_;refine Je ?_
 (refine Ja ?_;unhygienic intros)
 refine Ys fun o=>?_
 exact ⟨rfl,o.sub⟩
theorem Ba1 (c k:Nat) (F:Fr) (X:CX) (ok:FrOk F) (i:Int):Ct B0 E2 [P0 c,int i] [cmC c k F X] fun v own=>v=.tuple ⟨[.agg ⟨D3 (D96 X i).1.1⟩,int (D96 X i).1.2]⟩∧own [cmC c k F (D96 X i).2]:=by
 refine Ct.of D21 rfl fun h r=>Tr.eq (D13 ..) ?_;refine Je ?_
 (refine Ja ?_;unhygienic intros)
 refine Yc (Ea5 i) ?_;rintro _ h ⟨rfl,o⟩<;>(refine Jf o ?_;unhygienic intros)
 refine Yc (Ic3 c k F X ⟨1,i⟩ ok rfl) ?_;rintro _ h ⟨rfl,o⟩<;>(refine Jf o ?_;unhygienic intros)
 refine Ys fun o=>?_
 exact ⟨rfl,o.sub⟩
theorem Dq3 (c k:Nat) (F:Fr) (X:CX) (ok:FrOk F) (i:Int):Ct B0 L5 [P0 c,int i] [cmC c k F X] fun v own=>v=.tuple ⟨[.agg ⟨Br9 (Ed6 X i).1.1⟩,int (Ed6 X i).1.2]⟩∧own [cmC c k F (Ed6 X i).2]:=by
 refine Ct.of Dy2 rfl fun h r=>Tr.eq (Dz7 ..) ?_;refine Je ?_
 (refine Ja ?_;unhygienic intros)
 refine Yc (D85 i) ?_;rintro _ h ⟨rfl,o⟩<;>(refine Jf o ?_;unhygienic intros)
 refine Yc (Ib5 c k F X ⟨2,i⟩ ok rfl) ?_;rintro _ h ⟨rfl,o⟩<;>(refine Jf o ?_;unhygienic intros)
 refine Ys fun o=>?_
 exact ⟨rfl,o.sub⟩
theorem G27 (c k:Nat) (F:Fr) (X:CX) (ok:FrOk F) (i:Int):Ct B0 Aa2 [P0 c,int i] [cmC c k F X] fun v own=>v=.tuple ⟨[.agg ⟨N5 (Dj5 X i).1.1⟩,int (Dj5 X i).1.2]⟩∧own [cmC c k F (Dj5 X i).2]:=by
 refine Ct.of Dy7 rfl fun h r=>Tr.eq (D02 ..) ?_;refine Je ?_
 (refine Ja ?_;unhygienic intros)
 refine Yc (Ea7 i) ?_;rintro _ h ⟨rfl,o⟩<;>(refine Jf o ?_;unhygienic intros)
 refine Yc (Hi5 c k F X ⟨3,i⟩ ok rfl) ?_;rintro _ h ⟨rfl,o⟩<;>(refine Jf o ?_;unhygienic intros)
 refine Ys fun o=>?_
 exact ⟨rfl,o.sub⟩
theorem H81 (c k:Nat) (F:Fr) (X:CX) (ok:FrOk F):Ct B0 Aj6 [P0 c] [cmC c k F X] fun v own=>v=.tuple ⟨[.agg ⟨N5 (Eu9 X).1.1⟩,int (Eu9 X).1.2]⟩∧own [cmC c k F (Eu9 X).2]:=by
 refine Ct.of Dy3 rfl fun h r=>Tr.eq (D15 ..) ?_;refine Je ?_
 (refine Ja ?_;unhygienic intros)
 refine Yc (Hi5 c k F X ⟨4,0⟩ ok rfl) ?_;rintro _ h ⟨rfl,o⟩<;>(refine Jf o ?_;unhygienic intros)
 refine Ys fun o=>?_
 exact ⟨rfl,o.sub⟩
theorem H10 (c k:Nat) (F:Fr) (X:CX) (ok:FrOk F):Ct B0 Ah4 [P0 c] [cmC c k F X] fun v own=>v=.tuple ⟨[int (Er6 X).1.1,.bool ((Er6 X).1.2==1)]⟩∧own [cmC c k F (Er6 X).2]:=by
 refine Ct.of Dt3 rfl fun h r=>Tr.eq (Dt1 ..) ?_;refine Je ?_
 (refine Ja ?_;unhygienic intros)
 refine Yc (Ie8 c k F X ⟨5,0⟩ ok rfl) ?_;rintro _ h ⟨rfl,o⟩<;>(refine Jf o ?_;unhygienic intros)
 refine Ys fun o=>?_
 exact ⟨rfl,o.sub⟩
theorem Dp7 (f:FileS):(Ai4 f).length=8:=rfl
theorem B97 (c k:Nat) (F:Fr) (X:CX) (ok:FrOk F) (i:Int) (p:ProcS):Ct B0 J9 [P0 c,int i,.agg ⟨D3 p⟩] [cmC c k F X] fun v own=>v=.bool (B77 X i p).1∧own [cmC c k F (B77 X i p).2]:=by
 refine Ct.of Di9 rfl fun h r=>Tr.eq (Di4 ..) ?_;refine Je ?_
 (refine Ja ?_;unhygienic intros)
 refine Yc (Gb7 p) ?_
 rintro v h (⟨hk,a,rfl,o⟩|⟨hk,rfl,o⟩)
 ·refine (?_:Tr _ _ _ _) o
  refine Je ?_
  (refine Ja ?_;unhygienic intros)
  refine Yc (Ea5 i) ?_;rintro _ h ⟨rfl,o⟩<;>(refine Jf o ?_;unhygienic intros)
  have J:=Bv9 c k F X ⟨1,i⟩ ok (Av9 p) true a 24 (fun _=>D91 p)
  rw [D91] at J
  refine Yc (J) ?_;rintro _ h ⟨rfl,o⟩<;>(refine Jf o ?_;unhygienic intros)
  refine Ys fun o=>?_
  unfold B77;rw [hk]
  exact ⟨rfl,o.sub⟩
 ·refine (?_:Tr _ _ _ _) o
  refine Je ?_
  (refine Ja ?_;unhygienic intros)
  refine Yc (Ea5 i) ?_;rintro _ h ⟨rfl,o⟩<;>(refine Jf o ?_;unhygienic intros)
  refine Yc (Ee0 c k F X ⟨1,i⟩ ok) ?_;rintro _ h ⟨rfl,o⟩<;>(refine Jf o ?_;unhygienic intros)
  refine Ys fun o=>?_
  unfold B77;rw [hk,D53]
  exact ⟨rfl,o.sub⟩
theorem E27 (c k:Nat) (F:Fr) (X:CX) (ok:FrOk F) (i:Int) (p:FileS):Ct B0 U2 [P0 c,int i,.agg ⟨Br9 p⟩] [cmC c k F X] fun v own=>v=.bool (B89 X i p).1∧own [cmC c k F (B89 X i p).2]:=by
 refine Ct.of Di2 rfl fun h r=>Tr.eq (Dl0 ..) ?_;refine Je ?_
 (refine Ja ?_;unhygienic intros)
 refine Yc (Gf0 p) ?_
 rintro v h (⟨hk,a,rfl,o⟩|⟨hk,rfl,o⟩)
 ·refine (?_:Tr _ _ _ _) o
  refine Je ?_
  (refine Ja ?_;unhygienic intros)
  refine Yc (D85 i) ?_;rintro _ h ⟨rfl,o⟩<;>(refine Jf o ?_;unhygienic intros)
  have J:=Bv9 c k F X ⟨2,i⟩ ok (Ai4 p) true a 8 (fun _=>Dp7 p)
  rw [Dp7] at J
  refine Yc (J) ?_;rintro _ h ⟨rfl,o⟩<;>(refine Jf o ?_;unhygienic intros)
  refine Ys fun o=>?_
  unfold B89;rw [hk]
  exact ⟨rfl,o.sub⟩
 ·refine (?_:Tr _ _ _ _) o
  refine Je ?_
  (refine Ja ?_;unhygienic intros)
  refine Yc (D85 i) ?_;rintro _ h ⟨rfl,o⟩<;>(refine Jf o ?_;unhygienic intros)
  refine Yc (Ee0 c k F X ⟨2,i⟩ ok) ?_;rintro _ h ⟨rfl,o⟩<;>(refine Jf o ?_;unhygienic intros)
  refine Ys fun o=>?_
  unfold B89;rw [hk,D53]
  exact ⟨rfl,o.sub⟩
theorem Hg1 (c k:Nat) (F:Fr) (X:CX) (ok:FrOk F) (i:Int) (p:PipeS):Ct B0 Ac8 [P0 c,int i,.agg ⟨N5 p⟩] [cmC c k F X] fun v own=>v=.bool (B74 X i p).1∧own [cmC c k F (B74 X i p).2]:=by
 refine Ct.of Di6 rfl fun h r=>Tr.eq (Dj9 ..) ?_;refine Je ?_
 (refine Ja ?_;unhygienic intros)
 refine Yc (Ge9 p) ?_
 rintro v h (⟨hk,a,rfl,o⟩|⟨hk,rfl,o⟩)
 ·refine (?_:Tr _ _ _ _) o
  refine Je ?_
  (refine Ja ?_;unhygienic intros)
  refine Yc (Ea7 i) ?_;rintro _ h ⟨rfl,o⟩<;>(refine Jf o ?_;unhygienic intros)
  have J:=Bv9 c k F X ⟨3,i⟩ ok (J7 p) true a 40 (fun _=>Bs7 p.len)
  rw [Bs7 p.len] at J
  refine Yc (J) ?_;rintro _ h ⟨rfl,o⟩<;>(refine Jf o ?_;unhygienic intros)
  refine Ys fun o=>?_
  unfold B74;rw [hk]
  exact ⟨rfl,o.sub⟩
 ·refine (?_:Tr _ _ _ _) o
  refine Je ?_
  (refine Ja ?_;unhygienic intros)
  refine Yc (Ea7 i) ?_;rintro _ h ⟨rfl,o⟩<;>(refine Jf o ?_;unhygienic intros)
  refine Yc (Ee0 c k F X ⟨3,i⟩ ok) ?_;rintro _ h ⟨rfl,o⟩<;>(refine Jf o ?_;unhygienic intros)
  refine Ys fun o=>?_
  unfold B74;rw [hk,D53]
  exact ⟨rfl,o.sub⟩
theorem B12 (c k:Nat) (F:Fr) (X:CX) (ok:FrOk F) (i:Int):Ct B0 J0 [P0 c,int i] [cmC c k F X] fun v own=>v=.bool (Bk1 X ⟨1,i⟩).1∧own [cmC c k F (Bk1 X ⟨1,i⟩).2]:=by
 refine Ct.of Df9 rfl fun h r=>Tr.eq (Dg3 ..) ?_;refine Je ?_
 refine Yc (Ea5 i) ?_;rintro _ h ⟨rfl,o⟩<;>(refine Jf o ?_;unhygienic intros)
 refine Yc (Ej7 c k F X ⟨1,i⟩ ok) ?_;rintro _ h ⟨rfl,o⟩<;>(refine Jf o ?_;unhygienic intros)
 refine Ys fun o=>?_
 exact ⟨rfl,o.sub⟩
theorem G48 (c k:Nat) (F:Fr) (X:CX) (ok:FrOk F) (i:Int):Ct B0 Ab4 [P0 c,int i] [cmC c k F X] fun v own=>v=.bool (Bk1 X ⟨2,i⟩).1∧own [cmC c k F (Bk1 X ⟨2,i⟩).2]:=by
 refine Ct.of Dd9 rfl fun h r=>Tr.eq (Dg6 ..) ?_;refine Je ?_
 refine Yc (D85 i) ?_;rintro _ h ⟨rfl,o⟩<;>(refine Jf o ?_;unhygienic intros)
 refine Yc (Ej7 c k F X ⟨2,i⟩ ok) ?_;rintro _ h ⟨rfl,o⟩<;>(refine Jf o ?_;unhygienic intros)
 refine Ys fun o=>?_
 exact ⟨rfl,o.sub⟩
theorem G55 (c k:Nat) (F:Fr) (X:CX) (ok:FrOk F) (i:Int):Ct B0 Ab7 [P0 c,int i] [cmC c k F X] fun v own=>v=.bool (Bk1 X ⟨3,i⟩).1∧own [cmC c k F (Bk1 X ⟨3,i⟩).2]:=by
 refine Ct.of Dg4 rfl fun h r=>Tr.eq (Dg0 ..) ?_;refine Je ?_
 refine Yc (Ea7 i) ?_;rintro _ h ⟨rfl,o⟩<;>(refine Jf o ?_;unhygienic intros)
 refine Yc (Ej7 c k F X ⟨3,i⟩ ok) ?_;rintro _ h ⟨rfl,o⟩<;>(refine Jf o ?_;unhygienic intros)
 refine Ys fun o=>?_
 exact ⟨rfl,o.sub⟩
def Dl1 (f:CX→Int→CX):Nat→Int→CX→CX
 | 0,_,X=>X
 | m+1,i,X=>Dl1 f m (i+1) (f X i)
def Gb5 (X:CX):CX:=(Er6 (Eu9 X).2).2
def G60 (nc:Nat) (X:CX):CX:=Gb5 (Dl1 (fun X i=>(Dj5 X i).2) (3+nc) 0 X)
def G26 (nc:Nat) (X:CX):CX:=G60 nc (Dl1 (fun X i=>(Ed6 X i).2) 12 0 X)
def lookN (nc:Nat) (X:CX):CX:=G26 nc (Dl1 (fun X i=>(D96 X i).2) 8 0 X)
def Gc2 (X:CX):CX:=lookN X.m.length X
theorem Hk1 (c k:Nat) (F:Fr) (ok:FrOk F):∀ (m:Nat) (i:Int) (X:CX),0≤i→i+m=3+F.caps.length →
  CtJ E3 D1 Ad7 [(0,P0 c),(20,int (3+F.caps.length)),(21,int i)] [cmC c k F X] fun v own=>v=.tuple ⟨[]⟩∧own [cmC c k F (Gb5 (Dl1 (fun X i=>(Dj5 X i).2) m i X))]:=by
 have hs:=ok.small
 intro m
 induction m with
 | zero =>
  intro i X h0 hi
  refine CtJ.of O1 fun h r=>Tr.eq (Bf2 ..) ?_;refine Je ?_
  refine Yf (by simp;omega) ?_
  refine Yc (H81 c k F X ok) ?_;rintro _ h ⟨rfl,o⟩<;>(refine Jf o ?_;unhygienic intros)
  refine Yc (H10 c k F (Eu9 X).2 ok) ?_;rintro _ h ⟨rfl,o⟩<;>(refine Jf o ?_;unhygienic intros)
  refine Ys fun o=>?_
  exact ⟨rfl,o⟩
 | succ m ih =>
  intro i X h0 hi
  have e1:IntKind.wrap .i64 (i+1)=i+1:=by rw [A8];omega
  refine CtJ.of O1 fun h r=>Tr.eq (Bf2 ..) ?_;refine Je ?_
  refine Yt (by simp;omega) ?_
  refine Yc (G27 c k F X ok i) ?_;rintro _ h ⟨rfl,o⟩<;>(refine Jf o ?_;unhygienic intros)
  rw [e1]
  refine Yr (ih (i+1) (Dj5 X i).2 (by omega) (by omega)) ?_
  rintro _ h ⟨rfl,o⟩
  exact ⟨rfl,o⟩
theorem Hn3 (c k:Nat) (F:Fr) (ok:FrOk F):∀ (m:Nat) (i:Int) (X:CX),0≤i→i+m=12 →
  CtJ E3 D1 Ad4 [(0,P0 c),(12,int i)] [cmC c k F X] fun v own=>v=.tuple ⟨[]⟩∧own [cmC c k F (G60 F.caps.length (Dl1 (fun X i=>(Ed6 X i).2) m i X))]:=by
 have hs:=ok.small
 intro m
 induction m with
 | zero =>
  intro i X h0 hi
  refine CtJ.of O1 fun h r=>Tr.eq (Bf0 ..) ?_;refine Je ?_
  refine Yf (by simp;omega) ?_
  refine B8 (cmC c k F X) fun u=>?_;refine Je ?_
  refine Tr.pcall (Gx6 c k F.env F.caps X.bad 3 ok.small) ?_;refine Je ?_;(refine Ja ?_;unhygienic intros)
  refine B6 (cmC c k F X) () ?_;refine Je ?_
  refine Yr (Hk1 c k F ok (3+F.caps.length) 0 X (by omega) (by omega)) ?_
  rintro _ h ⟨rfl,o⟩
  exact ⟨rfl,o⟩
 | succ m ih =>
  intro i X h0 hi
  have e1:IntKind.wrap .i64 (i+1)=i+1:=by rw [A8];omega
  refine CtJ.of O1 fun h r=>Tr.eq (Bf0 ..) ?_;refine Je ?_
  refine Yt (by simp;omega) ?_
  refine Yc (Dq3 c k F X ok i) ?_;rintro _ h ⟨rfl,o⟩<;>(refine Jf o ?_;unhygienic intros)
  rw [e1]
  refine Yr (ih (i+1) (Ed6 X i).2 (by omega) (by omega)) ?_
  rintro _ h ⟨rfl,o⟩
  exact ⟨rfl,o⟩
theorem Hm4 (c k:Nat) (F:Fr) (ok:FrOk F):∀ (m:Nat) (i:Int) (X:CX),0≤i→i+m=8 →
  CtJ E3 D1 Ad0 [(0,P0 c),(5,int i)] [cmC c k F X] fun v own=>v=.tuple ⟨[]⟩∧own [cmC c k F (G26 F.caps.length (Dl1 (fun X i=>(D96 X i).2) m i X))]:=by
 intro m
 induction m with
 | zero =>
  intro i X h0 hi
  refine CtJ.of O1 fun h r=>Tr.eq (Be3 ..) ?_;refine Je ?_
  refine Yf (by simp;omega) ?_
  refine Yr (Hn3 c k F ok 12 0 X (by omega) (by omega)) ?_
  rintro _ h ⟨rfl,o⟩
  exact ⟨rfl,o⟩
 | succ m ih =>
  intro i X h0 hi
  have e1:IntKind.wrap .i64 (i+1)=i+1:=by rw [A8];omega
  refine CtJ.of O1 fun h r=>Tr.eq (Be3 ..) ?_;refine Je ?_
  refine Yt (by simp;omega) ?_
  refine Yc (Ba1 c k F X ok i) ?_;rintro _ h ⟨rfl,o⟩<;>(refine Jf o ?_;unhygienic intros)
  rw [e1]
  refine Yr (ih (i+1) (D96 X i).2 (by omega) (by omega)) ?_
  rintro _ h ⟨rfl,o⟩
  exact ⟨rfl,o⟩
theorem Gk3 (c k:Nat) (F:Fr) (X:CX) (ok:FrOk F):Ct B0 D1 [P0 c] [cmC c k F X] fun v own=>v=.tuple ⟨[]⟩∧own [cmC c k F (Gc2 X)]:=by
 refine Ct.of O1 rfl fun h r=>Tr.eq (D27 ..) ?_;refine Je ?_
 intro o
 obtain ⟨u,o1⟩:=Own.unfold (cmC c k F X) o
 have f:=(Own.front o1 (i:=2) rfl).pure
 have e:Gc2 X=lookN F.caps.length X:=by unfold Gc2;rw [f.mlen ok]
 rw [e]
 refine (?_:Tr _ _ _ _) o
 refine Yr (Hm4 c k F ok 8 0 X (by omega) (by omega)) ?_
 rintro _ h ⟨rfl,o⟩
 exact ⟨rfl,o⟩
end Go.EQ
