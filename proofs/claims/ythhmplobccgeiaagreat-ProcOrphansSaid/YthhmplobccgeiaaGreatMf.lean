/- Orphans -/
import Derived.Test.YthhmplobccgeiaaGreatMe
set_option linter.all false
set_option maxRecDepth 10000
namespace Go.EQ
open Go Go.NN
theorem U8 (l:List UInt8):(A0 l).length=l.length:=by simp [A0]
theorem D14 {l:List UInt8} {i:Nat} {x:UInt8} (h:l[i]?=some x):(A0 l)[i]?=some (.int .u8 x.toNat):=by
 unfold A0;rw [List.getElem?_map,h];rfl
def D68 (n:Int) (l:List UInt8):Int:=l.foldl (fun n c=>IntKind.wrap .u8 (n+c.toNat)) n
def Gh9 (l:List UInt8):Int:=D68 (IntKind.wrap .u8 l.length) l
theorem Hp8 (p:HP) (a:Option Addr) (ro:Bool) (n c d:Nat) (l:List UInt8) [ks:IsSl p a ro B0 1 n c (A0 l)] (x:Nat) (hx:x≤l.length) (hl:l.length≤D3):∀ (m i:Nat) (acc:Int),x-i=m→i≤x →
  V0 H7 Ab1 Bk4 [(3,.int .u8 acc),(9,.slice a x d),(10,int x),(11,int i)] [p] (.int .u8 (D68 acc ((l.take x).drop i))):=by
 intro m
 induction m with
 | zero =>
  intro i acc hm hi
  refine V0.of D00 fun h r=>Tr.eq (D23 ..) ?_;(try simp only[Nr,Nl,Nat.reduceAdd,Nat.reduceMul,Int.reduceToNat])
  refine Yf (by simp;omega) ?_
  refine Ys fun o=>?_
  rw [List.drop_eq_nil_of_le (by simp;omega)];exact ⟨rfl,rfl⟩
 | succ m ih =>
  intro i acc hm hi
  have hlt:i<(l.take x).length:=by rw [List.length_take];omega
  have hp:l[i]?=some (l.take x)[i]:=by
   rw [List.getElem_take];exact List.getElem?_eq_getElem (by omega)
  have hd:(l.take x).drop i=(l.take x)[i]::(l.take x).drop (i+1):=List.drop_eq_getElem_cons hlt
  generalize (l.take x)[i]=y at hp hd
  have e1:IntKind.wrap .i64 ((i:Int)+1)=((i+1:Nat):Int):=by rw [D1];simp only [D3] at hl;omega
  refine V0.of D00 fun h r=>Tr.eq (D23 ..) ?_;(try simp only[Nr,Nl,Nat.reduceAdd,Nat.reduceMul,Int.reduceToNat])
  refine Yt (by simp;omega) ?_
  refine Aa0 0 rfl fun h1 h2 h3=>?_
  rw [U8] at h1
  (repeat' first|refine Gu ?_|(with_reducible first|refine Gn fun b h=>?_|apply Gx|apply Gy|rintro px rfl|refine fun(h:H)=>?_|intro hb)|refine Gs ?_|refine Gt ?_|exact Gz rfl|fail)
  refine Tr.xIntS (v:=y.toNat) (by simpa using D14 hp) ?_
  rw [e1,hd]
  exact Z6 (ih (i+1) _ (by omega) (by omega)) (r:=r) (by simp) fun o=>⟨rfl,rfl⟩
theorem Gc6 (p:HP) (a:Option Addr) (ro:Bool) (n c d:Nat) (l:List UInt8) [ks:IsSl p a ro B0 1 n c (A0 l)] (x:Nat) (hx:x≤l.length) (hl:l.length≤D3) :
  CtP D2 Ab1 [.slice a x d] [p] (.int .u8 (Gh9 (l.take x))):=by
 refine CtP.of D00 rfl fun h r=>Tr.eq (Hb2 ..) ?_;(try simp only[Nr,Nl,Nat.reduceAdd,Nat.reduceMul,Int.reduceToNat])
 have e:(l.take x).length=x:=by rw [List.length_take];omega
 have J:=Hp8 p a ro n c d l x hx hl _ 0 (IntKind.wrap .u8 x) rfl (by omega)
 rw [List.drop_zero] at J
 refine Z6 J (r:=r) (by simp) fun o=>⟨?_,rfl⟩
 unfold Gh9;rw [e]
def Dt5:Nat→List UInt8→Int
 | _,[]=>-1
 | i,x::l=>if x≠0 then i else Dt5 (i+1) l
theorem Gm9:∀ (l:List UInt8) (i:Nat),decide (Dt5 i l≥0)=!l.all (·==0)
 | [],i=>by simp [Dt5]
 | x::l,i=>by
  unfold Dt5
  by_cases h:x=0
  ·rw [if_neg (by simp [h]),Gm9 l (i+1)];simp [h]
  ·rw [if_pos h];simp [h]
theorem If7 (x:UInt8):CtP D2 Ag5 [.int .u8 x.toNat] [] (.bool (x != 0)):=by
 refine CtP.of E80 rfl fun h r=>Tr.eq (E72 ..) ?_;(try simp only[Nr,Nl,Nat.reduceAdd,Nat.reduceMul,Int.reduceToNat])
 refine Ys fun o=>?_
 refine ⟨?_,rfl⟩
 congr 1
 have:((x.toNat:Int)=0)↔x=0:=by
  constructor
  ·intro h;exact UInt8.toNat.inj (by simpa using (show x.toNat=0 by omega))
  ·rintro rfl;rfl
 by_cases h:x=0
 ·subst h;rfl
 ·rw [bne_iff_ne.2 h,bne_iff_ne];intro h2;exact h (this.1 h2)
theorem E47 (p:HP) (a:Option Addr) (ro:Bool) (c:Nat) (l:List UInt8) [ks:IsSl p a ro B0 1 l.length c (A0 l)] (hl:l.length≤D3):∀ (m i:Nat),l.length-i=m→i≤l.length →
  V0 H7 G6 Q3 [(0,.slice a l.length c),(1,.func (.func Ag5) ⟨[]⟩ ⟨[]⟩),(7,int l.length),(8,int i)] [p] (int (Dt5 i (l.drop i))):=by
 intro m
 induction m with
 | zero =>
  intro i hm hi
  refine V0.of Af7 fun h r=>Tr.eq (Ar5 ..) ?_;(try simp only[Nr,Nl,Nat.reduceAdd,Nat.reduceMul,Int.reduceToNat])
  refine Yf (by simp;omega) ?_
  refine Ys fun o=>?_
  rw [List.drop_eq_nil_of_le (by omega)];exact ⟨rfl,rfl⟩
 | succ m ih =>
  intro i hm hi
  have hlt:i<l.length:=by omega
  have hp:l[i]?=some l[i]:=List.getElem?_eq_getElem hlt
  have hd:l.drop i=l[i]::l.drop (i+1):=List.drop_eq_getElem_cons hlt
  generalize l[i]=x at hp hd
  have e1:IntKind.wrap .i64 ((i:Int)+1)=((i+1:Nat):Int):=by rw [D1];simp only [D3] at hl;omega
  refine V0.of Af7 fun h r=>Tr.eq (Ar5 ..) ?_;(try simp only[Nr,Nl,Nat.reduceAdd,Nat.reduceMul,Int.reduceToNat])
  refine Yt (by simp;omega) ?_
  (repeat' first|refine Gu ?_|(with_reducible first|refine Gn fun b h=>?_|apply Gx|apply Gy|rintro px rfl|refine fun(h:H)=>?_|intro hb)|refine Gs ?_|refine Gt ?_|exact Gz rfl|fail)
  refine Tr.xIntS (v:=x.toNat) (by simpa using D14 hp) ?_
  (repeat' first|refine Gu ?_|(with_reducible first|refine Gn fun b h=>?_|apply Gx|apply Gy|rintro px rfl|refine fun(h:H)=>?_|intro hb)|refine Gs ?_|refine Gt ?_|exact Gz rfl|fail)
  refine Bw5 (If7 x) (r:=p::r) (by simp) ?_
  by_cases hx:x=0
  ·have:(x != 0)=false:=by simp [hx]
   rw [this]
   (repeat' first|refine Gu ?_|(with_reducible first|refine Gn fun b h=>?_|apply Gx|apply Gy|rintro px rfl|refine fun(h:H)=>?_|intro hb)|refine Gs ?_|refine Gt ?_|exact Gz rfl|fail)
   rw [e1]
   refine Z6 (ih (i+1) (by omega) (by omega)) (r:=r) (by simp) fun o=>?_
   rw [hd,Dt5,if_neg (by simp [hx])];exact ⟨by first|rfl|trivial,by first|rfl|trivial⟩
  ·have:(x != 0)=true:=by simp [hx]
   rw [this]
   (repeat' first|refine Gu ?_|(with_reducible first|refine Gn fun b h=>?_|apply Gx|apply Gy|rintro px rfl|refine fun(h:H)=>?_|intro hb)|refine Gs ?_|refine Gt ?_|exact Gz rfl|fail)
   refine Ys fun o=>?_
   rw [hd,Dt5,if_pos hx];exact ⟨by first|rfl|trivial,by first|rfl|trivial⟩
theorem Hz7 (p:HP) (a:Option Addr) (ro:Bool) (c:Nat) (l:List UInt8) [ks:IsSl p a ro B0 1 l.length c (A0 l)] (hl:l.length≤D3) :
  CtP D2 Am6 [.slice a l.length c] [p] (.bool (l.all (·==0))):=by
 have j:CtP D2 G6 [.slice a l.length c,.func (.func Ag5) ⟨[]⟩ ⟨[]⟩] [p] (int (Dt5 0 l)):=by
  refine CtP.of Af7 rfl fun h r=>Tr.eq (B25 ..) ?_;(try simp only[Nr,Nl,Nat.reduceAdd,Nat.reduceMul,Int.reduceToNat])
  exact Z6 (E47 p a ro c l hl _ 0 rfl (by omega)) (r:=r) (by simp) fun o=>⟨rfl,rfl⟩
 have j2:CtP D2 Q1 [.slice a l.length c,.func (.func Ag5) ⟨[]⟩ ⟨[]⟩] [p] (.bool (!l.all (·==0))):=by
  refine CtP.of Bo6 rfl fun h r=>Tr.eq (Bq0 ..) ?_;(try simp only[Nr,Nl,Nat.reduceAdd,Nat.reduceMul,Int.reduceToNat])
  refine Bw5 j (r:=r) (by simp) ?_
  (repeat' first|refine Gu ?_|(with_reducible first|refine Gn fun b h=>?_|apply Gx|apply Gy|rintro px rfl|refine fun(h:H)=>?_|intro hb)|refine Gs ?_|refine Gt ?_|exact Gz rfl|fail)
  refine Ys fun o=>?_
  rw [Gm9];exact ⟨by first|rfl|trivial,by first|rfl|trivial⟩
 refine CtP.of Gr3 rfl fun h r=>Tr.eq (Gq8 ..) ?_;(try simp only[Nr,Nl,Nat.reduceAdd,Nat.reduceMul,Int.reduceToNat])
 refine Bw5 j2 (r:=r) (by simp) ?_
 (repeat' first|refine Gu ?_|(with_reducible first|refine Gn fun b h=>?_|apply Gx|apply Gy|rintro px rfl|refine fun(h:H)=>?_|intro hb)|refine Gs ?_|refine Gt ?_|exact Gz rfl|fail)
 refine Ys fun o=>?_
 exact ⟨by simp,rfl⟩
theorem Gv0 (p q:HP) (a:Option Addr) (ro:Bool) (c:Nat) (a2:Option Addr) (ro2:Bool) (c2:Nat) (l m:List UInt8) [ks:IsSl p a ro B0 1 l.length c (A0 l)] [ks2:IsSl q a2 ro2 B0 1 m.length c2 (A0 m)] (hl:l.length≤D3) (hlm:m.length=l.length):∀ (k i:Nat),l.length-i=k→i≤l.length →
  V0 H7 E3 V3 [(0,.slice a l.length c),(1,.slice a2 m.length c2),(12,int l.length),(13,int i)] [p,q] (.bool (decide (l.drop i=m.drop i))):=by
 intro k
 induction k with
 | zero =>
  intro i hm hi
  refine V0.of Am8 fun h r=>Tr.eq (A24 ..) ?_;(try simp only[Nr,Nl,Nat.reduceAdd,Nat.reduceMul,Int.reduceToNat])
  refine Yf (by simp;omega) ?_
  refine Ys fun o=>?_
  rw [List.drop_eq_nil_of_le (by omega),List.drop_eq_nil_of_le (by omega)];exact ⟨rfl,rfl⟩
 | succ k ih =>
  intro i hm hi
  have hlt:i<l.length:=by omega
  have hp:l[i]?=some l[i]:=List.getElem?_eq_getElem hlt
  have hd:l.drop i=l[i]::l.drop (i+1):=List.drop_eq_getElem_cons hlt
  have hlt2:i<m.length:=by omega
  have hp2:m[i]?=some m[i]:=List.getElem?_eq_getElem hlt2
  have hd2:m.drop i=m[i]::m.drop (i+1):=List.drop_eq_getElem_cons hlt2
  generalize l[i]=x at hp hd
  generalize m[i]=y at hp2 hd2
  have e1:IntKind.wrap .i64 ((i:Int)+1)=((i+1:Nat):Int):=by rw [D1];simp only [D3] at hl;omega
  refine V0.of Am8 fun h r=>Tr.eq (A24 ..) ?_;(try simp only[Nr,Nl,Nat.reduceAdd,Nat.reduceMul,Int.reduceToNat])
  refine Yt (by simp;omega) ?_
  (repeat' first|refine Gu ?_|(with_reducible first|refine Gn fun b h=>?_|apply Gx|apply Gy|rintro px rfl|refine fun(h:H)=>?_|intro hb)|refine Gs ?_|refine Gt ?_|exact Gz rfl|fail)
  refine Tr.xIntS (v:=x.toNat) (by simpa using D14 hp) ?_
  (repeat' first|refine Gu ?_|(with_reducible first|refine Gn fun b h=>?_|apply Gx|apply Gy|rintro px rfl|refine fun(h:H)=>?_|intro hb)|refine Gs ?_|refine Gt ?_|exact Gz rfl|fail)
  refine Tr.xIntS (v:=y.toNat) (by simpa using D14 hp2) ?_
  by_cases hx:x=y
  ·subst hx
   refine Yf (by simp) ?_
   rw [e1]
   refine Z6 (ih (i+1) (by omega) (by omega)) (r:=r) (by simp) fun o=>?_
   rw [hd,hd2];exact ⟨by simp,rfl⟩
  ·refine Yt (by rw [bne_iff_ne];intro h2;exact hx (UInt8.toNat.inj (by omega))) ?_
   refine Ys fun o=>?_
   rw [hd,hd2];exact ⟨by simp [hx],rfl⟩
theorem Em0 (p q:HP) (a:Option Addr) (ro:Bool) (c:Nat) (a2:Option Addr) (ro2:Bool) (c2:Nat) (l m:List UInt8) [ks:IsSl p a ro B0 1 l.length c (A0 l)] [ks2:IsSl q a2 ro2 B0 1 m.length c2 (A0 m)] (hl:l.length≤D3) :
  CtP D2 E3 [.slice a l.length c,.slice a2 m.length c2] [p,q] (.bool (decide (l=m))):=by
 refine CtP.of Am8 rfl fun h r=>Tr.eq (Dd5 ..) ?_;(try simp only[Nr,Nl,Nat.reduceAdd,Nat.reduceMul,Int.reduceToNat])
 by_cases h:m.length=l.length
 ·refine Yf (by simp [h]) ?_
  have J:=Gv0 p q a ro c a2 ro2 c2 l m hl h _ 0 rfl (by omega)
  simp only [List.drop_zero] at J
  exact Z6 J (r:=r) (by simp) fun o=>⟨rfl,rfl⟩
 ·refine Yt (by rw [bne_iff_ne];omega) ?_
  refine Ys fun o=>?_
  exact ⟨by rw [decide_eq_false (fun e=>h (by rw [e]))],rfl⟩
theorem Hr9 (p:HP) (ro:Bool) (a:Option Addr) (c:Nat) (l:List UInt8) [ks:IsSl p a ro B0 1 l.length c (A0 l)] (hn:l.length≤D3) :
  Ct D2 H1 [.slice a l.length c] [p] fun v own=>∃ a' c',v=.slice a' l.length c'∧own [slC false B0 1 a' l.length c' (A0 l),p]:=by
 refine Ct.of Bb1 rfl fun h r=>Tr.eq (Bb4 ..) ?_;(try simp only[Nr,Nl,Nat.reduceAdd,Nat.reduceMul,Int.reduceToNat])
 refine Aa0 0 rfl fun hl hc _=>?_
 refine Tr.cond (fun hb=>?_) fun hb=>?_
 ·obtain rfl:a=none:=by simpa using hb
  refine H8 false B0 1 (by omega) ?_
  intro o
  have o1:=(o.tail.head ks.en).slNone
  obtain rfl:l=[]:=by
   have:=o1.2.2.1
   cases l with
   | nil=>rfl
   | cons x l=>simp [A0] at this
  obtain rfl:c=0:=o1.2.1
  exact ⟨_,_,rfl,none,0,rfl,o⟩
 ·(repeat' first|refine Gu ?_|(with_reducible first|refine Gn fun b h=>?_|apply Gx|apply Gy|rintro px rfl|refine fun(h:H)=>?_|intro hb)|refine Gs ?_|refine Gt ?_|exact Gz rfl|fail)
  refine Aj1 0 rfl 1 0 rfl (by omega) ?_;(try simp only[Nr,Nl,Nat.reduceAdd,Nat.reduceMul,Int.reduceToNat])
  (repeat' first|refine Gu ?_|(with_reducible first|refine Gn fun b h=>?_|apply Gx|apply Gy|rintro px rfl|refine fun(h:H)=>?_|intro hb)|refine Gs ?_|refine Gt ?_|exact Gz rfl|fail)
  refine Tr.xApd ⟨by simp [A0],by simp [A0,Value.oneCell],by omega⟩ fun a' c' h'=>?_
  (try simp only[Nr,Nl,Nat.reduceAdd,Nat.reduceMul,Int.reduceToNat])
  refine Ys fun o=>⟨a',c',by simp,by simpa using o⟩
end Go.EQ
namespace Go.NN
section
variable {l:List HP} {h:H} {α:Type} {Q:α→H→Prop} {ro:Bool} {e:TypeId} {cs:List Value}
instance {f:Fn} {a c:Array Value} {k:Option α}:Dx (one (.func f a c) k) k:=⟨rfl⟩
theorem Tr.xPCells {a:Option Addr} {n c sz:Nat} {vs cs':List Value} {l':List HP} {k:H→Option (α × H)} [k1:LkO l a false e sz n c cs] (hn:0<n) (hj:vs≠[]∧vs.length≤cs.length∧vs.all Value.oneCell=true∧vs++cs.drop vs.length=cs') [k2:UpO l a (slC false e sz a n c cs') e sz n c cs l'] (t:∀ h',Tr l' h' (k h') Q):Tr l h (NN.pCells a vs h k) Q:=fun ow=>by
 obtain ⟨i,p,hi,hp⟩:=k1.ix
 obtain ⟨y,rfl⟩:=((ow.front hi).head hp).slSome hn
 have:NN.pCells (Option.some y) vs h k=NN.pAgg ((D5 y).add 0) vs h k:=by
  show NN.pAgg (D5 y) vs h k=_
  congr 1
 rw [this]
 exact Tr.xPAggS (k1:=k1) ⟨hj.1,by omega,hj.2.2.1,by simpa using hj.2.2.2⟩ (k2:=k2) t ow
end
end Go.NN

set_option maxRecDepth 10000
namespace Go.EQ
open Go Go.NN
def b8 (x:Int):UInt8:=UInt8.ofNat (x%256).toNat
theorem Dk7 (x:Int):IntKind.wrap .u8 x=x%256:=Hz8 x
theorem Bg9 (x:Int):IntKind.wrap .u8 x=((b8 x).toNat:Int):=by
 rw [Dk7,b8,UInt8.toNat_ofNat']
 omega
def Bt3 (l:List UInt8):UInt8:=b8 (Gh9 l)
theorem G56:∀ (l:List UInt8) (n:Int),0≤n∧n<256→0≤D68 n l∧D68 n l<256
 | [],n,h=>h
 | x::l,n,h=>G56 l _ (by show 0≤IntKind.wrap .u8 (n+x.toNat)∧IntKind.wrap .u8 (n+x.toNat)<256;rw [Dk7];omega)
theorem Dm6 (l:List UInt8):Gh9 l=((Bt3 l).toNat:Int):=by
 have:=G56 l (IntKind.wrap .u8 l.length) (by rw [Dk7];omega)
 unfold Bt3
 rw [← Bg9,Dk7]
 unfold Gh9 at *;omega
structure FileS where
 kind:Int
 pipe:Int
 refs:Int
 flags:Int
abbrev FileS.zero:FileS:=⟨0,0,0,0⟩
abbrev Br5 (f:FileS):List Value:=[int f.kind,int f.pipe,int f.refs,int f.flags]
def okF (f:FileS):Bool:=decide (f.kind≥1) && decide (f.kind≤3) && decide (f.pipe≥0) && decide (f.pipe≤7) && (f.kind != 3 || f.pipe==0) && decide (f.refs≥1) && decide (f.refs≤64) && (f.flags==0 || f.flags==1)
def A86 (f:FileS):List UInt8:=[b8 f.kind,b8 f.pipe,b8 f.refs,b8 f.flags,179]
def Ai6 (f:FileS):List UInt8:=A86 f++[Bt3 (A86 f),0,0]
theorem Ic2 (f:FileS):Ct D2 Dk3 [.agg ⟨Br5 f⟩] [] fun v own=>v=.bool (okF f)∧own []:=by
 refine Ct.of Hn2 rfl fun h r=>Tr.eq (Ho6 ..) ?_;(try simp only[Nr,Nl,Nat.reduceAdd,Nat.reduceMul,Int.reduceToNat])
 (repeat' first|refine Gu ?_|(with_reducible first|refine Gn fun b h=>?_|apply Gx|apply Gy|rintro px rfl|refine fun(h:H)=>?_|intro hb)|refine Gs ?_|refine Gt ?_|exact Gz rfl|fail)
 refine Ys fun o=>?_
 refine ⟨?_,o.sub⟩
 rfl
theorem Ia7 (a:Option Addr) (c:Nat) (f:FileS):Ct D2 Ar8 [.agg ⟨Br5 f⟩,.slice a 8 c] [slC false B0 1 a 8 c (A0 (List.replicate 8 0))] fun v own=>v=.bool (okF f)∧own [slC false B0 1 a 8 c (A0 (if okF f then Ai6 f else List.replicate 8 0))]:=by
 refine Ct.of G87 rfl fun h r=>Tr.eq (G83 ..) ?_;(try simp only[Nr,Nl,Nat.reduceAdd,Nat.reduceMul,Int.reduceToNat])
 (repeat' first|refine Gu ?_|(with_reducible first|refine Gn fun b h=>?_|apply Gx|apply Gy|rintro px rfl|refine fun(h:H)=>?_|intro hb)|refine Gs ?_|refine Gt ?_|exact Gz rfl|fail)
 refine Yc (Ic2 f) ?_;rintro _ h ⟨rfl,o⟩<;>(refine (?_:Tr _ _ _ _) o;(try simp only[Nr,Nl,Nat.reduceAdd,Nat.reduceMul,Int.reduceToNat]);(repeat' first|refine Gu ?_|(with_reducible first|refine Gn fun b h=>?_|apply Gx|apply Gy|rintro px rfl|refine fun(h:H)=>?_|intro hb)|refine Gs ?_|refine Gt ?_|exact Gz rfl|fail))
 cases hk:okF f with
 | false =>
  (repeat' first|refine Gu ?_|(with_reducible first|refine Gn fun b h=>?_|apply Gx|apply Gy|rintro px rfl|refine fun(h:H)=>?_|intro hb)|refine Gs ?_|refine Gt ?_|exact Gz rfl|fail)
  refine Ys fun o=>?_
  rw [if_neg (by simp)]
  exact ⟨rfl,o.sub⟩
 | true =>
  (repeat' first|refine Gu ?_|(with_reducible first|refine Gn fun b h=>?_|apply Gx|apply Gy|rintro px rfl|refine fun(h:H)=>?_|intro hb)|refine Gs ?_|refine Gt ?_|exact Gz rfl|fail)
  simp only [Bg9,List.drop_zero,List.take]
  refine Aa0 2 rfl fun hl hc _=>?_
  refine Tr.xPCells (cs':=A0 (A86 f++[0,0,0])) (by omega) ⟨by simp,by simp [A0],by simp [Value.oneCell],rfl⟩ fun h=>?_
  (repeat' first|refine Gu ?_|(with_reducible first|refine Gn fun b h=>?_|apply Gx|apply Gy|rintro px rfl|refine fun(h:H)=>?_|intro hb)|refine Gs ?_|refine Gt ?_|exact Gz rfl|fail)
  refine Tr.pcall (Gc6 (slC false B0 1 a 8 c (A0 (A86 f++[0,0,0]))) a false 8 c c (A86 f++[0,0,0]) 5 (by simp [A86]) (by simp [A86,D3])) ?_
  (try simp only[Nr,Nl,Nat.reduceAdd,Nat.reduceMul,Int.reduceToNat])
  (repeat' first|refine Gu ?_|(with_reducible first|refine Gn fun b h=>?_|apply Gx|apply Gy|rintro px rfl|refine fun(h:H)=>?_|intro hb)|refine Gs ?_|refine Gt ?_|exact Gz rfl|fail)
  rw [show List.take 5 (A86 f++[0,0,0]:List UInt8)=A86 f from rfl,Dm6]
  refine Tr.xVS (cs':=A0 (Ai6 f)) ⟨by simp [A0,A86],rfl,rfl⟩ fun h=>?_
  refine Ys fun o=>?_
  simp only [if_true]
  exact ⟨trivial,o.sub⟩
theorem Dv0 {l:List Value} (h:l.all (fun v=>match v with|.int _ _=>true|_=>false)=true):Aq8 (.agg ⟨l⟩) (.agg ⟨l⟩)=true:=by
 show Bs2 l l=true
 induction l with
 | nil=>rfl
 | cons v l ih =>
  simp only [List.all_cons,Bool.and_eq_true] at h
  show (A35 v v && Bs2 l l)=true
  rw [ih h.2,Bool.and_true]
  cases v<;>first|(simp [A35];done)|exact absurd h.1 (by simp)
abbrev Gv8 (k:Nat):HP:=pt k (.cells Ak0 false [int 8,.func (.func Ar8) ⟨[]⟩ ⟨[]⟩,.func (.func Ar6) ⟨[]⟩ ⟨[]⟩])
theorem Ha8 (k:Nat) (f:FileS):Ct D2 V4 [P0 k,.agg ⟨Br5 f⟩] [Gv8 k] fun v own=>(okF f=true∧∃ a,v=.tuple ⟨[.slice a 8 8,.bool true]⟩∧own [Gv8 k,slC false B0 1 a 8 8 (A0 (Ai6 f))])∨(okF f=false∧v=.tuple ⟨[.slice none 0 0,.bool false]⟩∧own [Gv8 k]):=by
 refine Ct.of B42 rfl fun h r=>Tr.eq (B39 ..) ?_;(try simp only[Nr,Nl,Nat.reduceAdd,Nat.reduceMul,Int.reduceToNat])
 (repeat' first|refine Gu ?_|(with_reducible first|refine Gn fun b h=>?_|apply Gx|apply Gy|rintro px rfl|refine fun(h:H)=>?_|intro hb)|refine Gs ?_|refine Gt ?_|exact Gz rfl|fail)
 refine Tr.ck ⟨by omega,by omega,by simp [D3]⟩ ?_
 refine Yn fun b1 h=>?_
 rw [show I0 (Int.toNat 8) [.int .u8 0]=A0 (List.replicate 8 0) from rfl]
 refine Aj1 0 rfl 1 8 rfl (by omega) ?_
 simp only [List.set_cons_zero]
 (try simp only[Nr,Nl,Nat.reduceAdd,Nat.reduceMul,Int.reduceToNat])
 (repeat' first|refine Gu ?_|(with_reducible first|refine Gn fun b h=>?_|rintro px rfl|refine fun(h:H)=>?_|intro hb)|refine Gs ?_|refine Gt ?_|exact Gz rfl|fail)
 refine Yb (Yf rfl ?_)
 (repeat' first|refine Gu ?_|(with_reducible first|refine Gn fun b h=>?_|rintro px rfl|refine fun(h:H)=>?_|intro hb)|refine Gs ?_|refine Gt ?_|exact Gz rfl|fail)
 refine Yc (Ia7 (some ⟨b1,0,none⟩) 8 f) ?_;rintro _ h ⟨rfl,o⟩<;>(refine (?_:Tr _ _ _ _) o;(try simp only[Nr,Nl,Nat.reduceAdd,Nat.reduceMul,Int.reduceToNat]);(repeat' first|refine Gu ?_|(with_reducible first|refine Gn fun b h=>?_|rintro px rfl|refine fun(h:H)=>?_|intro hb)|refine Gs ?_|refine Gt ?_|exact Gz rfl|fail))
 refine Ys fun o=>(?_:Tr _ _ _ _) o;(try simp only[Nr,Nl,Nat.reduceAdd,Nat.reduceMul,Int.reduceToNat])
 cases hk:okF f with
 | false =>
  (repeat' first|refine Gu ?_|(with_reducible first|refine Gn fun b h=>?_|apply Gx|apply Gy|rintro px rfl|refine fun(h:H)=>?_|intro hb)|refine Gs ?_|refine Gt ?_|exact Gz rfl|fail)
  refine Ys fun o=>?_
  exact .inr ⟨rfl,rfl,o.sub⟩
 | true =>
  (repeat' first|refine Gu ?_|(with_reducible first|refine Gn fun b h=>?_|apply Gx|apply Gy|rintro px rfl|refine fun(h:H)=>?_|intro hb)|refine Gs ?_|refine Gt ?_|exact Gz rfl|fail)
  refine Ys fun o=>?_
  simp only [if_true] at o
  exact .inl ⟨rfl,_,rfl,o.sub⟩
theorem H81:Ct D2 Ap8 [int 8,.func (.func Ar8) ⟨[]⟩ ⟨[]⟩,.func (.func Ar6) ⟨[]⟩ ⟨[]⟩] [] fun v own=>∃ k,v=P0 k∧own [pt k (.cells Ak0 false [int 8,.func (.func Ar8) ⟨[]⟩ ⟨[]⟩,.func (.func Ar6) ⟨[]⟩ ⟨[]⟩])]:=by
 refine Ct.of Ea3 rfl fun h r=>Tr.eq (Ec8 ..) ?_;(try simp only[Nr,Nl,Nat.reduceAdd,Nat.reduceMul,Int.reduceToNat])
 rw [show mm2 false (mm2 true 8 0) 64=8 from rfl]
 (repeat' first|refine Gu ?_|(with_reducible first|refine Gn fun b h=>?_|apply Gx|apply Gy|rintro px rfl|refine fun(h:H)=>?_|intro hb)|refine Gs ?_|refine Gt ?_|exact Gz rfl|fail)
 refine Ys fun o=>?_
 exact ⟨_,rfl,o.sub⟩
theorem Gn6:Ct D2 Bc1 [] [] fun v own=>∃ k,v=P0 k∧own [pt k (.cells Ak0 false [int 8,.func (.func Ar8) ⟨[]⟩ ⟨[]⟩,.func (.func Ar6) ⟨[]⟩ ⟨[]⟩])]:=by
 refine Ct.of Gp9 rfl fun h r=>Tr.eq (Gp3 ..) ?_;(try simp only[Nr,Nl,Nat.reduceAdd,Nat.reduceMul,Int.reduceToNat])
 refine Yc (H81) ?_;rintro _ h ⟨k,rfl,o⟩<;>(refine (?_:Tr _ _ _ _) o;(try simp only[Nr,Nl,Nat.reduceAdd,Nat.reduceMul,Int.reduceToNat]);(repeat' first|refine Gu ?_|(with_reducible first|refine Gn fun b h=>?_|apply Gx|apply Gy|rintro px rfl|refine fun(h:H)=>?_|intro hb)|refine Gs ?_|refine Gt ?_|exact Gz rfl|fail))
 refine Ys fun o=>?_
 exact ⟨_,rfl,o.sub⟩
theorem Ga3 (f:FileS):Ct D2 A59 [.agg ⟨Br5 f⟩] [] fun v own=>(okF f=true∧∃ a,v=.tuple ⟨[.slice a 8 8,.bool true]⟩∧own [slC false B0 1 a 8 8 (A0 (Ai6 f))])∨(okF f=false∧v=.tuple ⟨[.slice none 0 0,.bool false]⟩∧own []):=by
 refine Ct.of Gh5 rfl fun h r=>Tr.eq (Ge7 ..) ?_;(try simp only[Nr,Nl,Nat.reduceAdd,Nat.reduceMul,Int.reduceToNat])
 (repeat' first|refine Gu ?_|(with_reducible first|refine Gn fun b h=>?_|apply Gx|apply Gy|rintro px rfl|refine fun(h:H)=>?_|intro hb)|refine Gs ?_|refine Gt ?_|exact Gz rfl|fail)
 refine Yc (Gn6) ?_;rintro _ h ⟨k,rfl,o⟩<;>(refine (?_:Tr _ _ _ _) o;(try simp only[Nr,Nl,Nat.reduceAdd,Nat.reduceMul,Int.reduceToNat]);(repeat' first|refine Gu ?_|(with_reducible first|refine Gn fun b h=>?_|apply Gx|apply Gy|rintro px rfl|refine fun(h:H)=>?_|intro hb)|refine Gs ?_|refine Gt ?_|exact Gz rfl|fail))
 refine Tr.same (Dv0 rfl) ?_
 refine Yc (Ha8 k f) ?_
 rintro v h (⟨hk,a,rfl,o⟩|⟨hk,rfl,o⟩)
 ·refine (?_:Tr _ _ _ _) o
  (try simp only[Nr,Nl,Nat.reduceAdd,Nat.reduceMul,Int.reduceToNat])
  (repeat' first|refine Gu ?_|(with_reducible first|refine Gn fun b h=>?_|apply Gx|apply Gy|rintro px rfl|refine fun(h:H)=>?_|intro hb)|refine Gs ?_|refine Gt ?_|exact Gz rfl|fail)
  refine Ys fun o=>?_
  exact .inl ⟨hk,a,rfl,o.sub⟩
 ·refine (?_:Tr _ _ _ _) o
  (try simp only[Nr,Nl,Nat.reduceAdd,Nat.reduceMul,Int.reduceToNat])
  (repeat' first|refine Gu ?_|(with_reducible first|refine Gn fun b h=>?_|apply Gx|apply Gy|rintro px rfl|refine fun(h:H)=>?_|intro hb)|refine Gs ?_|refine Gt ?_|exact Gz rfl|fail)
  refine Ys fun o=>?_
  exact .inr ⟨hk,rfl,o.sub⟩
theorem Ad8 {l:List UInt8} {i:Nat} (h:i<l.length):(A0 l)[i]?=some (.int .u8 ((l.getD i 0).toNat:Int)):=by
 rw [List.getD_eq_getElem?_getD,List.getElem?_eq_getElem h];exact D14 (List.getElem?_eq_getElem h)
theorem An2 (x:UInt8):IntKind.wrap .i64 (x.toNat:Int)=(x.toNat:Int):=by
 have:=x.toNat_lt;rw [D1];omega
abbrev byI (l:List UInt8) (i:Nat):Int:=((l.getD i 0).toNat:Int)
def B73 (l:List UInt8):FileS:=⟨byI l 0,byI l 1,byI l 2,byI l 3⟩
def isF (l:List UInt8):Bool:=okF (B73 l) && decide (Ai6 (B73 l)=l)
theorem H86 (a:Option Addr) (c:Nat) (l:List UInt8) (hl:l.length=8):Ct D2 Ar6 [.slice a 8 c] [slC false B0 1 a 8 c (A0 l)] fun v own=>v=.tuple ⟨[.agg ⟨Br5 (B73 l)⟩,.bool (isF l)]⟩∧own [slC false B0 1 a 8 c (A0 l)]:=by
 have key:∀ a1:Option Addr,CtP D2 E3 [.slice a1 8 8,.slice a 8 c] [slC false B0 1 a1 8 8 (A0 (Ai6 (B73 l))),slC false B0 1 a 8 c (A0 l)] (.bool (decide (Ai6 (B73 l)=l))):=fun a1=>by
  have J:=Em0 (slC false B0 1 a1 8 8 (A0 (Ai6 (B73 l)))) (slC false B0 1 a l.length c (A0 l)) a1 false 8 a false c (Ai6 (B73 l)) l (by simp [Ai6,A86,D3])
  rwa [hl,show (Ai6 (B73 l)).length=8 from rfl] at J
 refine Ct.of G84 rfl fun h r=>Tr.eq (G82 ..) ?_;(try simp only[Nr,Nl,Nat.reduceAdd,Nat.reduceMul,Int.reduceToNat])
 refine Yn fun b1 h=>?_
 (repeat' first|refine Gu ?_|(with_reducible first|refine Gn fun b h=>?_|apply Gx|apply Gy|rintro px rfl|refine fun(h:H)=>?_|intro hb)|refine Gs ?_|refine Gt ?_|exact Gz rfl|fail)
 refine Tr.xIntS (v:=byI l 0) (Ad8 (by omega)) ?_
 (repeat' first|refine Gu ?_|(with_reducible first|refine Gn fun b h=>?_|apply Gx|apply Gy|rintro px rfl|refine fun(h:H)=>?_|intro hb)|refine Gs ?_|refine Gt ?_|exact Gz rfl|fail)
 refine Tr.xIntS (v:=byI l 1) (Ad8 (by omega)) ?_
 (repeat' first|refine Gu ?_|(with_reducible first|refine Gn fun b h=>?_|apply Gx|apply Gy|rintro px rfl|refine fun(h:H)=>?_|intro hb)|refine Gs ?_|refine Gt ?_|exact Gz rfl|fail)
 refine Tr.xIntS (v:=byI l 2) (Ad8 (by omega)) ?_
 (repeat' first|refine Gu ?_|(with_reducible first|refine Gn fun b h=>?_|apply Gx|apply Gy|rintro px rfl|refine fun(h:H)=>?_|intro hb)|refine Gs ?_|refine Gt ?_|exact Gz rfl|fail)
 refine Tr.xIntS (v:=byI l 3) (Ad8 (by omega)) ?_
 simp only [byI,An2]
 refine Yn fun b2 h=>?_
 (repeat' first|refine Gu ?_|(with_reducible first|refine Gn fun b h=>?_|rintro px rfl|refine fun(h:H)=>?_|intro hb)|refine Gs ?_|refine Gt ?_|exact Gz rfl|fail)
 refine Yc (Ga3 (B73 l)) ?_
 rintro v h (⟨hk,a1,rfl,o⟩|⟨hk,rfl,o⟩)
 ·refine (?_:Tr _ _ _ _) o
  (try simp only[Nr,Nl,Nat.reduceAdd,Nat.reduceMul,Int.reduceToNat])
  (repeat' first|refine Gu ?_|(with_reducible first|refine Gn fun b h=>?_|rintro px rfl|refine fun(h:H)=>?_|intro hb)|refine Gs ?_|refine Gt ?_|exact Gz rfl|fail)
  refine Yb (Yt rfl ?_)
  refine Tr.pcall (key a1) ?_;(try simp only[Nr,Nl,Nat.reduceAdd,Nat.reduceMul,Int.reduceToNat]);(repeat' first|refine Gu ?_|(with_reducible first|refine Gn fun b h=>?_|rintro px rfl|refine fun(h:H)=>?_|intro hb)|refine Gs ?_|refine Gt ?_|exact Gz rfl|fail)
  refine Tr.same (Dv0 rfl) ?_
  refine Ys fun o=>(?_:Tr _ _ _ _) o;(try simp only[Nr,Nl,Nat.reduceAdd,Nat.reduceMul,Int.reduceToNat])
  (repeat' first|refine Gu ?_|(with_reducible first|refine Gn fun b h=>?_|apply Gx|apply Gy|rintro px rfl|refine fun(h:H)=>?_|intro hb)|refine Gs ?_|refine Gt ?_|exact Gz rfl|fail)
  refine Ys fun o=>?_
  exact ⟨by unfold isF;rw [hk,Bool.true_and];rfl,o.sub⟩
 ·refine (?_:Tr _ _ _ _) o
  (try simp only[Nr,Nl,Nat.reduceAdd,Nat.reduceMul,Int.reduceToNat])
  (repeat' first|refine Gu ?_|(with_reducible first|refine Gn fun b h=>?_|apply Gx|apply Gy|rintro px rfl|refine fun(h:H)=>?_|intro hb)|refine Gs ?_|refine Gt ?_|exact Gz rfl|fail)
  refine Ys fun o=>?_
  exact ⟨by unfold isF;rw [hk];rfl,o.sub⟩
theorem Ep1 (n:Nat) (a:Option Addr) (c:Nat) (l:List UInt8) (hl:l.length=n) (hn:n≤D3):Ct D2 H1 [.slice a n c] [slC false B0 1 a n c (A0 l)] fun v own=>∃ a' c',v=.slice a' n c'∧own [slC false B0 1 a' n c' (A0 l),slC false B0 1 a n c (A0 l)]:=by
 subst hl;exact Hr9 (slC false B0 1 a l.length c (A0 l)) false a c l hn
theorem Eo1 (n:Nat) (a:Option Addr) (c:Nat) (l:List UInt8) (hl:l.length=n) (hn:n≤D3):CtP D2 Am6 [.slice a n c] [slC false B0 1 a n c (A0 l)] (.bool (l.all (·==0))):=by
 subst hl;exact Hz7 (slC false B0 1 a l.length c (A0 l)) a false c l hn
theorem Hc9 (k:Nat) (a:Option Addr) (c:Nat) (l:List UInt8) (hl:l.length=8):Ct D2 V6 [P0 k,.slice a 8 c] [Gv8 k,slC false B0 1 a 8 c (A0 l)] fun v own=>v=.tuple ⟨[.agg ⟨Br5 (if isF l then B73 l else .zero)⟩,.bool (isF l)]⟩∧own [Gv8 k,slC false B0 1 a 8 c (A0 l)]:=by
 refine Ct.of B45 rfl fun h r=>Tr.eq (B37 ..) ?_;(try simp only[Nr,Nl,Nat.reduceAdd,Nat.reduceMul,Int.reduceToNat])
 (repeat' first|refine Gu ?_|(with_reducible first|refine Gn fun b h=>?_|apply Gx|apply Gy|rintro px rfl|refine fun(h:H)=>?_|intro hb)|refine Gs ?_|refine Gt ?_|exact Gz rfl|fail)
 refine Yf rfl ?_
 (repeat' first|refine Gu ?_|(with_reducible first|refine Gn fun b h=>?_|rintro px rfl|refine fun(h:H)=>?_|intro hb)|refine Gs ?_|refine Gt ?_|exact Gz rfl|fail)
 refine Yc (Ep1 8 a c l hl (by simp [D3])) ?_;rintro _ h ⟨a1,c1,rfl,o⟩<;>(refine (?_:Tr _ _ _ _) o;(try simp only[Nr,Nl,Nat.reduceAdd,Nat.reduceMul,Int.reduceToNat]);(repeat' first|refine Gu ?_|(with_reducible first|refine Gn fun b h=>?_|rintro px rfl|refine fun(h:H)=>?_|intro hb)|refine Gs ?_|refine Gt ?_|exact Gz rfl|fail))
 refine Yc (H86 a1 c1 l hl) ?_;rintro _ h ⟨rfl,o⟩<;>(refine (?_:Tr _ _ _ _) o;(try simp only[Nr,Nl,Nat.reduceAdd,Nat.reduceMul,Int.reduceToNat]);(repeat' first|refine Gu ?_|(with_reducible first|refine Gn fun b h=>?_|rintro px rfl|refine fun(h:H)=>?_|intro hb)|refine Gs ?_|refine Gt ?_|exact Gz rfl|fail))
 cases hk:isF l with
 | false =>
  (repeat' first|refine Gu ?_|(with_reducible first|refine Gn fun b h=>?_|apply Gx|apply Gy|rintro px rfl|refine fun(h:H)=>?_|intro hb)|refine Gs ?_|refine Gt ?_|exact Gz rfl|fail)
  refine Ys fun o=>?_
  exact ⟨rfl,o.sub⟩
 | true =>
  (repeat' first|refine Gu ?_|(with_reducible first|refine Gn fun b h=>?_|apply Gx|apply Gy|rintro px rfl|refine fun(h:H)=>?_|intro hb)|refine Gs ?_|refine Gt ?_|exact Gz rfl|fail)
  refine Ys fun o=>?_
  exact ⟨rfl,o.sub⟩
def Z2 (l:List UInt8):FileS × Int:=if l.all (·==0) then (.zero,0) else if isF l then (B73 l,1) else (.zero,2)
theorem Hg8 (a:Option Addr) (c:Nat) (l:List UInt8) (hl:l.length=8):Ct D2 A56 [.slice a 8 c] [slC false B0 1 a 8 c (A0 l)] fun v own=>v=.tuple ⟨[.agg ⟨Br5 (Z2 l).1⟩,int (Z2 l).2]⟩∧own [slC false B0 1 a 8 c (A0 l)]:=by
 refine Ct.of Gi9 rfl fun h r=>Tr.eq (Gi0 ..) ?_;(try simp only[Nr,Nl,Nat.reduceAdd,Nat.reduceMul,Int.reduceToNat])
 refine Yn fun b1 h=>?_
 refine Yb (Yt rfl ?_)
 refine Tr.pcall (Eo1 8 a c l hl (by simp [D3])) ?_;(try simp only[Nr,Nl,Nat.reduceAdd,Nat.reduceMul,Int.reduceToNat]);(repeat' first|refine Gu ?_|(with_reducible first|refine Gn fun b h=>?_|rintro px rfl|refine fun(h:H)=>?_|intro hb)|refine Gs ?_|refine Gt ?_|exact Gz rfl|fail)
 refine Ys fun o=>(?_:Tr _ _ _ _) o;(try simp only[Nr,Nl,Nat.reduceAdd,Nat.reduceMul,Int.reduceToNat])
 cases hb:l.all (·==0) with
 | true =>
  (repeat' first|refine Gu ?_|(with_reducible first|refine Gn fun b h=>?_|apply Gx|apply Gy|rintro px rfl|refine fun(h:H)=>?_|intro hb)|refine Gs ?_|refine Gt ?_|exact Gz rfl|fail)
  refine Ys fun o=>?_
  exact ⟨by unfold Z2;rw [hb];rfl,o.sub⟩
 | false =>
  (repeat' first|refine Gu ?_|(with_reducible first|refine Gn fun b h=>?_|rintro px rfl|refine fun(h:H)=>?_|intro hb)|refine Gs ?_|refine Gt ?_|exact Gz rfl|fail)
  refine Yc (Gn6) ?_;rintro _ h ⟨k,rfl,o⟩<;>(refine (?_:Tr _ _ _ _) o;(try simp only[Nr,Nl,Nat.reduceAdd,Nat.reduceMul,Int.reduceToNat]);(repeat' first|refine Gu ?_|(with_reducible first|refine Gn fun b h=>?_|rintro px rfl|refine fun(h:H)=>?_|intro hb)|refine Gs ?_|refine Gt ?_|exact Gz rfl|fail))
  refine Yc (Hc9 k a c l hl) ?_;rintro _ h ⟨rfl,o⟩<;>(refine (?_:Tr _ _ _ _) o;(try simp only[Nr,Nl,Nat.reduceAdd,Nat.reduceMul,Int.reduceToNat]);(repeat' first|refine Gu ?_|(with_reducible first|refine Gn fun b h=>?_|rintro px rfl|refine fun(h:H)=>?_|intro hb)|refine Gs ?_|refine Gt ?_|exact Gz rfl|fail))
  cases hk:isF l with
  | false =>
   (repeat' first|refine Gu ?_|(with_reducible first|refine Gn fun b h=>?_|apply Gx|apply Gy|rintro px rfl|refine fun(h:H)=>?_|intro hb)|refine Gs ?_|refine Gt ?_|exact Gz rfl|fail)
   refine Ys fun o=>?_
   exact ⟨by unfold Z2;rw [hb,hk];rfl,o.sub⟩
  | true =>
   (repeat' first|refine Gu ?_|(with_reducible first|refine Gn fun b h=>?_|apply Gx|apply Gy|rintro px rfl|refine fun(h:H)=>?_|intro hb)|refine Gs ?_|refine Gt ?_|exact Gz rfl|fail)
   refine Ys fun o=>?_
   exact ⟨by unfold Z2;rw [hb,hk];rfl,o.sub⟩
structure PipeS where
 head:Int
 count:Int
 readers:Int
 writers:Int
 data:List UInt8
 len:data.length=32
abbrev PipeS.zero:PipeS:=⟨0,0,0,0,List.replicate 32 0,rfl⟩
abbrev N7 (p:PipeS):List Value:=int p.head::int p.count::int p.readers::int p.writers::A0 p.data
theorem Dt3 {p:PipeS} (hd:p.data.length=32):(N7 p).length=36:=by simp [N7,U8,hd]
theorem Hm1 {p:PipeS} (hd:p.data.length=32):4+32≤(N7 p).length∧((N7 p).drop 4).take 32=A0 p.data:=⟨by rw [Dt3 hd];exact Nat.le_refl _,by
 rw [show (N7 p).drop 4=A0 p.data from rfl,List.take_of_length_le (by rw [U8,hd];exact Nat.le_refl _)]⟩
theorem Ho8 (p:PipeS):(N7 p).all Value.oneCell=true:=by simp [N7,Ag6,Value.oneCell]
theorem Hk3 (p:PipeS):Aq8 (.agg ⟨N7 p⟩) (.agg ⟨N7 p⟩)=true:=Dv0 (by simp [N7,A0])
instance {p:PipeS}:LenC (N7 p) 36:=⟨Dt3 p.len⟩
instance {p:PipeS}:PartC (N7 p) 0 36 (N7 p):=⟨Bx1 (Dt3 p.len)⟩
instance {p:PipeS} {cs:List Value} [k:LenC cs 36]:SetsC cs 0 (N7 p) (N7 p):=⟨Bv7 k.ok (Dt3 p.len) (Ho8 p)⟩
instance {p:PipeS}:SameC (.agg ⟨N7 p⟩):=⟨Hk3 p⟩
def okP (p:PipeS):Bool:=decide (0≤p.head∧p.head≤31) && decide (0≤p.count∧p.count≤32) && decide (0≤p.readers∧p.readers≤8) && decide (0≤p.writers∧p.writers≤8)
def Ai2 (p:PipeS):List UInt8:=[1,b8 p.head,b8 p.count,b8 p.readers,b8 p.writers,197]
def L1 (p:PipeS):List UInt8:=Ai2 p++Bt3 (Ai2 p)::0::p.data
theorem Bu9 {p:PipeS} (hd:p.data.length=32):(L1 p).length=40:=by simp [L1,Ai2,hd]
theorem Ib0 (n m:Int):CtP D2 Ar7 [int n,int m] [] (.bool (decide (0≤n∧n≤m))):=by
 refine CtP.of G66 rfl fun h r=>Tr.eq (G76 ..) ?_;(try simp only[Nr,Nl,Nat.reduceAdd,Nat.reduceMul,Int.reduceToNat])
 (repeat' first|refine Gu ?_|(with_reducible first|refine Gn fun b h=>?_|apply Gx|apply Gy|rintro px rfl|refine fun(h:H)=>?_|intro hb)|refine Gs ?_|refine Gt ?_|exact Gz rfl|fail)
 refine Ys fun o=>?_
 refine ⟨?_,rfl⟩
 refine congrArg Value.bool ?_;rw [Bool.eq_iff_iff];simp only [Bool.and_eq_true,Bool.or_eq_true,Bool.not_eq_true',Bool.not_eq_false',decide_eq_true_eq,decide_eq_false_iff_not,bne_iff_ne,beq_iff_eq,ne_eq,D1,Y8,Ad1,ge_iff_le,gt_iff_lt];first|done|omega
instance {n m:Int} {l:List HP}:PCi D2 Ar7 [.int .i64 n,.int .i64 m] l (.bool (decide (0≤n∧n≤m))):=PCi.of (Ib0 n m)
theorem Ib7 (p:PipeS):Ct D2 Dt7 [.agg ⟨N7 p⟩] [] fun v own=>v=.bool (okP p)∧own []:=by
 refine Ct.of Hv0 rfl fun h r=>Tr.eq (Ht2 ..) ?_;(try simp only[Nr,Nl,Nat.reduceAdd,Nat.reduceMul,Int.reduceToNat])
 (repeat' first|refine Gu ?_|(with_reducible first|refine Gn fun b h=>?_|apply Gx|apply Gy|rintro px rfl|refine fun(h:H)=>?_|intro hb)|refine Gs ?_|refine Gt ?_|exact Gz rfl|fail)
 refine Ys fun o=>?_
 exact ⟨rfl,o.sub⟩
theorem H77 (a:Option Addr) (c:Nat) (p:PipeS):Ct D2 Bl4 [.agg ⟨N7 p⟩,.slice a 40 c] [slC false B0 1 a 40 c (A0 (List.replicate 40 0))] fun v own=>v=.bool (okP p)∧own [slC false B0 1 a 40 c (A0 (if okP p then L1 p else List.replicate 40 0))]:=by
 have hd:=p.len
 refine Ct.of Hl4 rfl fun h r=>Tr.eq (Hn8 ..) ?_;(try simp only[Nr,Nl,Nat.reduceAdd,Nat.reduceMul,Int.reduceToNat])
 refine Yn fun b1 h=>?_
 (repeat' first|refine Gu ?_|(with_reducible first|refine Gn fun b h=>?_|apply Gx|apply Gy|rintro px rfl|refine fun(h:H)=>?_|intro hb)|refine Gs ?_|refine Gt ?_|exact Gz rfl|fail)
 refine Yc (Ib7 p) ?_;rintro _ h ⟨rfl,o⟩<;>(refine (?_:Tr _ _ _ _) o;(try simp only[Nr,Nl,Nat.reduceAdd,Nat.reduceMul,Int.reduceToNat]);(repeat' first|refine Gu ?_|(with_reducible first|refine Gn fun b h=>?_|rintro px rfl|refine fun(h:H)=>?_|intro hb)|refine Gs ?_|refine Gt ?_|exact Gz rfl|fail))
 cases hk:okP p with
 | false =>
  (repeat' first|refine Gu ?_|(with_reducible first|refine Gn fun b h=>?_|apply Gx|apply Gy|rintro px rfl|refine fun(h:H)=>?_|intro hb)|refine Gs ?_|refine Gt ?_|exact Gz rfl|fail)
  refine Ys fun o=>?_
  rw [if_neg (by simp)]
  exact ⟨rfl,o.sub⟩
 | true =>
  (repeat' first|refine Gu ?_|(with_reducible first|refine Gn fun b h=>?_|apply Gx|apply Gy|rintro px rfl|refine fun(h:H)=>?_|intro hb)|refine Gs ?_|refine Gt ?_|exact Gz rfl|fail)
  simp only [Bg9,List.drop_zero,List.take]
  refine Aa0 2 rfl fun hl hc _=>?_
  refine Tr.xPCells (cs':=A0 (Ai2 p++List.replicate 34 0)) (by omega) ⟨by simp,by simp [A0],by simp [Value.oneCell],rfl⟩ fun h=>?_
  (repeat' first|refine Gu ?_|(with_reducible first|refine Gn fun b h=>?_|apply Gx|apply Gy|rintro px rfl|refine fun(h:H)=>?_|intro hb)|refine Gs ?_|refine Gt ?_|exact Gz rfl|fail)
  refine Tr.pcall (Gc6 (slC false B0 1 a 40 c (A0 (Ai2 p++List.replicate 34 0))) a false 40 c c (Ai2 p++List.replicate 34 0) 6 (by simp [Ai2]) (by simp [Ai2,D3])) ?_
  (try simp only[Nr,Nl,Nat.reduceAdd,Nat.reduceMul,Int.reduceToNat])
  (repeat' first|refine Gu ?_|(with_reducible first|refine Gn fun b h=>?_|apply Gx|apply Gy|rintro px rfl|refine fun(h:H)=>?_|intro hb)|refine Gs ?_|refine Gt ?_|exact Gz rfl|fail)
  rw [show List.take 6 (Ai2 p++List.replicate 34 0:List UInt8)=Ai2 p from rfl,Dm6]
  refine Tr.xVS (cs':=A0 (Ai2 p++Bt3 (Ai2 p)::List.replicate 33 0)) ⟨by simp [A0,Ai2],rfl,rfl⟩ fun h=>?_
  (repeat' first|refine Gu ?_|(with_reducible first|refine Gn fun b h=>?_|apply Gx|apply Gy|rintro px rfl|refine fun(h:H)=>?_|intro hb)|refine Gs ?_|refine Gt ?_|exact Gz rfl|fail)
  refine Tr.xCellsB (xs:=A0 p.data) (Hm1 p.len) ?_
  rw [Gj6 (by omega),Eh3]
  refine Tr.xPAggS (cs':=A0 (L1 p)) ⟨?_,?_,Ag6 _,?_⟩ fun h=>?_
  ·intro e;have:=congrArg List.length e;simp [A0,hd] at this
  ·simp [A0,hd,Ai2]
  ·rw [U8,hd]
   simp [A0,L1,Ai2]
  refine Ys fun o=>?_
  simp only [if_true]
  exact ⟨trivial,o.sub⟩
abbrev E59 (k:Nat):HP:=pt k (.cells Bp8 false [int 40,.func (.func Bl4) ⟨[]⟩ ⟨[]⟩,.func (.func Bk9) ⟨[]⟩ ⟨[]⟩])
theorem G96 (k:Nat) (f:PipeS):Ct D2 V7 [P0 k,.agg ⟨N7 f⟩] [E59 k] fun v own=>(okP f=true∧∃ a,v=.tuple ⟨[.slice a 40 40,.bool true]⟩∧own [E59 k,slC false B0 1 a 40 40 (A0 (L1 f))])∨(okP f=false∧v=.tuple ⟨[.slice none 0 0,.bool false]⟩∧own [E59 k]):=by
 refine Ct.of B36 rfl fun h r=>Tr.eq (B34 ..) ?_;(try simp only[Nr,Nl,Nat.reduceAdd,Nat.reduceMul,Int.reduceToNat])
 (repeat' first|refine Gu ?_|(with_reducible first|refine Gn fun b h=>?_|apply Gx|apply Gy|rintro px rfl|refine fun(h:H)=>?_|intro hb)|refine Gs ?_|refine Gt ?_|exact Gz rfl|fail)
 refine Tr.ck ⟨by omega,by omega,by simp [D3]⟩ ?_
 refine Yn fun b1 h=>?_
 rw [show I0 (Int.toNat 40) [.int .u8 0]=A0 (List.replicate 40 0) from rfl]
 refine Aj1 0 rfl 1 40 rfl (by omega) ?_
 simp only [List.set_cons_zero]
 (try simp only[Nr,Nl,Nat.reduceAdd,Nat.reduceMul,Int.reduceToNat])
 (repeat' first|refine Gu ?_|(with_reducible first|refine Gn fun b h=>?_|rintro px rfl|refine fun(h:H)=>?_|intro hb)|refine Gs ?_|refine Gt ?_|exact Gz rfl|fail)
 refine Yb (Yf rfl ?_)
 (repeat' first|refine Gu ?_|(with_reducible first|refine Gn fun b h=>?_|rintro px rfl|refine fun(h:H)=>?_|intro hb)|refine Gs ?_|refine Gt ?_|exact Gz rfl|fail)
 refine Yc (H77 (some ⟨b1,0,none⟩) 40 f) ?_;rintro _ h ⟨rfl,o⟩<;>(refine (?_:Tr _ _ _ _) o;(try simp only[Nr,Nl,Nat.reduceAdd,Nat.reduceMul,Int.reduceToNat]);(repeat' first|refine Gu ?_|(with_reducible first|refine Gn fun b h=>?_|rintro px rfl|refine fun(h:H)=>?_|intro hb)|refine Gs ?_|refine Gt ?_|exact Gz rfl|fail))
 refine Ys fun o=>(?_:Tr _ _ _ _) o;(try simp only[Nr,Nl,Nat.reduceAdd,Nat.reduceMul,Int.reduceToNat])
 cases hk:okP f with
 | false =>
  (repeat' first|refine Gu ?_|(with_reducible first|refine Gn fun b h=>?_|apply Gx|apply Gy|rintro px rfl|refine fun(h:H)=>?_|intro hb)|refine Gs ?_|refine Gt ?_|exact Gz rfl|fail)
  refine Ys fun o=>?_
  exact .inr ⟨rfl,rfl,o.sub⟩
 | true =>
  (repeat' first|refine Gu ?_|(with_reducible first|refine Gn fun b h=>?_|apply Gx|apply Gy|rintro px rfl|refine fun(h:H)=>?_|intro hb)|refine Gs ?_|refine Gt ?_|exact Gz rfl|fail)
  refine Ys fun o=>?_
  simp only [if_true] at o
  exact .inl ⟨rfl,_,rfl,o.sub⟩
theorem H98:Ct D2 An9 [int 40,.func (.func Bl4) ⟨[]⟩ ⟨[]⟩,.func (.func Bk9) ⟨[]⟩ ⟨[]⟩] [] fun v own=>∃ k,v=P0 k∧own [E59 k]:=by
 refine Ct.of D72 rfl fun h r=>Tr.eq (D89 ..) ?_;(try simp only[Nr,Nl,Nat.reduceAdd,Nat.reduceMul,Int.reduceToNat])
 rw [show mm2 false (mm2 true 40 0) 64=40 from rfl]
 (repeat' first|refine Gu ?_|(with_reducible first|refine Gn fun b h=>?_|apply Gx|apply Gy|rintro px rfl|refine fun(h:H)=>?_|intro hb)|refine Gs ?_|refine Gt ?_|exact Gz rfl|fail)
 refine Ys fun o=>?_
 exact ⟨_,rfl,o.sub⟩
theorem Gl4:Ct D2 Bg8 [] [] fun v own=>∃ k,v=P0 k∧own [E59 k]:=by
 refine Ct.of G55 rfl fun h r=>Tr.eq (Gv2 ..) ?_;(try simp only[Nr,Nl,Nat.reduceAdd,Nat.reduceMul,Int.reduceToNat])
 refine Yc (H98) ?_;rintro _ h ⟨k,rfl,o⟩<;>(refine (?_:Tr _ _ _ _) o;(try simp only[Nr,Nl,Nat.reduceAdd,Nat.reduceMul,Int.reduceToNat]);(repeat' first|refine Gu ?_|(with_reducible first|refine Gn fun b h=>?_|apply Gx|apply Gy|rintro px rfl|refine fun(h:H)=>?_|intro hb)|refine Gs ?_|refine Gt ?_|exact Gz rfl|fail))
 refine Ys fun o=>?_
 exact ⟨_,rfl,o.sub⟩
theorem E71 (f:PipeS):Ct D2 Ba6 [.agg ⟨N7 f⟩] [] fun v own=>(okP f=true∧∃ a,v=.tuple ⟨[.slice a 40 40,.bool true]⟩∧own [slC false B0 1 a 40 40 (A0 (L1 f))])∨(okP f=false∧v=.tuple ⟨[.slice none 0 0,.bool false]⟩∧own []):=by
 refine Ct.of Gq5 rfl fun h r=>Tr.eq (Gq1 ..) ?_;(try simp only[Nr,Nl,Nat.reduceAdd,Nat.reduceMul,Int.reduceToNat])
 refine Yn fun b1 h=>?_
 (repeat' first|refine Gu ?_|(with_reducible first|refine Gn fun b h=>?_|apply Gx|apply Gy|rintro px rfl|refine fun(h:H)=>?_|intro hb)|refine Gs ?_|refine Gt ?_|exact Gz rfl|fail)
 refine Yc (Gl4) ?_;rintro _ h ⟨k,rfl,o⟩<;>(refine (?_:Tr _ _ _ _) o;(try simp only[Nr,Nl,Nat.reduceAdd,Nat.reduceMul,Int.reduceToNat]);(repeat' first|refine Gu ?_|(with_reducible first|refine Gn fun b h=>?_|rintro px rfl|refine fun(h:H)=>?_|intro hb)|refine Gs ?_|refine Gt ?_|exact Gz rfl|fail))
 (repeat' first|refine Gu ?_|(with_reducible first|refine Gn fun b h=>?_|apply Gx|apply Gy|rintro px rfl|refine fun(h:H)=>?_|intro hb)|refine Gs ?_|refine Gt ?_|exact Gz rfl|fail)
 refine Yc (G96 k f) ?_
 rintro v h (⟨hk,a,rfl,o⟩|⟨hk,rfl,o⟩)
 ·refine (?_:Tr _ _ _ _) o
  (try simp only[Nr,Nl,Nat.reduceAdd,Nat.reduceMul,Int.reduceToNat])
  (repeat' first|refine Gu ?_|(with_reducible first|refine Gn fun b h=>?_|apply Gx|apply Gy|rintro px rfl|refine fun(h:H)=>?_|intro hb)|refine Gs ?_|refine Gt ?_|exact Gz rfl|fail)
  refine Ys fun o=>?_
  exact .inl ⟨hk,a,rfl,o.sub⟩
 ·refine (?_:Tr _ _ _ _) o
  (try simp only[Nr,Nl,Nat.reduceAdd,Nat.reduceMul,Int.reduceToNat])
  (repeat' first|refine Gu ?_|(with_reducible first|refine Gn fun b h=>?_|apply Gx|apply Gy|rintro px rfl|refine fun(h:H)=>?_|intro hb)|refine Gs ?_|refine Gt ?_|exact Gz rfl|fail)
  refine Ys fun o=>?_
  exact .inr ⟨hk,rfl,o.sub⟩
def Dw3 (l:List UInt8):List UInt8:=(l++List.replicate 32 0).take 32
theorem Hx5 (l:List UInt8):(Dw3 l).length=32:=by simp [Dw3]
theorem D56 {l:List UInt8} (h:l.length=32):Dw3 l=l:=by simp [Dw3,← h]
def Bd2 (l:List UInt8):PipeS:=⟨byI l 1,byI l 2,byI l 3,byI l 4,Dw3 (l.drop 8),Hx5 _⟩
def isP (l:List UInt8):Bool:=okP (Bd2 l) && decide (L1 (Bd2 l)=l)
theorem H95 (a:Option Addr) (c:Nat) (l:List UInt8) (hl:l.length=40):Ct D2 Bk9 [.slice a 40 c] [slC false B0 1 a 40 c (A0 l)] fun v own=>v=.tuple ⟨[.agg ⟨N7 (Bd2 l)⟩,.bool (isP l)]⟩∧own [slC false B0 1 a 40 c (A0 l)]:=by
 have hd:=(Bd2 l).len
 have hp:Dw3 (l.drop 8)=l.drop 8:=D56 (by simp [hl])
 have key:∀ a1:Option Addr,CtP D2 E3 [.slice a1 40 40,.slice a 40 c] [slC false B0 1 a1 40 40 (A0 (L1 (Bd2 l))),slC false B0 1 a 40 c (A0 l)] (.bool (decide (L1 (Bd2 l)=l))):=fun a1=>by
  have e:=Bu9 hd
  have J:=Em0 (slC false B0 1 a1 (L1 (Bd2 l)).length 40 (A0 (L1 (Bd2 l)))) (slC false B0 1 a l.length c (A0 l)) a1 false 40 a false c (L1 (Bd2 l)) l (by rw [e];simp [D3])
  rwa [hl,e] at J
 refine Ct.of Hi7 rfl fun h r=>Tr.eq (Hl9 ..) ?_;(try simp only[Nr,Nl,Nat.reduceAdd,Nat.reduceMul,Int.reduceToNat])
 refine Yn fun b1 h=>?_
 refine Aa0 1 rfl fun hl2 hc2 _=>?_
 (repeat' first|refine Gu ?_|(with_reducible first|refine Gn fun b h=>?_|apply Gx|apply Gy|rintro px rfl|refine fun(h:H)=>?_|intro hb)|refine Gs ?_|refine Gt ?_|exact Gz rfl|fail)
 refine Tr.xIntS (v:=byI l 1) (Ad8 (by omega)) ?_
 (repeat' first|refine Gu ?_|(with_reducible first|refine Gn fun b h=>?_|apply Gx|apply Gy|rintro px rfl|refine fun(h:H)=>?_|intro hb)|refine Gs ?_|refine Gt ?_|exact Gz rfl|fail)
 refine Tr.xIntS (v:=byI l 2) (Ad8 (by omega)) ?_
 (repeat' first|refine Gu ?_|(with_reducible first|refine Gn fun b h=>?_|apply Gx|apply Gy|rintro px rfl|refine fun(h:H)=>?_|intro hb)|refine Gs ?_|refine Gt ?_|exact Gz rfl|fail)
 refine Tr.xIntS (v:=byI l 3) (Ad8 (by omega)) ?_
 (repeat' first|refine Gu ?_|(with_reducible first|refine Gn fun b h=>?_|apply Gx|apply Gy|rintro px rfl|refine fun(h:H)=>?_|intro hb)|refine Gs ?_|refine Gt ?_|exact Gz rfl|fail)
 refine Tr.xIntS (v:=byI l 4) (Ad8 (by omega)) ?_
 simp only [byI,An2]
 refine Yn fun b2 h=>?_
 (repeat' first|refine Gu ?_|(with_reducible first|refine Gn fun b h=>?_|rintro px rfl|refine fun(h:H)=>?_|intro hb)|refine Gs ?_|refine Gt ?_|exact Gz rfl|fail)
 rw [Gj6 (show 8<c by omega),G38]
 refine Tr.xAggS (xs:=A0 (l.drop 8)) ⟨by omega,by simp [U8,hl],?_⟩ ?_
 ·rw [B64,List.take_of_length_le (by simp [U8,hl])]
 rw [show pCells (some (⟨b2,4,none⟩:Addr))=pAgg ⟨b2,4,none⟩ from rfl]
 refine Tr.xPAgg (cs':=N7 (Bd2 l)) ⟨by simp [U8,hl],Ag6 _,by simp [N7,Bd2,byI,U8,hl,hp]⟩ fun h=>?_
 (repeat' first|refine Gu ?_|(with_reducible first|refine Gn fun b h=>?_|apply Gx|apply Gy|rintro px rfl|refine fun(h:H)=>?_|intro hb)|refine Gs ?_|refine Gt ?_|exact Gz rfl|fail)
 refine Yc (E71 (Bd2 l)) ?_
 rintro v h (⟨hk,a1,rfl,o⟩|⟨hk,rfl,o⟩)
 ·refine (?_:Tr _ _ _ _) o
  (try simp only[Nr,Nl,Nat.reduceAdd,Nat.reduceMul,Int.reduceToNat])
  (repeat' first|refine Gu ?_|(with_reducible first|refine Gn fun b h=>?_|rintro px rfl|refine fun(h:H)=>?_|intro hb)|refine Gs ?_|refine Gt ?_|exact Gz rfl|fail)
  refine Yb (Yt rfl ?_)
  refine Tr.pcall (key a1) ?_;(try simp only[Nr,Nl,Nat.reduceAdd,Nat.reduceMul,Int.reduceToNat]);(repeat' first|refine Gu ?_|(with_reducible first|refine Gn fun b h=>?_|rintro px rfl|refine fun(h:H)=>?_|intro hb)|refine Gs ?_|refine Gt ?_|exact Gz rfl|fail)
  refine Ys fun o=>(?_:Tr _ _ _ _) o;(try simp only[Nr,Nl,Nat.reduceAdd,Nat.reduceMul,Int.reduceToNat])
  (repeat' first|refine Gu ?_|(with_reducible first|refine Gn fun b h=>?_|apply Gx|apply Gy|rintro px rfl|refine fun(h:H)=>?_|intro hb)|refine Gs ?_|refine Gt ?_|exact Gz rfl|fail)
  refine Ys fun o=>?_
  exact ⟨by unfold isP;rw [hk,Bool.true_and],o.sub⟩
 ·refine (?_:Tr _ _ _ _) o
  (try simp only[Nr,Nl,Nat.reduceAdd,Nat.reduceMul,Int.reduceToNat])
  (repeat' first|refine Gu ?_|(with_reducible first|refine Gn fun b h=>?_|apply Gx|apply Gy|rintro px rfl|refine fun(h:H)=>?_|intro hb)|refine Gs ?_|refine Gt ?_|exact Gz rfl|fail)
  refine Ys fun o=>?_
  exact ⟨by unfold isP;rw [hk];rfl,o.sub⟩
theorem G85 (k:Nat) (a:Option Addr) (c:Nat) (l:List UInt8) (hl:l.length=40):Ct D2 V8 [P0 k,.slice a 40 c] [E59 k,slC false B0 1 a 40 c (A0 l)] fun v own=>v=.tuple ⟨[.agg ⟨N7 (if isP l then Bd2 l else .zero)⟩,.bool (isP l)]⟩∧own [E59 k,slC false B0 1 a 40 c (A0 l)]:=by
 have hd:=(Bd2 l).len
 have hp:Dw3 (l.drop 8)=l.drop 8:=D56 (by simp [hl])
 refine Ct.of B41 rfl fun h r=>Tr.eq (B43 ..) ?_;(try simp only[Nr,Nl,Nat.reduceAdd,Nat.reduceMul,Int.reduceToNat])
 (repeat' first|refine Gu ?_|(with_reducible first|refine Gn fun b h=>?_|apply Gx|apply Gy|rintro px rfl|refine fun(h:H)=>?_|intro hb)|refine Gs ?_|refine Gt ?_|exact Gz rfl|fail)
 refine Yf rfl ?_
 (repeat' first|refine Gu ?_|(with_reducible first|refine Gn fun b h=>?_|rintro px rfl|refine fun(h:H)=>?_|intro hb)|refine Gs ?_|refine Gt ?_|exact Gz rfl|fail)
 refine Yc (Ep1 40 a c l hl (by simp [D3])) ?_;rintro _ h ⟨a1,c1,rfl,o⟩<;>(refine (?_:Tr _ _ _ _) o;(try simp only[Nr,Nl,Nat.reduceAdd,Nat.reduceMul,Int.reduceToNat]);(repeat' first|refine Gu ?_|(with_reducible first|refine Gn fun b h=>?_|rintro px rfl|refine fun(h:H)=>?_|intro hb)|refine Gs ?_|refine Gt ?_|exact Gz rfl|fail))
 refine Yc (H95 a1 c1 l hl) ?_;rintro _ h ⟨rfl,o⟩<;>(refine (?_:Tr _ _ _ _) o;(try simp only[Nr,Nl,Nat.reduceAdd,Nat.reduceMul,Int.reduceToNat]);(repeat' first|refine Gu ?_|(with_reducible first|refine Gn fun b h=>?_|rintro px rfl|refine fun(h:H)=>?_|intro hb)|refine Gs ?_|refine Gt ?_|exact Gz rfl|fail))
 cases hk:isP l with
 | false =>
  (repeat' first|refine Gu ?_|(with_reducible first|refine Gn fun b h=>?_|apply Gx|apply Gy|rintro px rfl|refine fun(h:H)=>?_|intro hb)|refine Gs ?_|refine Gt ?_|exact Gz rfl|fail)
  refine Ys fun o=>?_
  exact ⟨rfl,o.sub⟩
 | true =>
  (repeat' first|refine Gu ?_|(with_reducible first|refine Gn fun b h=>?_|apply Gx|apply Gy|rintro px rfl|refine fun(h:H)=>?_|intro hb)|refine Gs ?_|refine Gt ?_|exact Gz rfl|fail)
  refine Ys fun o=>?_
  exact ⟨rfl,o.sub⟩
def V2 (l:List UInt8):PipeS × Int:=if l.all (·==0) then (.zero,0) else if isP l then (Bd2 l,1) else (.zero,2)
theorem Hm2 (a:Option Addr) (c:Nat) (l:List UInt8) (hl:l.length=40):Ct D2 Aw8 [.slice a 40 c] [slC false B0 1 a 40 c (A0 l)] fun v own=>v=.tuple ⟨[.agg ⟨N7 (V2 l).1⟩,int (V2 l).2]⟩∧own [slC false B0 1 a 40 c (A0 l)]:=by
 have hd:=(Bd2 l).len
 have hp:Dw3 (l.drop 8)=l.drop 8:=D56 (by simp [hl])
 refine Ct.of Gr8 rfl fun h r=>Tr.eq (Gr1 ..) ?_;(try simp only[Nr,Nl,Nat.reduceAdd,Nat.reduceMul,Int.reduceToNat])
 refine Yn fun b1 h=>?_
 refine Yb (Yt rfl ?_)
 refine Tr.pcall (Eo1 40 a c l hl (by simp [D3])) ?_;(try simp only[Nr,Nl,Nat.reduceAdd,Nat.reduceMul,Int.reduceToNat]);(repeat' first|refine Gu ?_|(with_reducible first|refine Gn fun b h=>?_|rintro px rfl|refine fun(h:H)=>?_|intro hb)|refine Gs ?_|refine Gt ?_|exact Gz rfl|fail)
 refine Ys fun o=>(?_:Tr _ _ _ _) o;(try simp only[Nr,Nl,Nat.reduceAdd,Nat.reduceMul,Int.reduceToNat])
 cases hb:l.all (·==0) with
 | true =>
  (repeat' first|refine Gu ?_|(with_reducible first|refine Gn fun b h=>?_|apply Gx|apply Gy|rintro px rfl|refine fun(h:H)=>?_|intro hb)|refine Gs ?_|refine Gt ?_|exact Gz rfl|fail)
  refine Ys fun o=>?_
  exact ⟨by unfold V2;rw [hb];rfl,o.sub⟩
 | false =>
  (repeat' first|refine Gu ?_|(with_reducible first|refine Gn fun b h=>?_|rintro px rfl|refine fun(h:H)=>?_|intro hb)|refine Gs ?_|refine Gt ?_|exact Gz rfl|fail)
  refine Yc (Gl4) ?_;rintro _ h ⟨k,rfl,o⟩<;>(refine (?_:Tr _ _ _ _) o;(try simp only[Nr,Nl,Nat.reduceAdd,Nat.reduceMul,Int.reduceToNat]);(repeat' first|refine Gu ?_|(with_reducible first|refine Gn fun b h=>?_|rintro px rfl|refine fun(h:H)=>?_|intro hb)|refine Gs ?_|refine Gt ?_|exact Gz rfl|fail))
  refine Yc (G85 k a c l hl) ?_;rintro _ h ⟨rfl,o⟩<;>(refine (?_:Tr _ _ _ _) o;(try simp only[Nr,Nl,Nat.reduceAdd,Nat.reduceMul,Int.reduceToNat]);(repeat' first|refine Gu ?_|(with_reducible first|refine Gn fun b h=>?_|rintro px rfl|refine fun(h:H)=>?_|intro hb)|refine Gs ?_|refine Gt ?_|exact Gz rfl|fail))
  cases hk:isP l with
  | false =>
   (repeat' first|refine Gu ?_|(with_reducible first|refine Gn fun b h=>?_|apply Gx|apply Gy|rintro px rfl|refine fun(h:H)=>?_|intro hb)|refine Gs ?_|refine Gt ?_|exact Gz rfl|fail)
   refine Ys fun o=>?_
   exact ⟨by unfold V2;rw [hb,hk];rfl,o.sub⟩
  | true =>
   (repeat' first|refine Gu ?_|(with_reducible first|refine Gn fun b h=>?_|apply Gx|apply Gy|rintro px rfl|refine fun(h:H)=>?_|intro hb)|refine Gs ?_|refine Gt ?_|exact Gz rfl|fail)
   refine Ys fun o=>?_
   exact ⟨by unfold V2;rw [hb,hk];rfl,o.sub⟩
structure ProcS where
 state:Int
 parent:Int
 group:Int
 code:Int
 pending:Int
 mask:Int
 ignored:Int
 caught:Int
 fds:List Int
 len:fds.length=8
abbrev Bs1:List Int:=[0,0,0,0,0,0,0,0]
abbrev ProcS.zero:ProcS:=⟨0,0,0,0,0,0,0,0,Bs1,rfl⟩
abbrev E2 (p:ProcS):List Value:=int p.state::int p.parent::int p.group::int p.code::int p.pending::int p.mask::int p.ignored::int p.caught::p.fds.map int
theorem A70 (p:ProcS):(E2 p).length=16:=by simp [E2,p.len]
theorem Hs3 (p:ProcS):(E2 p).all Value.oneCell=true:=by simp [E2,Value.oneCell]
instance {p:ProcS}:LenC (E2 p) 16:=⟨A70 p⟩
instance {p:ProcS}:PartC (E2 p) 0 16 (E2 p):=⟨Bx1 (A70 p)⟩
instance {p:ProcS}:PartC (E2 p) 8 8 (p.fds.map int):=⟨by
 have h:Nat.ble (8+8) (E2 p).length=true:=by rw [A70];rfl
 have e:((E2 p).drop 8).take 8=p.fds.map int:=by rw [show (E2 p).drop 8=p.fds.map int from rfl,List.take_of_length_le (by simp [p.len])]
 rw [B07,h,e];rfl⟩
instance {p:ProcS} {cs:List Value} [k:LenC cs 16]:SetsC cs 0 (E2 p) (E2 p):=⟨Bv7 k.ok (A70 p) (Hs3 p)⟩
instance {p:ProcS}:SameC (.agg ⟨E2 p⟩):=⟨Dv0 (by simp [E2])⟩
def D64 (n w:Int):Bool:=Ep6 .i64 n 65534==0 && S4 .i64 n w==0
def okS (p:ProcS):Bool :=
 !(decide (p.state<1) || decide (p.state>3) || decide (p.parent<0) || decide (p.parent>8) || decide (p.group<0) || decide (p.group≥8) || decide (p.code<0) || decide (p.code>255)) &&
 (!(!D64 p.pending 0 || !D64 p.mask 16896 || !D64 p.ignored 16896 || !D64 p.caught 16896 || S4 .i64 p.ignored p.caught != 0) &&
 (!(p.fds.any fun f=>decide (f<0) || decide (f>12)) &&
 (if p.state=2 then p.pending==0 && decide (p.fds=Bs1) else p.code==0)))
def hi2 (n:Int):UInt8:=if 0≤n∧n≤65535 then b8 (n / 256) else 0
def lo2 (n:Int):UInt8:=if 0≤n∧n≤65535 then b8 n else 0
abbrev put2 (n:Int):List UInt8:=[hi2 n,lo2 n]
def D70 (p:ProcS):List UInt8:=[b8 p.state,b8 p.parent,b8 p.group,b8 p.code]++(put2 p.pending++(put2 p.mask++(put2 p.ignored++(put2 p.caught++(p.fds.map b8++[167])))))
theorem Hz5 (n:Int):(put2 n).length=2:=rfl
theorem Hv7 (p:ProcS):(D70 p).length=21:=by simp [D70,Hz5,p.len]
def Aw1 (p:ProcS):List UInt8:=D70 p++[Bt3 (D70 p),0,0]
theorem Eb1 (p:ProcS):(Aw1 p).length=24:=by simp [Aw1,Hv7]
theorem Ia5 (n w:Int):CtP D2 Al5 [int n,int w] [] (.bool (D64 n w)):=by
 refine CtP.of Gv3 rfl fun h r=>Tr.eq (G36 ..) ?_;(try simp only[Nr,Nl,Nat.reduceAdd,Nat.reduceMul,Int.reduceToNat])
 (repeat' first|refine Gu ?_|(with_reducible first|refine Gn fun b h=>?_|apply Gx|apply Gy|rintro px rfl|refine fun(h:H)=>?_|intro hb)|refine Gs ?_|refine Gt ?_|exact Gz rfl|fail)
instance {n w:Int} {l:List HP}:PCi D2 Al5 [.int .i64 n,.int .i64 w] l (.bool (D64 n w)):=PCi.of (Ia5 n w)
theorem H74 (f:Int):CtP D2 Bh1 [int f] [] (.bool (decide (f<0) || decide (f>12))):=by
 refine CtP.of Gu1 rfl fun h r=>Tr.eq (Gt2 ..) ?_;(try simp only[Nr,Nl,Nat.reduceAdd,Nat.reduceMul,Int.reduceToNat])
 (repeat' first|refine Gu ?_|(with_reducible first|refine Gn fun b h=>?_|apply Gx|apply Gy|rintro px rfl|refine fun(h:H)=>?_|intro hb)|refine Gs ?_|refine Gt ?_|exact Gz rfl|fail)
theorem E52 (p:HP) (a:Option Addr) (ro:Bool) (c:Nat) (l:List Int) (g:FuncId) (f:Int→Bool) {e:TypeId} [ks:IsSl p a ro e 1 l.length c (l.map int)] (hl:l.length≤D3) (hf:∀ x,CtP D2 g [int x] [] (.bool (f x))):∀ (m i:Nat),l.length-i=m→i≤l.length →
  V0 H7 E6 N6 [(0,.slice a l.length c),(1,.func (.func g) ⟨[]⟩ ⟨[]⟩),(7,int l.length),(8,int i)] [p] (int (Bq7 f i (l.drop i))):=by
 intro m
 induction m with
 | zero =>
  intro i hm hi
  refine V0.of M7 fun h r=>Tr.eq (S9 ..) ?_;(try simp only[Nr,Nl,Nat.reduceAdd,Nat.reduceMul,Int.reduceToNat])
  refine Yf (by simp;omega) ?_
  refine Ys fun o=>?_
  rw [List.drop_eq_nil_of_le (by omega)];exact ⟨rfl,rfl⟩
 | succ m ih =>
  intro i hm hi
  have hlt:i<l.length:=by omega
  have hp:l[i]?=some l[i]:=List.getElem?_eq_getElem hlt
  have hd:l.drop i=l[i]::l.drop (i+1):=List.drop_eq_getElem_cons hlt
  generalize l[i]=x at hp hd
  have e1:IntKind.wrap .i64 ((i:Int)+1)=((i+1:Nat):Int):=by rw [D1];simp only [D3] at hl;omega
  refine V0.of M7 fun h r=>Tr.eq (S9 ..) ?_;(try simp only[Nr,Nl,Nat.reduceAdd,Nat.reduceMul,Int.reduceToNat])
  refine Yt (by simp;omega) ?_
  (repeat' first|refine Gu ?_|(with_reducible first|refine Gn fun b h=>?_|apply Gx|apply Gy|rintro px rfl|refine fun(h:H)=>?_|intro hb)|refine Gs ?_|refine Gt ?_|exact Gz rfl|fail)
  refine Tr.xIntS (v:=x) (by simp [hp]) ?_
  (repeat' first|refine Gu ?_|(with_reducible first|refine Gn fun b h=>?_|apply Gx|apply Gy|rintro px rfl|refine fun(h:H)=>?_|intro hb)|refine Gs ?_|refine Gt ?_|exact Gz rfl|fail)
  refine Tr.pcall (hf x) ?_
  cases hx:f x with
  | true =>
   (repeat' first|refine Gu ?_|(with_reducible first|refine Gn fun b h=>?_|apply Gx|apply Gy|rintro px rfl|refine fun(h:H)=>?_|intro hb)|refine Gs ?_|refine Gt ?_|exact Gz rfl|fail)
   refine Ys fun o=>?_
   rw [hd,Bq7,if_pos hx];exact ⟨by first|rfl|trivial,by first|rfl|trivial⟩
  | false =>
   (repeat' first|refine Gu ?_|(with_reducible first|refine Gn fun b h=>?_|apply Gx|apply Gy|rintro px rfl|refine fun(h:H)=>?_|intro hb)|refine Gs ?_|refine Gt ?_|exact Gz rfl|fail)
   rw [e1]
   refine Z6 (ih (i+1) (by omega) (by omega)) (r:=r) (by simp) fun o=>?_
   rw [hd,Bq7,if_neg (by simp [hx])];exact ⟨by first|rfl|trivial,by first|rfl|trivial⟩
theorem E28 (p:HP) (a:Option Addr) (ro:Bool) (c:Nat) (l:List Int) (g:FuncId) (f:Int→Bool) {e:TypeId} [ks:IsSl p a ro e 1 l.length c (l.map int)] (hl:l.length≤D3) (hf:∀ x,CtP D2 g [int x] [] (.bool (f x))) :
  CtP D2 G3 [.slice a l.length c,.func (.func g) ⟨[]⟩ ⟨[]⟩] [p] (.bool (l.any f)):=by
 have j:CtP D2 E6 [.slice a l.length c,.func (.func g) ⟨[]⟩ ⟨[]⟩] [p] (int (Bq7 f 0 l)):=by
  refine CtP.of M7 rfl fun h r=>Tr.eq (A49 ..) ?_;(try simp only[Nr,Nl,Nat.reduceAdd,Nat.reduceMul,Int.reduceToNat])
  exact Z6 (E52 p a ro c l g f hl hf _ 0 rfl (by omega)) (r:=r) (by simp) fun o=>⟨rfl,rfl⟩
 refine CtP.of Av5 rfl fun h r=>Tr.eq (Av6 ..) ?_;(try simp only[Nr,Nl,Nat.reduceAdd,Nat.reduceMul,Int.reduceToNat])
 refine Bw5 j (r:=r) (by simp) ?_
 (repeat' first|refine Gu ?_|(with_reducible first|refine Gn fun b h=>?_|apply Gx|apply Gy|rintro px rfl|refine fun(h:H)=>?_|intro hb)|refine Gs ?_|refine Gt ?_|exact Gz rfl|fail)
 refine Ys fun o=>?_
 rw [Eq1];exact ⟨by first|rfl|trivial,by first|rfl|trivial⟩
theorem Gw1:∀ (l m:List Int),l.length=m.length→eqs (l.map int) (m.map int)=some (decide (l=m))
 | [],[],_=>rfl
 | [],_::_,h=>by simp at h
 | _::_,[],h=>by simp at h
 | a::l,b::m,h=>by
  have ih:=Gw1 l m (by simpa using h)
  simp only [List.map_cons,eqs,eq1,decide_true,ih]
  by_cases h1:a=b<;>by_cases h2:l=m<;>simp [h1,h2]
theorem E43:∀ (l:List Int),H4 (List.replicate l.length (TypeDesc.int .i64)) (l.map int)=true
 | []=>rfl
 | a::l=>by
  have:=E43 l
  simp only [List.length_cons,List.replicate_succ,List.map_cons,H4,decide_true,this,Bool.and_self]
theorem eq8 {α:Type} (l m:List Int) (hl:l.length=8) (hm:m.length=8) (k:Bool→Option α):B98 PR Gj0 (l.map int) (m.map int) k=k (decide (l=m)):=by
 have e:Ak4 PR 8 Gj0=some (List.replicate 8 (TypeDesc.int .i64)):=by kernel_rfl
 have f1:=E43 l;have f2:=E43 m
 rw [hl] at f1;rw [hm] at f2
 rw [B98,e]
 simp only [f1,f2,Gw1 l m (by omega),Bool.and_self,ckB,cond_true,eqK]
theorem Ie5 (p:ProcS):Ct D2 Dj9 [.agg ⟨E2 p⟩] [] fun v own=>v=.bool (okS p)∧own []:=by
 have h8:=p.len
 refine Ct.of Hh7 rfl fun h r=>Tr.eq (Hh8 ..) ?_;(try simp only[Nr,Nl,Nat.reduceAdd,Nat.reduceMul,Int.reduceToNat])
 (repeat' first|refine Gu ?_|(with_reducible first|refine Gn fun b h=>?_|apply Gx|apply Gy|rintro px rfl|refine fun(h:H)=>?_|intro hb)|refine Gs ?_|refine Gt ?_|exact Gz rfl|fail)
 refine Tr.cond (fun h1=>?_) fun h1=>?_
 ·refine Ys fun o=>?_
  refine ⟨?_,o.sub⟩
  unfold okS;rw [h1];rfl
 (repeat' first|refine Gu ?_|(with_reducible first|refine Gn fun b h=>?_|apply Gx|apply Gy|rintro px rfl|refine fun(h:H)=>?_|intro hb)|refine Gs ?_|refine Gt ?_|exact Gz rfl|fail)
 refine Tr.cond (fun h2=>?_) fun h2=>?_
 ·refine Ys fun o=>?_
  refine ⟨?_,o.sub⟩
  unfold okS;rw [h1,h2];rfl
 (repeat' first|refine Gu ?_|(with_reducible first|refine Gn fun b h=>?_|apply Gx|apply Gy|rintro px rfl|refine fun(h:H)=>?_|intro hb)|refine Gs ?_|refine Gt ?_|exact Gz rfl|fail)
 refine Gj7 0 rfl [int p.state,int p.parent,int p.group,int p.code,int p.pending,int p.mask,int p.ignored,int p.caught] (p.fds.map int) [] (by simp [E2]) 1 8 8 8 ⟨by simp [h8],by omega,by simp,by simp [E2],by omega,by omega⟩ ?_
 (try simp only[Nr,Nl,Nat.reduceAdd,Nat.reduceMul,Int.reduceToNat])
 have J:=E28 (e:=E1) (slX false E1 1 (some ⟨b,8,none⟩) p.fds.length 8 ([int p.state,int p.parent,int p.group,int p.code,int p.pending,int p.mask,int p.ignored,int p.caught],[]) (p.fds.map int)) (some ⟨b,8,none⟩) false 8 p.fds Bh1 (fun f=>decide (f<0) || decide (f>12)) (by rw [h8];simp [D3]) H74
 rw [h8] at J
 refine Tr.pcall (J) ?_;(try simp only[Nr,Nl,Nat.reduceAdd,Nat.reduceMul,Int.reduceToNat]);(repeat' first|refine Gu ?_|(with_reducible first|refine Gn fun b h=>?_|apply Gx|apply Gy|rintro px rfl|refine fun(h:H)=>?_|intro hb)|refine Gs ?_|refine Gt ?_|exact Gz rfl|fail)
 refine Eh2 0 rfl (E2 p) (by simp [E2]) ?_
 (try simp only[Nr,Nl,Nat.reduceAdd,Nat.reduceMul,Int.reduceToNat])
 cases h3:p.fds.any fun f=>decide (f<0) || decide (f>12) with
 | true =>
  (repeat' first|refine Gu ?_|(with_reducible first|refine Gn fun b h=>?_|apply Gx|apply Gy|rintro px rfl|refine fun(h:H)=>?_|intro hb)|refine Gs ?_|refine Gt ?_|exact Gz rfl|fail)
  refine Ys fun o=>?_
  refine ⟨?_,o.sub⟩
  unfold okS;rw [h1,h2,h3];rfl
 | false =>
  (repeat' first|refine Gu ?_|(with_reducible first|refine Gn fun b h=>?_|apply Gx|apply Gy|rintro px rfl|refine fun(h:H)=>?_|intro hb)|refine Gs ?_|refine Gt ?_|exact Gz rfl|fail)
  have e:okS p=if p.state=2 then p.pending==0 && decide (p.fds=Bs1) else p.code==0:=by unfold okS;rw [h1,h2,h3];rfl
  rw [e]
  by_cases h4:p.state=2
  ·refine Yt (by simpa using h4) ?_
   rw [if_pos h4]
   (repeat' first|refine Gu ?_|(with_reducible first|refine Gn fun b h=>?_|apply Gx|apply Gy|rintro px rfl|refine fun(h:H)=>?_|intro hb)|refine Gs ?_|refine Gt ?_|exact Gz rfl|fail)
   rw [show ([int 0,int 0,int 0,int 0,int 0,int 0,int 0,int 0]:List Value)=Bs1.map int from rfl,eq8 _ _ h8 rfl]
   (repeat' first|refine Gu ?_|(with_reducible first|refine Gn fun b h=>?_|apply Gx|apply Gy|rintro px rfl|refine fun(h:H)=>?_|intro hb)|refine Gs ?_|refine Gt ?_|exact Gz rfl|fail)
   refine Ys fun o=>?_
   exact ⟨rfl,o.sub⟩
  ·refine Yf (by simpa using h4) ?_
   rw [if_neg h4]
   (repeat' first|refine Gu ?_|(with_reducible first|refine Gn fun b h=>?_|apply Gx|apply Gy|rintro px rfl|refine fun(h:H)=>?_|intro hb)|refine Gs ?_|refine Gt ?_|exact Gz rfl|fail)
   refine Ys fun o=>?_
   exact ⟨rfl,o.sub⟩
theorem H67 (a:Option Addr) (c:Nat) (cs:List Value) (j:Nat) (n:Int) (hj:j+2≤cs.length) (hm:cs.length≤D3):Ct D2 Bi1 [.slice a cs.length c,int j,int n] [slC false B0 1 a cs.length c cs] fun v own =>
  (∃ ok,v=.bool ok)∧own [slC false B0 1 a cs.length c (if 0≤n∧n≤65535 then (cs.set j (.int .u8 ((b8 (n / 256)).toNat:Int))).set (j+1) (.int .u8 ((b8 n).toNat:Int)) else cs)]:=by
 simp only [D3] at hm
 have e1:IntKind.wrap .i64 ((cs.length:Int)-2)=(cs.length:Int)-2:=by rw [D1];omega
 have e2:IntKind.wrap .i64 ((j:Int)+1)=((j+1:Nat):Int):=by rw [D1];omega
 refine Ct.of G34 rfl fun h r=>Tr.eq (Gt7 ..) ?_;(try simp only[Nr,Nl,Nat.reduceAdd,Nat.reduceMul,Int.reduceToNat])
 rw [e1,e2]
 (repeat' first|refine Gu ?_|(with_reducible first|refine Gn fun b h=>?_|apply Gx|apply Gy|rintro px rfl|refine fun(h:H)=>?_|intro hb)|refine Gs ?_|refine Gt ?_|exact Gz rfl|fail)
 by_cases h:0≤n∧n≤65535
 ·refine Yf (by simp;omega) ?_
  rw [if_pos h]
  (repeat' first|refine Gu ?_|(with_reducible first|refine Gn fun b h=>?_|apply Gx|apply Gy|rintro px rfl|refine fun(h:H)=>?_|intro hb)|refine Gs ?_|refine Gt ?_|exact Gz rfl|fail)
  rw [Int.toNat_natCast,show Int.fdiv n (2 ^ 8)=n / 256 by rw [Int.fdiv_eq_ediv_of_nonneg _ (by omega)];rfl,Bg9,Bg9]
  (try simp only[Nr,Nl,Nat.reduceAdd,Nat.reduceMul,Int.reduceToNat])
  refine Tr.xVS (cs':=cs.set j (.int .u8 ((b8 (n / 256)).toNat:Int))) ⟨by omega,rfl,rfl⟩ fun h=>?_
  (repeat' first|refine Gu ?_|(with_reducible first|refine Gn fun b h=>?_|apply Gx|apply Gy|rintro px rfl|refine fun(h:H)=>?_|intro hb)|refine Gs ?_|refine Gt ?_|exact Gz rfl|fail)
  rw [Int.toNat_natCast]
  (try simp only[Nr,Nl,Nat.reduceAdd,Nat.reduceMul,Int.reduceToNat])
  refine Tr.xVS (cs':=(cs.set j (.int .u8 ((b8 (n / 256)).toNat:Int))).set (j+1) (.int .u8 ((b8 n).toNat:Int))) ⟨by simp;omega,rfl,rfl⟩ fun h=>?_
  refine Ys fun o=>?_
  exact ⟨⟨_,rfl⟩,o.sub⟩
 ·refine Yt (by simp;omega) ?_
  rw [if_neg h]
  refine Ys fun o=>?_
  exact ⟨⟨_,rfl⟩,o.sub⟩
theorem D25 (l:List UInt8) (j:Nat) (x:UInt8):(A0 l).set j (.int .u8 (x.toNat:Int))=A0 (l.set j x):=by simp [A0,List.map_set]
theorem Eb4 (a:Option Addr) (c m:Nat) (l:List UInt8) (j:Nat) (n:Int) (hm:l.length=m) (hj:j+2≤m) (h1:l[j]?=some 0) (h2:l[j+1]?=some 0) (hl:m≤D3):Ct D2 Bi1 [.slice a m c,int j,int n] [slC false B0 1 a m c (A0 l)] fun v own =>
  (∃ ok,v=.bool ok)∧own [slC false B0 1 a m c (A0 ((l.set j (hi2 n)).set (j+1) (lo2 n)))]:=by
 subst hm
 have J:=H67 a c (A0 l) j n (by rw [U8];omega) (by rw [U8];omega)
 rw [U8] at J
 have e:(if 0≤n∧n≤65535 then ((A0 l).set j (.int .u8 ((b8 (n / 256)).toNat:Int))).set (j+1) (.int .u8 ((b8 n).toNat:Int)) else A0 l)=A0 ((l.set j (hi2 n)).set (j+1) (lo2 n)):=by
  unfold hi2 lo2
  split
  ·rw [D25,D25]
  ·rw [Ej7 h1,Ej7 h2]
 rw [e] at J
 exact J
def two (l:List UInt8) (j:Nat):Int:=byI l j*256+byI l (j+1)
theorem Ic3 (x y:UInt8):Hn3 .i64 (IntKind.wrap .i64 (IntKind.wrap .i64 (x.toNat:Int)*2 ^ 8)) (IntKind.wrap .i64 (y.toNat:Int))=(x.toNat:Int)*256+y.toNat:=by
 have hx:=x.toNat_lt;have hy:=y.toNat_lt
 have e1:IntKind.wrap .i64 (IntKind.wrap .i64 (x.toNat:Int)*2 ^ 8)=((x.toNat*256:Nat):Int):=by rw [An2,D1];omega
 rw [e1,An2]
 unfold Hn3
 have e0:IntKind.bits .i64=64:=rfl
 rw [e0,BitVec.ofInt_natCast,BitVec.ofInt_natCast,BitVec.toNat_or,BitVec.toNat_ofNat,BitVec.toNat_ofNat,Nat.mod_eq_of_lt (by omega),Nat.mod_eq_of_lt (by omega)]
 have e2:x.toNat*256 ||| y.toNat=x.toNat*256+y.toNat:=by
  have:=Nat.two_pow_add_eq_or_of_lt (i:=8) (b:=y.toNat) (by omega) x.toNat
  rw [show 2 ^ 8*x.toNat=x.toNat*256 by omega] at this
  exact this.symm
 rw [e2,D1];omega
theorem Et8 (a:Option Addr) (c n:Nat) (l:List UInt8) (j:Nat) (hn:l.length=n) (hj:j+2≤n) (hm:n≤D3):CtP D2 Bx4 [.slice a n c,int j] [slC false B0 1 a n c (A0 l)] (.tuple ⟨[int (two l j),.bool true]⟩):=by
 simp only [D3] at hm
 have e1:IntKind.wrap .i64 ((n:Int)-2)=(n:Int)-2:=by rw [D1];omega
 have e2:IntKind.wrap .i64 ((j:Int)+1)=((j+1:Nat):Int):=by rw [D1];omega
 refine CtP.of G13 rfl fun h r=>Tr.eq (Gv4 ..) ?_;(try simp only[Nr,Nl,Nat.reduceAdd,Nat.reduceMul,Int.reduceToNat])
 rw [e1,e2]
 (repeat' first|refine Gu ?_|(with_reducible first|refine Gn fun b h=>?_|apply Gx|apply Gy|rintro px rfl|refine fun(h:H)=>?_|intro hb)|refine Gs ?_|refine Gt ?_|exact Gz rfl|fail)
 refine Yf (by simp;omega) ?_
 (repeat' first|refine Gu ?_|(with_reducible first|refine Gn fun b h=>?_|apply Gx|apply Gy|rintro px rfl|refine fun(h:H)=>?_|intro hb)|refine Gs ?_|refine Gt ?_|exact Gz rfl|fail)
 rw [Int.toNat_natCast]
 (try simp only[Nr,Nl,Nat.reduceAdd,Nat.reduceMul,Int.reduceToNat])
 refine Tr.xIntS (v:=byI l j) (Ad8 (by omega)) ?_
 (repeat' first|refine Gu ?_|(with_reducible first|refine Gn fun b h=>?_|apply Gx|apply Gy|rintro px rfl|refine fun(h:H)=>?_|intro hb)|refine Gs ?_|refine Gt ?_|exact Gz rfl|fail)
 rw [Int.toNat_natCast]
 (try simp only[Nr,Nl,Nat.reduceAdd,Nat.reduceMul,Int.reduceToNat])
 refine Tr.xIntS (v:=byI l (j+1)) (Ad8 (by omega)) ?_
 refine Ys fun o=>?_
 rw [Ic3];exact ⟨rfl,rfl⟩
theorem Ia2 (a:Option Addr) (c:Nat) (p:ProcS):Ct D2 O4 [.agg ⟨E2 p⟩,.slice a 24 c] [slC false B0 1 a 24 c (A0 (List.replicate 24 0))] fun v own=>v=.bool (okS p)∧own [slC false B0 1 a 24 c (A0 (if okS p then Aw1 p else List.replicate 24 0))]:=by
 refine Ct.of I1 rfl fun h r=>Tr.eq (Ha9 ..) ?_;(try simp only[Nr,Nl,Nat.reduceAdd,Nat.reduceMul,Int.reduceToNat])
 refine Yn fun b1 h=>?_
 (repeat' first|refine Gu ?_|(with_reducible first|refine Gn fun b h=>?_|apply Gx|apply Gy|rintro px rfl|refine fun(h:H)=>?_|intro hb)|refine Gs ?_|refine Gt ?_|exact Gz rfl|fail)
 refine Yc (Ie5 p) ?_;rintro _ h ⟨rfl,o⟩<;>(refine (?_:Tr _ _ _ _) o;(try simp only[Nr,Nl,Nat.reduceAdd,Nat.reduceMul,Int.reduceToNat]);(repeat' first|refine Gu ?_|(with_reducible first|refine Gn fun b h=>?_|apply Gx|apply Gy|rintro px rfl|refine fun(h:H)=>?_|intro hb)|refine Gs ?_|refine Gt ?_|exact Gz rfl|fail))
 cases hk:okS p with
 | false =>
  (repeat' first|refine Gu ?_|(with_reducible first|refine Gn fun b h=>?_|apply Gx|apply Gy|rintro px rfl|refine fun(h:H)=>?_|intro hb)|refine Gs ?_|refine Gt ?_|exact Gz rfl|fail)
  refine Ys fun o=>?_
  rw [if_neg (by simp)]
  exact ⟨rfl,o.sub⟩
 | true =>
  simp only [if_true]
  obtain ⟨st,pa,gr,co,pe,ma,ig,ca,fds,len⟩:=p
  match fds,len with
  | [f0,f1,f2,f3,f4,f5,f6,f7],len =>
  (repeat' first|refine Gu ?_|(with_reducible first|refine Gn fun b h=>?_|apply Gx|apply Gy|rintro px rfl|refine fun(h:H)=>?_|intro hb)|refine Gs ?_|refine Gt ?_|exact Gz rfl|fail)
  rename_i b2 h2
  refine Aa0 2 rfl fun hl hc _=>?_
  simp only [List.map]
  refine Tr.jmp I1 (Tr.eq (A47 ..) ?_);(try simp only[Nr,Nl,wl,Nat.reduceAdd,Nat.reduceMul,Int.reduceToNat])
  (repeat' first|refine Gu ?_|(with_reducible first|refine Gn fun b h=>?_|apply Gx|apply Gy|rintro px rfl|refine fun(h:H)=>?_|intro hb)|refine Gs ?_|refine Gt ?_|exact Gz rfl|((with_reducible apply Gv);·rfl)|refine Yt (by rfl) ?_|refine Yf (by rfl) ?_|fail)
  refine Tr.jmp I1 (Tr.eq (A47 ..) ?_);(try simp only[Nr,Nl,wl,Nat.reduceAdd,Nat.reduceMul,Int.reduceToNat])
  (repeat' first|refine Gu ?_|(with_reducible first|refine Gn fun b h=>?_|apply Gx|apply Gy|rintro px rfl|refine fun(h:H)=>?_|intro hb)|refine Gs ?_|refine Gt ?_|exact Gz rfl|((with_reducible apply Gv);·rfl)|refine Yt (by rfl) ?_|refine Yf (by rfl) ?_|fail)
  refine Tr.jmp I1 (Tr.eq (A47 ..) ?_);(try simp only[Nr,Nl,wl,Nat.reduceAdd,Nat.reduceMul,Int.reduceToNat])
  (repeat' first|refine Gu ?_|(with_reducible first|refine Gn fun b h=>?_|apply Gx|apply Gy|rintro px rfl|refine fun(h:H)=>?_|intro hb)|refine Gs ?_|refine Gt ?_|exact Gz rfl|((with_reducible apply Gv);·rfl)|refine Yt (by rfl) ?_|refine Yf (by rfl) ?_|fail)
  refine Tr.jmp I1 (Tr.eq (A47 ..) ?_);(try simp only[Nr,Nl,wl,Nat.reduceAdd,Nat.reduceMul,Int.reduceToNat])
  (repeat' first|refine Gu ?_|(with_reducible first|refine Gn fun b h=>?_|apply Gx|apply Gy|rintro px rfl|refine fun(h:H)=>?_|intro hb)|refine Gs ?_|refine Gt ?_|exact Gz rfl|((with_reducible apply Gv);·rfl)|refine Yt (by rfl) ?_|refine Yf (by rfl) ?_|fail)
  refine Tr.jmp I1 (Tr.eq (A47 ..) ?_);(try simp only[Nr,Nl,wl,Nat.reduceAdd,Nat.reduceMul,Int.reduceToNat])
  (repeat' first|refine Gu ?_|(with_reducible first|refine Gn fun b h=>?_|apply Gx|apply Gy|rintro px rfl|refine fun(h:H)=>?_|intro hb)|refine Gs ?_|refine Gt ?_|exact Gz rfl|((with_reducible apply Gv);·rfl)|refine Yt (by rfl) ?_|refine Yf (by rfl) ?_|fail)
  simp only [Bg9,D25,List.replicate,List.set_cons_zero,List.set_cons_succ,Nat.mul_one]
  refine Tr.jmp I1 (Tr.eq (A57 ..) ?_);(try simp only[Nr,Nl,wl,Nat.reduceAdd,Nat.reduceMul,Int.reduceToNat])
  (repeat' first|refine Gu ?_|(with_reducible first|refine Gn fun b h=>?_|apply Gx|apply Gy|rintro px rfl|refine fun(h:H)=>?_|intro hb)|refine Gs ?_|refine Gt ?_|exact Gz rfl|((with_reducible apply Gv);·rfl)|refine Yt (by rfl) ?_|refine Yf (by rfl) ?_|fail)
  refine Yc (Eb4 (some px) c 24 [b8 st,b8 pa,b8 gr,b8 co,0,0,0,0,0,0,0,0,0,0,0,0,0,0,0,0,0,0,0,0] 4 pe rfl (by omega) rfl rfl (by simp [D3])) ?_;rintro _ h ⟨⟨_,rfl⟩,o⟩<;>(refine (?_:Tr _ _ _ _) o;(try simp only[Nr,Nl,Nat.reduceAdd,Nat.reduceMul,Int.reduceToNat]);(repeat' first|refine Gu ?_|(with_reducible first|refine Gn fun b h=>?_|apply Gx|apply Gy|rintro px rfl|refine fun(h:H)=>?_|intro hb)|refine Gs ?_|refine Gt ?_|exact Gz rfl|fail))
  refine Tr.jmp I1 (Tr.eq (A57 ..) ?_);(try simp only[Nr,Nl,wl,Nat.reduceAdd,Nat.reduceMul,Int.reduceToNat])
  (repeat' first|refine Gu ?_|(with_reducible first|refine Gn fun b h=>?_|apply Gx|apply Gy|rintro px rfl|refine fun(h:H)=>?_|intro hb)|refine Gs ?_|refine Gt ?_|exact Gz rfl|((with_reducible apply Gv);·rfl)|refine Yt (by rfl) ?_|refine Yf (by rfl) ?_|fail)
  refine Yc (Eb4 (some px) c 24 [b8 st,b8 pa,b8 gr,b8 co,hi2 pe,lo2 pe,0,0,0,0,0,0,0,0,0,0,0,0,0,0,0,0,0,0] 6 ma rfl (by omega) rfl rfl (by simp [D3])) ?_;rintro _ h ⟨⟨_,rfl⟩,o⟩<;>(refine (?_:Tr _ _ _ _) o;(try simp only[Nr,Nl,Nat.reduceAdd,Nat.reduceMul,Int.reduceToNat]);(repeat' first|refine Gu ?_|(with_reducible first|refine Gn fun b h=>?_|apply Gx|apply Gy|rintro px rfl|refine fun(h:H)=>?_|intro hb)|refine Gs ?_|refine Gt ?_|exact Gz rfl|fail))
  refine Tr.jmp I1 (Tr.eq (A57 ..) ?_);(try simp only[Nr,Nl,wl,Nat.reduceAdd,Nat.reduceMul,Int.reduceToNat])
  (repeat' first|refine Gu ?_|(with_reducible first|refine Gn fun b h=>?_|apply Gx|apply Gy|rintro px rfl|refine fun(h:H)=>?_|intro hb)|refine Gs ?_|refine Gt ?_|exact Gz rfl|((with_reducible apply Gv);·rfl)|refine Yt (by rfl) ?_|refine Yf (by rfl) ?_|fail)
  refine Yc (Eb4 (some px) c 24 [b8 st,b8 pa,b8 gr,b8 co,hi2 pe,lo2 pe,hi2 ma,lo2 ma,0,0,0,0,0,0,0,0,0,0,0,0,0,0,0,0] 8 ig rfl (by omega) rfl rfl (by simp [D3])) ?_;rintro _ h ⟨⟨_,rfl⟩,o⟩<;>(refine (?_:Tr _ _ _ _) o;(try simp only[Nr,Nl,Nat.reduceAdd,Nat.reduceMul,Int.reduceToNat]);(repeat' first|refine Gu ?_|(with_reducible first|refine Gn fun b h=>?_|apply Gx|apply Gy|rintro px rfl|refine fun(h:H)=>?_|intro hb)|refine Gs ?_|refine Gt ?_|exact Gz rfl|fail))
  refine Tr.jmp I1 (Tr.eq (A57 ..) ?_);(try simp only[Nr,Nl,wl,Nat.reduceAdd,Nat.reduceMul,Int.reduceToNat])
  (repeat' first|refine Gu ?_|(with_reducible first|refine Gn fun b h=>?_|apply Gx|apply Gy|rintro px rfl|refine fun(h:H)=>?_|intro hb)|refine Gs ?_|refine Gt ?_|exact Gz rfl|((with_reducible apply Gv);·rfl)|refine Yt (by rfl) ?_|refine Yf (by rfl) ?_|fail)
  refine Yc (Eb4 (some px) c 24 [b8 st,b8 pa,b8 gr,b8 co,hi2 pe,lo2 pe,hi2 ma,lo2 ma,hi2 ig,lo2 ig,0,0,0,0,0,0,0,0,0,0,0,0,0,0] 10 ca rfl (by omega) rfl rfl (by simp [D3])) ?_;rintro _ h ⟨⟨_,rfl⟩,o⟩<;>(refine (?_:Tr _ _ _ _) o;(try simp only[Nr,Nl,Nat.reduceAdd,Nat.reduceMul,Int.reduceToNat]);(repeat' first|refine Gu ?_|(with_reducible first|refine Gn fun b h=>?_|apply Gx|apply Gy|rintro px rfl|refine fun(h:H)=>?_|intro hb)|refine Gs ?_|refine Gt ?_|exact Gz rfl|fail))
  refine Tr.jmp I1 (Tr.eq (A57 ..) ?_);(try simp only[Nr,Nl,wl,Nat.reduceAdd,Nat.reduceMul,Int.reduceToNat])
  (repeat' first|refine Gu ?_|(with_reducible first|refine Gn fun b h=>?_|apply Gx|apply Gy|rintro px rfl|refine fun(h:H)=>?_|intro hb)|refine Gs ?_|refine Gt ?_|exact Gz rfl|((with_reducible apply Gv);·rfl)|refine Yt (by rfl) ?_|refine Yf (by rfl) ?_|fail)
  refine Tr.jmp I1 (Tr.eq (W9 ..) ?_);(try simp only[Nr,Nl,wl,Nat.reduceAdd,Nat.reduceMul,Int.reduceToNat])
  (repeat' first|refine Gu ?_|(with_reducible first|refine Gn fun b h=>?_|apply Gx|apply Gy|rintro px rfl|refine fun(h:H)=>?_|intro hb)|refine Gs ?_|refine Gt ?_|exact Gz rfl|((with_reducible apply Gv);·rfl)|refine Yt (by rfl) ?_|refine Yf (by rfl) ?_|fail)
  refine Tr.jmp I1 (Tr.eq (W9 ..) ?_);(try simp only[Nr,Nl,wl,Nat.reduceAdd,Nat.reduceMul,Int.reduceToNat])
  (repeat' first|refine Gu ?_|(with_reducible first|refine Gn fun b h=>?_|apply Gx|apply Gy|rintro px rfl|refine fun(h:H)=>?_|intro hb)|refine Gs ?_|refine Gt ?_|exact Gz rfl|((with_reducible apply Gv);·rfl)|refine Yt (by rfl) ?_|refine Yf (by rfl) ?_|fail)
  refine Tr.jmp I1 (Tr.eq (W9 ..) ?_);(try simp only[Nr,Nl,wl,Nat.reduceAdd,Nat.reduceMul,Int.reduceToNat])
  (repeat' first|refine Gu ?_|(with_reducible first|refine Gn fun b h=>?_|apply Gx|apply Gy|rintro px rfl|refine fun(h:H)=>?_|intro hb)|refine Gs ?_|refine Gt ?_|exact Gz rfl|((with_reducible apply Gv);·rfl)|refine Yt (by rfl) ?_|refine Yf (by rfl) ?_|fail)
  refine Tr.jmp I1 (Tr.eq (W9 ..) ?_);(try simp only[Nr,Nl,wl,Nat.reduceAdd,Nat.reduceMul,Int.reduceToNat])
  (repeat' first|refine Gu ?_|(with_reducible first|refine Gn fun b h=>?_|apply Gx|apply Gy|rintro px rfl|refine fun(h:H)=>?_|intro hb)|refine Gs ?_|refine Gt ?_|exact Gz rfl|((with_reducible apply Gv);·rfl)|refine Yt (by rfl) ?_|refine Yf (by rfl) ?_|fail)
  refine Tr.jmp I1 (Tr.eq (W9 ..) ?_);(try simp only[Nr,Nl,wl,Nat.reduceAdd,Nat.reduceMul,Int.reduceToNat])
  (repeat' first|refine Gu ?_|(with_reducible first|refine Gn fun b h=>?_|apply Gx|apply Gy|rintro px rfl|refine fun(h:H)=>?_|intro hb)|refine Gs ?_|refine Gt ?_|exact Gz rfl|((with_reducible apply Gv);·rfl)|refine Yt (by rfl) ?_|refine Yf (by rfl) ?_|fail)
  refine Tr.jmp I1 (Tr.eq (W9 ..) ?_);(try simp only[Nr,Nl,wl,Nat.reduceAdd,Nat.reduceMul,Int.reduceToNat])
  (repeat' first|refine Gu ?_|(with_reducible first|refine Gn fun b h=>?_|apply Gx|apply Gy|rintro px rfl|refine fun(h:H)=>?_|intro hb)|refine Gs ?_|refine Gt ?_|exact Gz rfl|((with_reducible apply Gv);·rfl)|refine Yt (by rfl) ?_|refine Yf (by rfl) ?_|fail)
  refine Tr.jmp I1 (Tr.eq (W9 ..) ?_);(try simp only[Nr,Nl,wl,Nat.reduceAdd,Nat.reduceMul,Int.reduceToNat])
  (repeat' first|refine Gu ?_|(with_reducible first|refine Gn fun b h=>?_|apply Gx|apply Gy|rintro px rfl|refine fun(h:H)=>?_|intro hb)|refine Gs ?_|refine Gt ?_|exact Gz rfl|((with_reducible apply Gv);·rfl)|refine Yt (by rfl) ?_|refine Yf (by rfl) ?_|fail)
  refine Tr.jmp I1 (Tr.eq (W9 ..) ?_);(try simp only[Nr,Nl,wl,Nat.reduceAdd,Nat.reduceMul,Int.reduceToNat])
  (repeat' first|refine Gu ?_|(with_reducible first|refine Gn fun b h=>?_|apply Gx|apply Gy|rintro px rfl|refine fun(h:H)=>?_|intro hb)|refine Gs ?_|refine Gt ?_|exact Gz rfl|((with_reducible apply Gv);·rfl)|refine Yt (by rfl) ?_|refine Yf (by rfl) ?_|fail)
  refine Tr.jmp I1 (Tr.eq (W9 ..) ?_);(try simp only[Nr,Nl,wl,Nat.reduceAdd,Nat.reduceMul,Int.reduceToNat])
  (repeat' first|refine Gu ?_|(with_reducible first|refine Gn fun b h=>?_|apply Gx|apply Gy|rintro px rfl|refine fun(h:H)=>?_|intro hb)|refine Gs ?_|refine Gt ?_|exact Gz rfl|((with_reducible apply Gv);·rfl)|refine Yt (by rfl) ?_|refine Yf (by rfl) ?_|fail)
  simp only [Bg9,D25,List.set_cons_zero,List.set_cons_succ,Nat.mul_one]
  rw [show (.int .u8 167:Value)=.int .u8 ((167:UInt8).toNat:Int) from rfl,D25]
  simp only [List.set_cons_zero,List.set_cons_succ]
  refine Tr.pcall (Gc6 (slC false B0 1 (some px) 24 c (A0 [b8 st,b8 pa,b8 gr,b8 co,hi2 pe,lo2 pe,hi2 ma,lo2 ma,hi2 ig,lo2 ig,hi2 ca,lo2 ca,b8 f0,b8 f1,b8 f2,b8 f3,b8 f4,b8 f5,b8 f6,b8 f7,167,0,0,0])) (some px) false 24 c c [b8 st,b8 pa,b8 gr,b8 co,hi2 pe,lo2 pe,hi2 ma,lo2 ma,hi2 ig,lo2 ig,hi2 ca,lo2 ca,b8 f0,b8 f1,b8 f2,b8 f3,b8 f4,b8 f5,b8 f6,b8 f7,167,0,0,0] 21 (by simp) (by simp [D3])) ?_
  (try simp only[Nr,Nl,Nat.reduceAdd,Nat.reduceMul,Int.reduceToNat])
  (repeat' first|refine Gu ?_|(with_reducible first|refine Gn fun b h=>?_|apply Gx|apply Gy|rintro px rfl|refine fun(h:H)=>?_|intro hb)|refine Gs ?_|refine Gt ?_|exact Gz rfl|fail)
  rw [Dm6]
  (repeat' first|refine Gu ?_|(with_reducible first|refine Gn fun b h=>?_|apply Gx|apply Gy|rintro px rfl|refine fun(h:H)=>?_|intro hb)|refine Gs ?_|refine Gt ?_|exact Gz rfl|((with_reducible apply Gv);·rfl)|refine Yt (by rfl) ?_|refine Yf (by rfl) ?_|fail)
  refine Ys fun o=>?_
  rw [D25] at o
  simp only [List.set_cons_zero,List.set_cons_succ] at o
  simp only [Aw1,D70,put2,List.map,List.cons_append,List.nil_append]
  exact ⟨trivial,o.sub⟩
abbrev E66 (k:Nat):HP:=pt k (.cells Bo9 false [int 24,.func (.func O4) ⟨[]⟩ ⟨[]⟩,.func (.func W7) ⟨[]⟩ ⟨[]⟩])
theorem G99 (k:Nat) (f:ProcS):Ct D2 V9 [P0 k,.agg ⟨E2 f⟩] [E66 k] fun v own=>(okS f=true∧∃ a,v=.tuple ⟨[.slice a 24 24,.bool true]⟩∧own [E66 k,slC false B0 1 a 24 24 (A0 (Aw1 f))])∨(okS f=false∧v=.tuple ⟨[.slice none 0 0,.bool false]⟩∧own [E66 k]):=by
 refine Ct.of B35 rfl fun h r=>Tr.eq (B44 ..) ?_;(try simp only[Nr,Nl,Nat.reduceAdd,Nat.reduceMul,Int.reduceToNat])
 (repeat' first|refine Gu ?_|(with_reducible first|refine Gn fun b h=>?_|apply Gx|apply Gy|rintro px rfl|refine fun(h:H)=>?_|intro hb)|refine Gs ?_|refine Gt ?_|exact Gz rfl|fail)
 refine Tr.ck ⟨by omega,by omega,by simp [D3]⟩ ?_
 refine Yn fun b1 h=>?_
 rw [show I0 (Int.toNat 24) [.int .u8 0]=A0 (List.replicate 24 0) from rfl]
 refine Aj1 0 rfl 1 24 rfl (by omega) ?_
 simp only [List.set_cons_zero]
 (try simp only[Nr,Nl,Nat.reduceAdd,Nat.reduceMul,Int.reduceToNat])
 (repeat' first|refine Gu ?_|(with_reducible first|refine Gn fun b h=>?_|rintro px rfl|refine fun(h:H)=>?_|intro hb)|refine Gs ?_|refine Gt ?_|exact Gz rfl|fail)
 refine Yb (Yf rfl ?_)
 (repeat' first|refine Gu ?_|(with_reducible first|refine Gn fun b h=>?_|rintro px rfl|refine fun(h:H)=>?_|intro hb)|refine Gs ?_|refine Gt ?_|exact Gz rfl|fail)
 refine Yc (Ia2 (some ⟨b1,0,none⟩) 24 f) ?_;rintro _ h ⟨rfl,o⟩<;>(refine (?_:Tr _ _ _ _) o;(try simp only[Nr,Nl,Nat.reduceAdd,Nat.reduceMul,Int.reduceToNat]);(repeat' first|refine Gu ?_|(with_reducible first|refine Gn fun b h=>?_|rintro px rfl|refine fun(h:H)=>?_|intro hb)|refine Gs ?_|refine Gt ?_|exact Gz rfl|fail))
 refine Ys fun o=>(?_:Tr _ _ _ _) o;(try simp only[Nr,Nl,Nat.reduceAdd,Nat.reduceMul,Int.reduceToNat])
 cases hk:okS f with
 | false =>
  (repeat' first|refine Gu ?_|(with_reducible first|refine Gn fun b h=>?_|apply Gx|apply Gy|rintro px rfl|refine fun(h:H)=>?_|intro hb)|refine Gs ?_|refine Gt ?_|exact Gz rfl|fail)
  refine Ys fun o=>?_
  exact .inr ⟨rfl,rfl,o.sub⟩
 | true =>
  (repeat' first|refine Gu ?_|(with_reducible first|refine Gn fun b h=>?_|apply Gx|apply Gy|rintro px rfl|refine fun(h:H)=>?_|intro hb)|refine Gs ?_|refine Gt ?_|exact Gz rfl|fail)
  refine Ys fun o=>?_
  simp only [if_true] at o
  exact .inl ⟨rfl,_,rfl,o.sub⟩
theorem H87:Ct D2 Ap0 [int 24,.func (.func O4) ⟨[]⟩ ⟨[]⟩,.func (.func W7) ⟨[]⟩ ⟨[]⟩] [] fun v own=>∃ k,v=P0 k∧own [E66 k]:=by
 refine Ct.of D61 rfl fun h r=>Tr.eq (D94 ..) ?_;(try simp only[Nr,Nl,Nat.reduceAdd,Nat.reduceMul,Int.reduceToNat])
 rw [show mm2 false (mm2 true 24 0) 64=24 from rfl]
 (repeat' first|refine Gu ?_|(with_reducible first|refine Gn fun b h=>?_|apply Gx|apply Gy|rintro px rfl|refine fun(h:H)=>?_|intro hb)|refine Gs ?_|refine Gt ?_|exact Gz rfl|fail)
 refine Ys fun o=>?_
 exact ⟨_,rfl,o.sub⟩
theorem Gn4:Ct D2 Bc4 [] [] fun v own=>∃ k,v=P0 k∧own [E66 k]:=by
 refine Ct.of Gq4 rfl fun h r=>Tr.eq (Gs1 ..) ?_;(try simp only[Nr,Nl,Nat.reduceAdd,Nat.reduceMul,Int.reduceToNat])
 refine Yc (H87) ?_;rintro _ h ⟨k,rfl,o⟩<;>(refine (?_:Tr _ _ _ _) o;(try simp only[Nr,Nl,Nat.reduceAdd,Nat.reduceMul,Int.reduceToNat]);(repeat' first|refine Gu ?_|(with_reducible first|refine Gn fun b h=>?_|apply Gx|apply Gy|rintro px rfl|refine fun(h:H)=>?_|intro hb)|refine Gs ?_|refine Gt ?_|exact Gz rfl|fail))
 refine Ys fun o=>?_
 exact ⟨_,rfl,o.sub⟩
theorem E78 (f:ProcS):Ct D2 A55 [.agg ⟨E2 f⟩] [] fun v own=>(okS f=true∧∃ a,v=.tuple ⟨[.slice a 24 24,.bool true]⟩∧own [slC false B0 1 a 24 24 (A0 (Aw1 f))])∨(okS f=false∧v=.tuple ⟨[.slice none 0 0,.bool false]⟩∧own []):=by
 refine Ct.of Gh4 rfl fun h r=>Tr.eq (Gi3 ..) ?_;(try simp only[Nr,Nl,Nat.reduceAdd,Nat.reduceMul,Int.reduceToNat])
 (repeat' first|refine Gu ?_|(with_reducible first|refine Gn fun b h=>?_|apply Gx|apply Gy|rintro px rfl|refine fun(h:H)=>?_|intro hb)|refine Gs ?_|refine Gt ?_|exact Gz rfl|fail)
 refine Yc (Gn4) ?_;rintro _ h ⟨k,rfl,o⟩<;>(refine (?_:Tr _ _ _ _) o;(try simp only[Nr,Nl,Nat.reduceAdd,Nat.reduceMul,Int.reduceToNat]);(repeat' first|refine Gu ?_|(with_reducible first|refine Gn fun b h=>?_|rintro px rfl|refine fun(h:H)=>?_|intro hb)|refine Gs ?_|refine Gt ?_|exact Gz rfl|fail))
 refine Yc (G99 k f) ?_
 rintro v h (⟨hk,a,rfl,o⟩|⟨hk,rfl,o⟩)
 ·refine (?_:Tr _ _ _ _) o
  (try simp only[Nr,Nl,Nat.reduceAdd,Nat.reduceMul,Int.reduceToNat])
  (repeat' first|refine Gu ?_|(with_reducible first|refine Gn fun b h=>?_|apply Gx|apply Gy|rintro px rfl|refine fun(h:H)=>?_|intro hb)|refine Gs ?_|refine Gt ?_|exact Gz rfl|fail)
  refine Ys fun o=>?_
  exact .inl ⟨hk,a,rfl,o.sub⟩
 ·refine (?_:Tr _ _ _ _) o
  (try simp only[Nr,Nl,Nat.reduceAdd,Nat.reduceMul,Int.reduceToNat])
  (repeat' first|refine Gu ?_|(with_reducible first|refine Gn fun b h=>?_|apply Gx|apply Gy|rintro px rfl|refine fun(h:H)=>?_|intro hb)|refine Gs ?_|refine Gt ?_|exact Gz rfl|fail)
  refine Ys fun o=>?_
  exact .inr ⟨hk,rfl,o.sub⟩
def Bd3 (l:List UInt8):ProcS:=⟨byI l 0,byI l 1,byI l 2,byI l 3,two l 4,two l 6,two l 8,two l 10,[byI l 12,byI l 13,byI l 14,byI l 15,byI l 16,byI l 17,byI l 18,byI l 19],rfl⟩
def isS (l:List UInt8):Bool:=okS (Bd3 l) && decide (Aw1 (Bd3 l)=l)
theorem H84 (a:Option Addr) (c:Nat) (l:List UInt8) (hl:l.length=24):Ct D2 W7 [.slice a 24 c] [slC false B0 1 a 24 c (A0 l)] fun v own=>v=.tuple ⟨[.agg ⟨E2 (Bd3 l)⟩,.bool (isS l)]⟩∧own [slC false B0 1 a 24 c (A0 l)]:=by
 have key:∀ a1:Option Addr,CtP D2 E3 [.slice a1 24 24,.slice a 24 c] [slC false B0 1 a1 24 24 (A0 (Aw1 (Bd3 l))),slC false B0 1 a 24 c (A0 l)] (.bool (decide (Aw1 (Bd3 l)=l))):=fun a1=>by
  have e:=Eb1 (Bd3 l)
  have J:=Em0 (slC false B0 1 a1 (Aw1 (Bd3 l)).length 24 (A0 (Aw1 (Bd3 l)))) (slC false B0 1 a l.length c (A0 l)) a1 false 24 a false c (Aw1 (Bd3 l)) l (by rw [e];simp [D3])
  rwa [hl,e] at J
 refine Ct.of O3 rfl fun h r=>Tr.eq (G77 ..) ?_;(try simp only[Nr,Nl,Nat.reduceAdd,Nat.reduceMul,Int.reduceToNat])
 refine Yn fun b1 h=>?_
 refine Aa0 1 rfl fun hl2 hc2 _=>?_
 (repeat' first|refine Gu ?_|(with_reducible first|refine Gn fun b h=>?_|apply Gx|apply Gy|rintro px rfl|refine fun(h:H)=>?_|intro hb)|refine Gs ?_|refine Gt ?_|exact Gz rfl|fail)
 refine Tr.xIntS (v:=byI l 0) (Ad8 (by omega)) ?_
 (repeat' first|refine Gu ?_|(with_reducible first|refine Gn fun b h=>?_|apply Gx|apply Gy|rintro px rfl|refine fun(h:H)=>?_|intro hb)|refine Gs ?_|refine Gt ?_|exact Gz rfl|fail)
 refine Tr.xIntS (v:=byI l 1) (Ad8 (by omega)) ?_
 (repeat' first|refine Gu ?_|(with_reducible first|refine Gn fun b h=>?_|apply Gx|apply Gy|rintro px rfl|refine fun(h:H)=>?_|intro hb)|refine Gs ?_|refine Gt ?_|exact Gz rfl|fail)
 refine Tr.xIntS (v:=byI l 2) (Ad8 (by omega)) ?_
 (repeat' first|refine Gu ?_|(with_reducible first|refine Gn fun b h=>?_|apply Gx|apply Gy|rintro px rfl|refine fun(h:H)=>?_|intro hb)|refine Gs ?_|refine Gt ?_|exact Gz rfl|fail)
 refine Tr.xIntS (v:=byI l 3) (Ad8 (by omega)) ?_
 (repeat' first|refine Gu ?_|(with_reducible first|refine Gn fun b h=>?_|apply Gx|apply Gy|rintro px rfl|refine fun(h:H)=>?_|intro hb)|refine Gs ?_|refine Gt ?_|exact Gz rfl|fail)
 simp only [byI,An2]
 refine Tr.jmp O3 (Tr.eq (A51 ..) ?_);(try simp only[Nr,Nl,wl,Nat.reduceAdd,Nat.reduceMul,Int.reduceToNat])
 (repeat' first|refine Gu ?_|(with_reducible first|refine Gn fun b h=>?_|apply Gx|apply Gy|rintro px rfl|refine fun(h:H)=>?_|intro hb)|refine Gs ?_|refine Gt ?_|exact Gz rfl|((with_reducible apply Gv);·rfl)|refine Yt (by rfl) ?_|refine Yf (by rfl) ?_|fail)
 refine Tr.pcall (Et8 (some px) c 24 l 4 hl (by omega) (by simp [D3])) ?_;(try simp only[Nr,Nl,Nat.reduceAdd,Nat.reduceMul,Int.reduceToNat]);(repeat' first|refine Gu ?_|(with_reducible first|refine Gn fun b h=>?_|apply Gx|apply Gy|rintro px rfl|refine fun(h:H)=>?_|intro hb)|refine Gs ?_|refine Gt ?_|exact Gz rfl|fail)
 refine Tr.jmp O3 (Tr.eq (A51 ..) ?_);(try simp only[Nr,Nl,wl,Nat.reduceAdd,Nat.reduceMul,Int.reduceToNat])
 (repeat' first|refine Gu ?_|(with_reducible first|refine Gn fun b h=>?_|apply Gx|apply Gy|rintro px rfl|refine fun(h:H)=>?_|intro hb)|refine Gs ?_|refine Gt ?_|exact Gz rfl|((with_reducible apply Gv);·rfl)|refine Yt (by rfl) ?_|refine Yf (by rfl) ?_|fail)
 refine Tr.pcall (Et8 (some px) c 24 l 6 hl (by omega) (by simp [D3])) ?_;(try simp only[Nr,Nl,Nat.reduceAdd,Nat.reduceMul,Int.reduceToNat]);(repeat' first|refine Gu ?_|(with_reducible first|refine Gn fun b h=>?_|apply Gx|apply Gy|rintro px rfl|refine fun(h:H)=>?_|intro hb)|refine Gs ?_|refine Gt ?_|exact Gz rfl|fail)
 refine Tr.jmp O3 (Tr.eq (A51 ..) ?_);(try simp only[Nr,Nl,wl,Nat.reduceAdd,Nat.reduceMul,Int.reduceToNat])
 (repeat' first|refine Gu ?_|(with_reducible first|refine Gn fun b h=>?_|apply Gx|apply Gy|rintro px rfl|refine fun(h:H)=>?_|intro hb)|refine Gs ?_|refine Gt ?_|exact Gz rfl|((with_reducible apply Gv);·rfl)|refine Yt (by rfl) ?_|refine Yf (by rfl) ?_|fail)
 refine Tr.pcall (Et8 (some px) c 24 l 8 hl (by omega) (by simp [D3])) ?_;(try simp only[Nr,Nl,Nat.reduceAdd,Nat.reduceMul,Int.reduceToNat]);(repeat' first|refine Gu ?_|(with_reducible first|refine Gn fun b h=>?_|apply Gx|apply Gy|rintro px rfl|refine fun(h:H)=>?_|intro hb)|refine Gs ?_|refine Gt ?_|exact Gz rfl|fail)
 refine Tr.jmp O3 (Tr.eq (A51 ..) ?_);(try simp only[Nr,Nl,wl,Nat.reduceAdd,Nat.reduceMul,Int.reduceToNat])
 (repeat' first|refine Gu ?_|(with_reducible first|refine Gn fun b h=>?_|apply Gx|apply Gy|rintro px rfl|refine fun(h:H)=>?_|intro hb)|refine Gs ?_|refine Gt ?_|exact Gz rfl|((with_reducible apply Gv);·rfl)|refine Yt (by rfl) ?_|refine Yf (by rfl) ?_|fail)
 refine Tr.pcall (Et8 (some px) c 24 l 10 hl (by omega) (by simp [D3])) ?_;(try simp only[Nr,Nl,Nat.reduceAdd,Nat.reduceMul,Int.reduceToNat]);(repeat' first|refine Gu ?_|(with_reducible first|refine Gn fun b h=>?_|apply Gx|apply Gy|rintro px rfl|refine fun(h:H)=>?_|intro hb)|refine Gs ?_|refine Gt ?_|exact Gz rfl|fail)
 refine Tr.jmp O3 (Tr.eq (A51 ..) ?_);(try simp only[Nr,Nl,wl,Nat.reduceAdd,Nat.reduceMul,Int.reduceToNat])
 (repeat' first|refine Gu ?_|(with_reducible first|refine Gn fun b h=>?_|apply Gx|apply Gy|rintro px rfl|refine fun(h:H)=>?_|intro hb)|refine Gs ?_|refine Gt ?_|exact Gz rfl|((with_reducible apply Gv);·rfl)|refine Yt (by rfl) ?_|refine Yf (by rfl) ?_|fail)
 refine Tr.jmp O3 (Tr.eq (Y0 ..) ?_);(try simp only[Nr,Nl,wl,Nat.reduceAdd,Nat.reduceMul,Int.reduceToNat])
 (repeat' first|refine Gu ?_|(with_reducible first|refine Gn fun b h=>?_|apply Gx|apply Gy|rintro px rfl|refine fun(h:H)=>?_|intro hb)|refine Gs ?_|refine Gt ?_|exact Gz rfl|((with_reducible apply Gv);·rfl)|refine Yt (by rfl) ?_|refine Yf (by rfl) ?_|fail)
 refine Tr.xIntS (v:=byI l 12) (Ad8 (by omega)) ?_
 (repeat' first|refine Gu ?_|(with_reducible first|refine Gn fun b h=>?_|apply Gx|apply Gy|rintro px rfl|refine fun(h:H)=>?_|intro hb)|refine Gs ?_|refine Gt ?_|exact Gz rfl|((with_reducible apply Gv);·rfl)|refine Yt (by rfl) ?_|refine Yf (by rfl) ?_|fail)
 simp only [byI,An2]
 refine Tr.jmp O3 (Tr.eq (Y0 ..) ?_);(try simp only[Nr,Nl,wl,Nat.reduceAdd,Nat.reduceMul,Int.reduceToNat])
 (repeat' first|refine Gu ?_|(with_reducible first|refine Gn fun b h=>?_|apply Gx|apply Gy|rintro px rfl|refine fun(h:H)=>?_|intro hb)|refine Gs ?_|refine Gt ?_|exact Gz rfl|((with_reducible apply Gv);·rfl)|refine Yt (by rfl) ?_|refine Yf (by rfl) ?_|fail)
 refine Tr.xIntS (v:=byI l 13) (Ad8 (by omega)) ?_
 (repeat' first|refine Gu ?_|(with_reducible first|refine Gn fun b h=>?_|apply Gx|apply Gy|rintro px rfl|refine fun(h:H)=>?_|intro hb)|refine Gs ?_|refine Gt ?_|exact Gz rfl|((with_reducible apply Gv);·rfl)|refine Yt (by rfl) ?_|refine Yf (by rfl) ?_|fail)
 simp only [byI,An2]
 refine Tr.jmp O3 (Tr.eq (Y0 ..) ?_);(try simp only[Nr,Nl,wl,Nat.reduceAdd,Nat.reduceMul,Int.reduceToNat])
 (repeat' first|refine Gu ?_|(with_reducible first|refine Gn fun b h=>?_|apply Gx|apply Gy|rintro px rfl|refine fun(h:H)=>?_|intro hb)|refine Gs ?_|refine Gt ?_|exact Gz rfl|((with_reducible apply Gv);·rfl)|refine Yt (by rfl) ?_|refine Yf (by rfl) ?_|fail)
 refine Tr.xIntS (v:=byI l 14) (Ad8 (by omega)) ?_
 (repeat' first|refine Gu ?_|(with_reducible first|refine Gn fun b h=>?_|apply Gx|apply Gy|rintro px rfl|refine fun(h:H)=>?_|intro hb)|refine Gs ?_|refine Gt ?_|exact Gz rfl|((with_reducible apply Gv);·rfl)|refine Yt (by rfl) ?_|refine Yf (by rfl) ?_|fail)
 simp only [byI,An2]
 refine Tr.jmp O3 (Tr.eq (Y0 ..) ?_);(try simp only[Nr,Nl,wl,Nat.reduceAdd,Nat.reduceMul,Int.reduceToNat])
 (repeat' first|refine Gu ?_|(with_reducible first|refine Gn fun b h=>?_|apply Gx|apply Gy|rintro px rfl|refine fun(h:H)=>?_|intro hb)|refine Gs ?_|refine Gt ?_|exact Gz rfl|((with_reducible apply Gv);·rfl)|refine Yt (by rfl) ?_|refine Yf (by rfl) ?_|fail)
 refine Tr.xIntS (v:=byI l 15) (Ad8 (by omega)) ?_
 (repeat' first|refine Gu ?_|(with_reducible first|refine Gn fun b h=>?_|apply Gx|apply Gy|rintro px rfl|refine fun(h:H)=>?_|intro hb)|refine Gs ?_|refine Gt ?_|exact Gz rfl|((with_reducible apply Gv);·rfl)|refine Yt (by rfl) ?_|refine Yf (by rfl) ?_|fail)
 simp only [byI,An2]
 refine Tr.jmp O3 (Tr.eq (Y0 ..) ?_);(try simp only[Nr,Nl,wl,Nat.reduceAdd,Nat.reduceMul,Int.reduceToNat])
 (repeat' first|refine Gu ?_|(with_reducible first|refine Gn fun b h=>?_|apply Gx|apply Gy|rintro px rfl|refine fun(h:H)=>?_|intro hb)|refine Gs ?_|refine Gt ?_|exact Gz rfl|((with_reducible apply Gv);·rfl)|refine Yt (by rfl) ?_|refine Yf (by rfl) ?_|fail)
 refine Tr.xIntS (v:=byI l 16) (Ad8 (by omega)) ?_
 (repeat' first|refine Gu ?_|(with_reducible first|refine Gn fun b h=>?_|apply Gx|apply Gy|rintro px rfl|refine fun(h:H)=>?_|intro hb)|refine Gs ?_|refine Gt ?_|exact Gz rfl|((with_reducible apply Gv);·rfl)|refine Yt (by rfl) ?_|refine Yf (by rfl) ?_|fail)
 simp only [byI,An2]
 refine Tr.jmp O3 (Tr.eq (Y0 ..) ?_);(try simp only[Nr,Nl,wl,Nat.reduceAdd,Nat.reduceMul,Int.reduceToNat])
 (repeat' first|refine Gu ?_|(with_reducible first|refine Gn fun b h=>?_|apply Gx|apply Gy|rintro px rfl|refine fun(h:H)=>?_|intro hb)|refine Gs ?_|refine Gt ?_|exact Gz rfl|((with_reducible apply Gv);·rfl)|refine Yt (by rfl) ?_|refine Yf (by rfl) ?_|fail)
 refine Tr.xIntS (v:=byI l 17) (Ad8 (by omega)) ?_
 (repeat' first|refine Gu ?_|(with_reducible first|refine Gn fun b h=>?_|apply Gx|apply Gy|rintro px rfl|refine fun(h:H)=>?_|intro hb)|refine Gs ?_|refine Gt ?_|exact Gz rfl|((with_reducible apply Gv);·rfl)|refine Yt (by rfl) ?_|refine Yf (by rfl) ?_|fail)
 simp only [byI,An2]
 refine Tr.jmp O3 (Tr.eq (Y0 ..) ?_);(try simp only[Nr,Nl,wl,Nat.reduceAdd,Nat.reduceMul,Int.reduceToNat])
 (repeat' first|refine Gu ?_|(with_reducible first|refine Gn fun b h=>?_|apply Gx|apply Gy|rintro px rfl|refine fun(h:H)=>?_|intro hb)|refine Gs ?_|refine Gt ?_|exact Gz rfl|((with_reducible apply Gv);·rfl)|refine Yt (by rfl) ?_|refine Yf (by rfl) ?_|fail)
 refine Tr.xIntS (v:=byI l 18) (Ad8 (by omega)) ?_
 (repeat' first|refine Gu ?_|(with_reducible first|refine Gn fun b h=>?_|apply Gx|apply Gy|rintro px rfl|refine fun(h:H)=>?_|intro hb)|refine Gs ?_|refine Gt ?_|exact Gz rfl|((with_reducible apply Gv);·rfl)|refine Yt (by rfl) ?_|refine Yf (by rfl) ?_|fail)
 simp only [byI,An2]
 refine Tr.jmp O3 (Tr.eq (Y0 ..) ?_);(try simp only[Nr,Nl,wl,Nat.reduceAdd,Nat.reduceMul,Int.reduceToNat])
 (repeat' first|refine Gu ?_|(with_reducible first|refine Gn fun b h=>?_|apply Gx|apply Gy|rintro px rfl|refine fun(h:H)=>?_|intro hb)|refine Gs ?_|refine Gt ?_|exact Gz rfl|((with_reducible apply Gv);·rfl)|refine Yt (by rfl) ?_|refine Yf (by rfl) ?_|fail)
 refine Tr.xIntS (v:=byI l 19) (Ad8 (by omega)) ?_
 (repeat' first|refine Gu ?_|(with_reducible first|refine Gn fun b h=>?_|apply Gx|apply Gy|rintro px rfl|refine fun(h:H)=>?_|intro hb)|refine Gs ?_|refine Gt ?_|exact Gz rfl|((with_reducible apply Gv);·rfl)|refine Yt (by rfl) ?_|refine Yf (by rfl) ?_|fail)
 simp only [byI,An2]
 refine Tr.jmp O3 (Tr.eq (Y0 ..) ?_);(try simp only[Nr,Nl,wl,Nat.reduceAdd,Nat.reduceMul,Int.reduceToNat])
 refine Yf rfl ?_
 refine Tr.xAgg (xs:=E2 (Bd3 l)) ⟨Nat.le_of_ble_eq_true rfl,rfl⟩ ?_
 refine Yc (E78 (Bd3 l)) ?_
 rintro v h (⟨hk,a1,rfl,o⟩|⟨hk,rfl,o⟩)
 ·refine (?_:Tr _ _ _ _) o
  (try simp only[Nr,Nl,Nat.reduceAdd,Nat.reduceMul,Int.reduceToNat])
  refine Tr.dx ?_
  refine Tr.dx ?_
  refine Tr.dx ?_
  refine Tr.xAgg (xs:=E2 (Bd3 l)) ⟨Nat.le_of_ble_eq_true rfl,rfl⟩ ?_
  refine Yb (Yt rfl ?_)
  refine Tr.pcall (key a1) ?_
  refine Tr.dx ?_
  refine Tr.xAgg (xs:=E2 (Bd3 l)) ⟨Nat.le_of_ble_eq_true rfl,rfl⟩ ?_
  (repeat' first|refine Gu ?_|(with_reducible first|refine Gn fun b h=>?_|apply Gx|apply Gy|rintro px rfl|refine fun(h:H)=>?_|intro hb)|refine Gs ?_|refine Gt ?_|exact Gz rfl|fail)
  refine Ys fun o=>(?_:Tr _ _ _ _) o;(try simp only[Nr,Nl,Nat.reduceAdd,Nat.reduceMul,Int.reduceToNat])
  (repeat' first|refine Gu ?_|(with_reducible first|refine Gn fun b h=>?_|apply Gx|apply Gy|rintro px rfl|refine fun(h:H)=>?_|intro hb)|refine Gs ?_|refine Gt ?_|exact Gz rfl|fail)
  refine Ys fun o=>?_
  exact ⟨by unfold isS;rw [hk,Bool.true_and],o.sub⟩
 ·refine (?_:Tr _ _ _ _) o
  (try simp only[Nr,Nl,Nat.reduceAdd,Nat.reduceMul,Int.reduceToNat])
  refine Tr.dx ?_
  refine Tr.dx ?_
  refine Tr.dx ?_
  refine Tr.xAgg (xs:=E2 (Bd3 l)) ⟨Nat.le_of_ble_eq_true rfl,rfl⟩ ?_
  (repeat' first|refine Gu ?_|(with_reducible first|refine Gn fun b h=>?_|apply Gx|apply Gy|rintro px rfl|refine fun(h:H)=>?_|intro hb)|refine Gs ?_|refine Gt ?_|exact Gz rfl|fail)
  refine Ys fun o=>?_
  exact ⟨by unfold isS;rw [hk];rfl,o.sub⟩
theorem G64 (k:Nat) (a:Option Addr) (c:Nat) (l:List UInt8) (hl:l.length=24):Ct D2 V5 [P0 k,.slice a 24 c] [E66 k,slC false B0 1 a 24 c (A0 l)] fun v own=>v=.tuple ⟨[.agg ⟨E2 (if isS l then Bd3 l else .zero)⟩,.bool (isS l)]⟩∧own [E66 k,slC false B0 1 a 24 c (A0 l)]:=by
 refine Ct.of B40 rfl fun h r=>Tr.eq (B38 ..) ?_;(try simp only[Nr,Nl,Nat.reduceAdd,Nat.reduceMul,Int.reduceToNat])
 (repeat' first|refine Gu ?_|(with_reducible first|refine Gn fun b h=>?_|apply Gx|apply Gy|rintro px rfl|refine fun(h:H)=>?_|intro hb)|refine Gs ?_|refine Gt ?_|exact Gz rfl|fail)
 refine Yf rfl ?_
 (repeat' first|refine Gu ?_|(with_reducible first|refine Gn fun b h=>?_|rintro px rfl|refine fun(h:H)=>?_|intro hb)|refine Gs ?_|refine Gt ?_|exact Gz rfl|fail)
 refine Yc (Ep1 24 a c l hl (by simp [D3])) ?_;rintro _ h ⟨a1,c1,rfl,o⟩<;>(refine (?_:Tr _ _ _ _) o;(try simp only[Nr,Nl,Nat.reduceAdd,Nat.reduceMul,Int.reduceToNat]);(repeat' first|refine Gu ?_|(with_reducible first|refine Gn fun b h=>?_|rintro px rfl|refine fun(h:H)=>?_|intro hb)|refine Gs ?_|refine Gt ?_|exact Gz rfl|fail))
 refine Yc (H84 a1 c1 l hl) ?_;rintro _ h ⟨rfl,o⟩<;>(refine (?_:Tr _ _ _ _) o;(try simp only[Nr,Nl,Nat.reduceAdd,Nat.reduceMul,Int.reduceToNat]);(repeat' first|refine Gu ?_|(with_reducible first|refine Gn fun b h=>?_|rintro px rfl|refine fun(h:H)=>?_|intro hb)|refine Gs ?_|refine Gt ?_|exact Gz rfl|fail))
 cases hk:isS l with
 | false =>
  (repeat' first|refine Gu ?_|(with_reducible first|refine Gn fun b h=>?_|apply Gx|apply Gy|rintro px rfl|refine fun(h:H)=>?_|intro hb)|refine Gs ?_|refine Gt ?_|exact Gz rfl|fail)
  refine Ys fun o=>?_
  exact ⟨rfl,o.sub⟩
 | true =>
  (repeat' first|refine Gu ?_|(with_reducible first|refine Gn fun b h=>?_|apply Gx|apply Gy|rintro px rfl|refine fun(h:H)=>?_|intro hb)|refine Gs ?_|refine Gt ?_|exact Gz rfl|fail)
  refine Ys fun o=>?_
  exact ⟨rfl,o.sub⟩
def W0 (l:List UInt8):ProcS × Int:=if l.all (·==0) then (.zero,0) else if isS l then (Bd3 l,1) else (.zero,2)
theorem Hl8 (a:Option Addr) (c:Nat) (l:List UInt8) (hl:l.length=24):Ct D2 A40 [.slice a 24 c] [slC false B0 1 a 24 c (A0 l)] fun v own=>v=.tuple ⟨[.agg ⟨E2 (W0 l).1⟩,int (W0 l).2]⟩∧own [slC false B0 1 a 24 c (A0 l)]:=by
 refine Ct.of Ge6 rfl fun h r=>Tr.eq (Ge5 ..) ?_;(try simp only[Nr,Nl,Nat.reduceAdd,Nat.reduceMul,Int.reduceToNat])
 refine Yn fun b1 h=>?_
 refine Yb (Yt rfl ?_)
 refine Tr.pcall (Eo1 24 a c l hl (by simp [D3])) ?_;(try simp only[Nr,Nl,Nat.reduceAdd,Nat.reduceMul,Int.reduceToNat]);(repeat' first|refine Gu ?_|(with_reducible first|refine Gn fun b h=>?_|rintro px rfl|refine fun(h:H)=>?_|intro hb)|refine Gs ?_|refine Gt ?_|exact Gz rfl|fail)
 refine Ys fun o=>(?_:Tr _ _ _ _) o;(try simp only[Nr,Nl,Nat.reduceAdd,Nat.reduceMul,Int.reduceToNat])
 cases hb:l.all (·==0) with
 | true =>
  (repeat' first|refine Gu ?_|(with_reducible first|refine Gn fun b h=>?_|apply Gx|apply Gy|rintro px rfl|refine fun(h:H)=>?_|intro hb)|refine Gs ?_|refine Gt ?_|exact Gz rfl|fail)
  refine Ys fun o=>?_
  exact ⟨by unfold W0;rw [hb];rfl,o.sub⟩
 | false =>
  (repeat' first|refine Gu ?_|(with_reducible first|refine Gn fun b h=>?_|rintro px rfl|refine fun(h:H)=>?_|intro hb)|refine Gs ?_|refine Gt ?_|exact Gz rfl|fail)
  refine Yc (Gn4) ?_;rintro _ h ⟨k,rfl,o⟩<;>(refine (?_:Tr _ _ _ _) o;(try simp only[Nr,Nl,Nat.reduceAdd,Nat.reduceMul,Int.reduceToNat]);(repeat' first|refine Gu ?_|(with_reducible first|refine Gn fun b h=>?_|rintro px rfl|refine fun(h:H)=>?_|intro hb)|refine Gs ?_|refine Gt ?_|exact Gz rfl|fail))
  refine Yc (G64 k a c l hl) ?_;rintro _ h ⟨rfl,o⟩<;>(refine (?_:Tr _ _ _ _) o;(try simp only[Nr,Nl,Nat.reduceAdd,Nat.reduceMul,Int.reduceToNat]);(repeat' first|refine Gu ?_|(with_reducible first|refine Gn fun b h=>?_|rintro px rfl|refine fun(h:H)=>?_|intro hb)|refine Gs ?_|refine Gt ?_|exact Gz rfl|fail))
  cases hk:isS l with
  | false =>
   (repeat' first|refine Gu ?_|(with_reducible first|refine Gn fun b h=>?_|apply Gx|apply Gy|rintro px rfl|refine fun(h:H)=>?_|intro hb)|refine Gs ?_|refine Gt ?_|exact Gz rfl|fail)
   refine Ys fun o=>?_
   exact ⟨by unfold W0;rw [hb,hk];rfl,o.sub⟩
  | true =>
   (repeat' first|refine Gu ?_|(with_reducible first|refine Gn fun b h=>?_|apply Gx|apply Gy|rintro px rfl|refine fun(h:H)=>?_|intro hb)|refine Gs ?_|refine Gt ?_|exact Gz rfl|fail)
   refine Ys fun o=>?_
   exact ⟨by unfold W0;rw [hb,hk];rfl,o.sub⟩
def L9 (l:List UInt8) (a:Nat) (b:List UInt8):List UInt8:=l.take a++b++l.drop (a+b.length)
theorem Ag4 {l b:List UInt8} {a:Nat} (h:a+b.length≤l.length):(L9 l a b).length=l.length:=by simp [L9];omega
theorem Bk2 {l b:List UInt8} {a:Nat} (h:a+b.length≤l.length) (i:Nat):(L9 l a b)[i]?=if a≤i∧i<a+b.length then b[i-a]? else l[i]?:=by
 unfold L9
 by_cases h1:i<a
 ·rw [if_neg (by omega),List.append_assoc,List.getElem?_append_left (by simp;omega),List.getElem?_take,if_pos h1]
 ·rw [List.append_assoc,List.getElem?_append_right (by simp;omega),List.length_take,Nat.min_eq_left (by omega)]
  by_cases h2:i<a+b.length
  ·rw [if_pos ⟨by omega,h2⟩,List.getElem?_append_left (by omega)]
  ·rw [if_neg (by omega),List.getElem?_append_right (by omega),List.getElem?_drop];congr 1;omega
def slice (l:List UInt8) (a n:Nat):List UInt8:=(l.drop a).take n
theorem Bv5 (l:List UInt8) (a n i:Nat):(slice l a n)[i]?=if i<n then l[a+i]? else none:=by
 unfold slice;rw [List.getElem?_take];split
 ·rw [List.getElem?_drop]
 ·rfl
theorem Gn5 {l:List UInt8} {a n:Nat} (h:a+n≤l.length):(slice l a n).length=n:=by simp [slice];omega
abbrev Rg:=List (Nat × Nat)
def A10:List UInt8→Rg→List (List UInt8)→List UInt8
 | l,(lo,_)::rg,x::m=>A10 (L9 l lo x) rg m
 | l,_,_=>l
structure Fit (size:Nat) (rg:Rg) (m:List (List UInt8)):Prop where
 len:m.length=rg.length
 each:∀ (j lo n:Nat),rg[j]?=some (lo,n)→lo+n≤size∧∃ x,m[j]?=some x∧x.length=n
def RgOk (rg:Rg):Prop:=∀ (i j lo n lo' n':Nat),i≠j→rg[i]?=some (lo,n)→rg[j]?=some (lo',n')→lo+n≤lo'∨lo'+n'≤lo
theorem Fit.tail {size:Nat} {p:Nat × Nat} {rg:Rg} {x:List UInt8} {m:List (List UInt8)} (f:Fit size (p::rg) (x::m)):Fit size rg m:=⟨by simpa using f.len,fun j lo n h=>by simpa using f.each (j+1) lo n (by simpa using h)⟩
theorem Fit.head {size lo n:Nat} {rg:Rg} {x:List UInt8} {m:List (List UInt8)} (f:Fit size ((lo,n)::rg) (x::m)):lo+n≤size∧x.length=n:=by
 obtain ⟨h,y,hy,hl⟩:=f.each 0 lo n rfl
 simp at hy;subst hy;exact ⟨h,hl⟩
theorem RgOk.tail {p:Nat × Nat} {rg:Rg} (k:RgOk (p::rg)):RgOk rg:=fun i j lo n lo' n' hij hi hj=>k (i+1) (j+1) lo n lo' n' (by omega) (by simpa using hi) (by simpa using hj)
theorem Dq0:∀ {rg:Rg} {m:List (List UInt8)} {l:List UInt8},Fit l.length rg m→(A10 l rg m).length=l.length
 | [],m,l,f=>by simp [A10]
 | (lo,n)::rg,[],l,f=>by simp [A10]
 | (lo,n)::rg,x::m,l,f=>by
  have h:=f.head
  have e:=Ag4 (l:=l) (b:=x) (a:=lo) (by omega)
  unfold A10
  rw [Dq0 (by rw [e];exact f.tail),e]
theorem Dm0:∀ {rg:Rg} {m:List (List UInt8)} {l:List UInt8},Fit l.length rg m→∀ i,(∀ (j lo n:Nat),rg[j]?=some (lo,n)→i<lo∨lo+n≤i)→(A10 l rg m)[i]?=l[i]?
 | [],m,l,f,i,h=>by simp [A10]
 | (lo,n)::rg,[],l,f,i,h=>by simp [A10]
 | (lo,n)::rg,x::m,l,f,i,h=>by
  have h0:=f.head
  have e:=Ag4 (l:=l) (b:=x) (a:=lo) (by omega)
  unfold A10
  rw [Dm0 (by rw [e];exact f.tail) i (fun j lo' n' hj=>h (j+1) lo' n' (by simpa using hj)),Bk2 (by omega),if_neg]
  have:=h 0 lo n rfl;omega
theorem B59:∀ {rg:Rg} {m:List (List UInt8)} {l:List UInt8},Fit l.length rg m→RgOk rg→∀ (j lo n:Nat) (x:List UInt8),rg[j]?=some (lo,n)→m[j]?=some x→∀ i,i<n→(A10 l rg m)[lo+i]?=x[i]?
 | [],m,l,f,k,j,lo,n,x,h,hx,i,hi=>by simp at h
 | (lo0,n0)::rg,[],l,f,k,j,lo,n,x,h,hx,i,hi=>by simp at hx
 | (lo0,n0)::rg,x0::m,l,f,k,j,lo,n,x,h,hx,i,hi=>by
  have h0:=f.head
  have e:=Ag4 (l:=l) (b:=x0) (a:=lo0) (by omega)
  unfold A10
  cases j with
  | zero =>
   simp at h hx
   obtain ⟨rfl,rfl⟩:=h;subst hx
   rw [Dm0 (by rw [e];exact f.tail) (lo0+i) (fun j lo' n' hj=>by
    have:=k 0 (j+1) lo0 n0 lo' n' (by omega) rfl (by simpa using hj)
    omega),Bk2 (by omega),if_pos (by omega)]
   congr 1;omega
  | succ j=>exact B59 (by rw [e];exact f.tail) k.tail j lo n x (by simpa using h) (by simpa using hx) i hi
theorem Hi8 {rg:Rg} {m:List (List UInt8)} {l:List UInt8} (f:Fit l.length rg m) (k:RgOk rg) {j lo n:Nat} {x:List UInt8} (h:rg[j]?=some (lo,n)) (hx:m[j]?=some x) {a c:Nat} (hc:a+c≤n):slice (A10 l rg m) (lo+a) c=slice x a c:=by
 refine List.ext_getElem? fun i=>?_
 rw [Bv5,Bv5]
 split
 ·rw [Nat.add_assoc,B59 f k j lo n x h hx (a+i) (by omega)]
 ·rfl
theorem Fit.set {size:Nat} {rg:Rg} {m:List (List UInt8)} (f:Fit size rg m) {j lo n:Nat} (h:rg[j]?=some (lo,n)) {y:List UInt8} (hy:y.length=n):Fit size rg (m.set j y):=⟨by simpa using f.len,fun i lo' n' hi=>by
 obtain ⟨h1,z,hz,hl⟩:=f.each i lo' n' hi
 refine ⟨h1,?_⟩
 by_cases hij:j=i
 ·subst hij
  rw [h] at hi;cases hi
  exact ⟨y,by simp [(List.getElem?_eq_some_iff.1 hz).1],hy⟩
 ·exact ⟨z,by rw [List.getElem?_set_ne hij];exact hz,hl⟩⟩
theorem Hd5 {rg:Rg} {m:List (List UInt8)} {l:List UInt8} (f:Fit l.length rg m) (k:RgOk rg) {j lo n:Nat} {x:List UInt8} (h:rg[j]?=some (lo,n)) (hx:m[j]?=some x) {a:Nat} {b:List UInt8} (hc:a+b.length≤n):L9 (A10 l rg m) (lo+a) b=A10 l rg (m.set j (L9 x a b)):=by
 obtain ⟨h1,y,hy,hl⟩:=f.each j lo n h
 rw [hx] at hy;cases hy
 have e:=Ag4 (l:=x) (b:=b) (a:=a) (by omega)
 have f2:=f.set h (y:=L9 x a b) (by omega)
 have lp:=Dq0 f
 refine List.ext_getElem? fun i=>?_
 rw [Bk2 (by omega)]
 by_cases hi:lo≤i∧i<lo+n
 ·obtain ⟨i',rfl⟩:∃ i',i=lo+i':=⟨i-lo,by omega⟩
  rw [B59 f2 k j lo n (L9 x a b) h (by simp [(List.getElem?_eq_some_iff.1 hx).1]) i' (by omega),Bk2 (by omega),B59 f k j lo n x h hx i' (by omega)]
  by_cases h2:a≤i'∧i'<a+b.length
  ·rw [if_pos (by omega),if_pos h2];congr 1;omega
  ·rw [if_neg (by omega),if_neg h2]
 ·rw [if_neg (by omega)]
  by_cases ho:∃ (j' lo' n':Nat),rg[j']?=some (lo',n')∧lo'≤i∧i<lo'+n'
  ·obtain ⟨j',lo',n',hj',h3,h4⟩:=ho
   have hne:j≠j':=fun e=>by subst e;rw [h] at hj';cases hj';omega
   obtain ⟨_,z,hz,_⟩:=f.each j' lo' n' hj'
   obtain ⟨i',rfl⟩:∃ i',i=lo'+i':=⟨i-lo',by omega⟩
   rw [B59 f k j' lo' n' z hj' hz i' (by omega),B59 f2 k j' lo' n' z hj' (by rw [List.getElem?_set_ne hne];exact hz) i' (by omega)]
  ·have hall:∀ (j' lo' n':Nat),rg[j']?=some (lo',n')→i<lo'∨lo'+n'≤i:=fun j' lo' n' hj'=>by
    by_cases hh:lo'≤i∧i<lo'+n'
    ·exact absurd ⟨j',lo',n',hj',hh.1,hh.2⟩ ho
    ·omega
   rw [Dm0 f i hall,Dm0 f2 i hall]
structure RecS where
 kind:Int
 index:Int
deriving DecidableEq
abbrev Z3 (r:RecS):List Value:=[int r.kind,int r.index]
structure Fr where
 S:KS
 N:Nat
 env:Int
 caps:List Int
 rg:Rg
structure FrOk (F:Fr):Prop where
 ok:KOk F.N F.S
 hN:F.N+1<1000000000
 ne:0<F.caps.length
 small:F.caps.length≤40
 len:F.rg.length=F.caps.length
 env:¬ (F.env<0∨F.env≥(F.S.envs.length:Int))
 pl:∀ (j:Nat) (cap:Int) (lo n:Nat),F.caps[j]?=some cap→F.rg[j]?=some (lo,n)→∀ (a m:Nat) (right:Int),right=1∨right=2→a+m≤n→P9 F.S.tabs F.S.regs F.env cap right a m=(((lo+a:Nat):Int),0)
 dj:RgOk F.rg
 own:∃ lo,F.rg[0]?=some (lo,492)
 brs:∀ (j lo n:Nat),0<j→F.rg[j]?=some (lo,n)→n=40
def Fr.at (F:Fr) (m:List (List UInt8)):KS:=Bp6 F.S (A10 F.S.mem F.rg m)
structure CX where
 m:List (List UInt8)
 bad:List RecS
def Ah7:Nat→List RecS→List MapEntry
 | _,[]=>[]
 | i,r::l=>{ key:=.agg ⟨Z3 r⟩,val:=int 1,born:=i }::Ah7 (i+1) l
abbrev Ic9 (c k:Nat) (env:Int) (caps:List Int) (bad:List RecS) (x:Option Addr × Nat × Nat):List HP :=
 [pt c (.cells Dh0 false [P0 k,int env,.slice x.1 caps.length x.2.1,.map (some x.2.2)]),slC false D6 1 x.1 caps.length x.2.1 (caps.map int),pt x.2.2 (.map (Ah7 0 bad) bad.length)]
def W5 (c k:Nat) (env:Int) (caps:List Int) (bad:List RecS):HP:=hex fun x=>sl (Ic9 c k env caps bad x)
instance {c k:Nat} {env:Int} {caps:List Int} {bad:List RecS}:Chk (W5 c k env caps bad) (Ic9 c k env caps bad):=⟨rfl⟩
abbrev cmF (c k:Nat) (F:Fr) (x:CX):List HP:=[G0 k (F.at x.m),W5 c k F.env F.caps x.bad,pu (Fit F.S.mem.length F.rg x.m)]
def cmC (c k:Nat) (F:Fr) (x:CX):HP:=hex fun _:Unit=>sl (cmF c k F x)
instance {c k:Nat} {F:Fr} {x:CX}:Chk (cmC c k F x) (fun _:Unit=>cmF c k F x):=⟨rfl⟩
def Z0 (nc:Nat) (kind:Int):Int:=if kind=1 then 8 else if kind=2 then 12 else if kind=3 then 3+nc else 1
def H5 (nc:Nat) (r:RecS):Option (Nat × Nat × Nat) :=
 if r.index<0∨r.index≥Z0 nc r.kind then none
 else if r.kind=1 then some (0,24*r.index.toNat,24)
 else if r.kind=2 then some (0,192+8*r.index.toNat,8)
 else if r.kind=3 then if r.index<4 then some (0,288+40*r.index.toNat,40) else some (r.index.toNat-3,0,40)
 else if r.kind=4 then some (0,448,40)
 else some (0,488,4)
def G00 (caps:List Int):Option (Nat × Nat × Nat)→List Value
 | some (j,a,n)=>[int (caps.getD j 0),int a,int n]
 | none=>[int 0,int 0,int 0]
theorem Gw3 (c k:Nat) (env:Int) (caps:List Int) (bad:List RecS) (kind:Int) (hs:caps.length≤40):CtP D2 Ab7 [P0 c,int kind] [W5 c k env caps bad] (int (Z0 caps.length kind)):=by
 have e:IntKind.wrap .i64 (IntKind.wrap .i64 (4+(caps.length:Int))-1)=3+(caps.length:Int):=by rw [D1,D1];omega
 refine CtP.of Dy5 rfl fun h r=>Tr.eq (Dy9 ..) ?_;(try simp only[Nr,Nl,Nat.reduceAdd,Nat.reduceMul,Int.reduceToNat])
 refine D7 (W5 c k env caps bad) fun ⟨a,n,mb⟩=>?_;(try simp only[Nr,Nl,Nat.reduceAdd,Nat.reduceMul,Int.reduceToNat])
 unfold Z0
 by_cases h1:kind=1
 ·refine Yt (by simpa using h1) ?_
  rw [if_pos h1];(repeat' first|refine Gu ?_|(with_reducible first|refine Gn fun b h=>?_|apply Gx|apply Gy|rintro px rfl|refine fun(h:H)=>?_|intro hb)|refine Gs ?_|refine Gt ?_|exact Gz rfl|fail)
 refine Yf (by simpa using h1) ?_
 rw [if_neg h1]
 by_cases h2:kind=2
 ·refine Yt (by simpa using h2) ?_
  rw [if_pos h2];(repeat' first|refine Gu ?_|(with_reducible first|refine Gn fun b h=>?_|apply Gx|apply Gy|rintro px rfl|refine fun(h:H)=>?_|intro hb)|refine Gs ?_|refine Gt ?_|exact Gz rfl|fail)
 refine Yf (by simpa using h2) ?_
 rw [if_neg h2]
 by_cases h3:kind=3
 ·refine Yt (by simpa using h3) ?_
  rw [if_pos h3];(repeat' first|refine Gu ?_|(with_reducible first|refine Gn fun b h=>?_|apply Gx|apply Gy|rintro px rfl|refine fun(h:H)=>?_|intro hb)|refine Gs ?_|refine Gt ?_|exact Gz rfl|fail)
  refine Ys fun o=>?_
  rw [e];exact ⟨by first|rfl|trivial,by first|rfl|trivial⟩
 refine Yf (by simpa using h3) ?_
 rw [if_neg h3];(repeat' first|refine Gu ?_|(with_reducible first|refine Gn fun b h=>?_|apply Gx|apply Gy|rintro px rfl|refine fun(h:H)=>?_|intro hb)|refine Gs ?_|refine Gt ?_|exact Gz rfl|fail)
theorem El1 (c k:Nat) (env:Int) (caps:List Int) (bad:List RecS) (rc:RecS) (hs:caps.length≤40) (hn:0<caps.length):Ct D2 Q6 [P0 c,.agg ⟨Z3 rc⟩] [W5 c k env caps bad] fun v own =>
  v=.tuple ⟨[.agg ⟨G00 caps (H5 caps.length rc)⟩,.bool (H5 caps.length rc).isSome]⟩∧own [W5 c k env caps bad]:=by
 have hg:∀ j,j<caps.length→(caps.map int)[j]?=some (int (caps.getD j 0)):=fun j hj=>by rw [List.getElem?_map,O7 0 hj];rfl
 refine Ct.of Dr7 rfl fun h r=>Tr.eq (Ds1 ..) ?_;(try simp only[Nr,Nl,Nat.reduceAdd,Nat.reduceMul,Int.reduceToNat])
 (repeat' first|refine Gu ?_|(with_reducible first|refine Gn fun b h=>?_|rintro px rfl|refine fun(h:H)=>?_|intro hb)|refine Gs ?_|refine Gt ?_|exact Gz rfl|fail)
 refine Tr.orG (c:=decide (rc.index≥Z0 caps.length rc.kind)) (fun hb=>?_) ?_
 ·(repeat' first|refine Gu ?_|(with_reducible first|refine Gn fun b h=>?_|apply Gx|apply Gy|rintro px rfl|refine fun(h:H)=>?_|intro hb)|refine Gs ?_|refine Gt ?_|exact Gz rfl|fail)
  refine Tr.pcall (Gw3 c k env caps bad rc.kind hs) ?_;(try simp only[Nr,Nl,Nat.reduceAdd,Nat.reduceMul,Int.reduceToNat]);(repeat' first|refine Gu ?_|(with_reducible first|refine Gn fun b h=>?_|apply Gx|apply Gy|rintro px rfl|refine fun(h:H)=>?_|intro hb)|refine Gs ?_|refine Gt ?_|exact Gz rfl|fail)
 by_cases hi:rc.index<0∨rc.index≥Z0 caps.length rc.kind
 ·refine Yt (by simp only [Bool.or_eq_true,decide_eq_true_eq];exact hi) ?_
  have e:H5 caps.length rc=none:=by unfold H5;rw [if_pos hi]
  rw [e]
  (repeat' first|refine Gu ?_|(with_reducible first|refine Gn fun b h=>?_|apply Gx|apply Gy|rintro px rfl|refine fun(h:H)=>?_|intro hb)|refine Gs ?_|refine Gt ?_|exact Gz rfl|fail)
  refine Ys fun o=>?_
  exact ⟨rfl,o.sub⟩
 refine Yf (by simp only [Bool.or_eq_false_iff,decide_eq_false_iff_not];omega) ?_
 refine D7 (W5 c k env caps bad) fun ⟨a,n,mb⟩=>?_;(try simp only[Nr,Nl,Nat.reduceAdd,Nat.reduceMul,Int.reduceToNat])
 (repeat' first|refine Gu ?_|(with_reducible first|refine Gn fun b h=>?_|apply Gx|apply Gy|rintro px rfl|refine fun(h:H)=>?_|intro hb)|refine Gs ?_|refine Gt ?_|exact Gz rfl|fail)
 refine Tr.xIntS (v:=caps.getD 0 0) (hg 0 hn) ?_
 (repeat' first|refine Gu ?_|(with_reducible first|refine Gn fun b h=>?_|apply Gx|apply Gy|rintro px rfl|refine fun(h:H)=>?_|intro hb)|refine Gs ?_|refine Gt ?_|exact Gz rfl|fail)
 by_cases h1:rc.kind=1
 ·refine Yt (by simpa using h1) ?_
  have e:H5 caps.length rc=some (0,24*rc.index.toNat,24):=by unfold H5;rw [if_neg hi,if_pos h1]
  have hm:Z0 caps.length rc.kind=8:=by unfold Z0;rw [if_pos h1]
  have e1:IntKind.wrap .i64 (24*rc.index)=((24*rc.index.toNat:Nat):Int):=by rw [D1];omega
  rw [e,e1]
  (repeat' first|refine Gu ?_|(with_reducible first|refine Gn fun b h=>?_|apply Gx|apply Gy|rintro px rfl|refine fun(h:H)=>?_|intro hb)|refine Gs ?_|refine Gt ?_|exact Gz rfl|fail)
  refine D4 (W5 c k env caps bad) ⟨some px,n,mb⟩ ?_;(try simp only[Nr,Nl,Nat.reduceAdd,Nat.reduceMul,Int.reduceToNat])
  refine Ys fun o=>?_
  exact ⟨rfl,o.sub⟩
 refine Yf (by simpa using h1) ?_
 by_cases h2:rc.kind=2
 ·(repeat' first|refine Gu ?_|(with_reducible first|refine Gn fun b h=>?_|apply Gx|apply Gy|rintro px rfl|refine fun(h:H)=>?_|intro hb)|refine Gs ?_|refine Gt ?_|exact Gz rfl|fail)
  refine Yt (by simpa using h2) ?_
  have e:H5 caps.length rc=some (0,192+8*rc.index.toNat,8):=by unfold H5;rw [if_neg hi,if_neg h1,if_pos h2]
  have hm:Z0 caps.length rc.kind=12:=by unfold Z0;rw [if_neg h1,if_pos h2]
  have e1:IntKind.wrap .i64 (192+IntKind.wrap .i64 (8*rc.index))=((192+8*rc.index.toNat:Nat):Int):=by rw [D1,D1];omega
  rw [e,e1]
  (repeat' first|refine Gu ?_|(with_reducible first|refine Gn fun b h=>?_|apply Gx|apply Gy|rintro px rfl|refine fun(h:H)=>?_|intro hb)|refine Gs ?_|refine Gt ?_|exact Gz rfl|fail)
  refine D4 (W5 c k env caps bad) ⟨some px,n,mb⟩ ?_;(try simp only[Nr,Nl,Nat.reduceAdd,Nat.reduceMul,Int.reduceToNat])
  refine Ys fun o=>?_
  exact ⟨rfl,o.sub⟩
 (repeat' first|refine Gu ?_|(with_reducible first|refine Gn fun b h=>?_|apply Gx|apply Gy|rintro px rfl|refine fun(h:H)=>?_|intro hb)|refine Gs ?_|refine Gt ?_|exact Gz rfl|fail)
 refine Yf (by simpa using h2) ?_
 (repeat' first|refine Gu ?_|(with_reducible first|refine Gn fun b h=>?_|rintro px rfl|refine fun(h:H)=>?_|intro hb)|refine Gs ?_|refine Gt ?_|exact Gz rfl|fail)
 refine Tr.andG (c:=decide (rc.index<4)) (fun hb=>?_) ?_
 ·(repeat' first|refine Gu ?_|(with_reducible first|refine Gn fun b h=>?_|apply Gx|apply Gy|rintro px rfl|refine fun(h:H)=>?_|intro hb)|refine Gs ?_|refine Gt ?_|exact Gz rfl|fail)
 by_cases h3:rc.kind=3
 ·have hm:Z0 caps.length rc.kind=3+caps.length:=by unfold Z0;rw [if_neg h1,if_neg h2,if_pos h3]
  by_cases h4:rc.index<4
  ·refine Yt (by simp [h3,h4]) ?_
   have e:H5 caps.length rc=some (0,288+40*rc.index.toNat,40):=by unfold H5;rw [if_neg hi,if_neg h1,if_neg h2,if_pos h3,if_pos h4]
   have e1:IntKind.wrap .i64 (288+IntKind.wrap .i64 (40*rc.index))=((288+40*rc.index.toNat:Nat):Int):=by rw [D1,D1];omega
   rw [e,e1]
   (repeat' first|refine Gu ?_|(with_reducible first|refine Gn fun b h=>?_|apply Gx|apply Gy|rintro px rfl|refine fun(h:H)=>?_|intro hb)|refine Gs ?_|refine Gt ?_|exact Gz rfl|fail)
   refine D4 (W5 c k env caps bad) ⟨some px,n,mb⟩ ?_;(try simp only[Nr,Nl,Nat.reduceAdd,Nat.reduceMul,Int.reduceToNat])
   refine Ys fun o=>?_
   exact ⟨rfl,o.sub⟩
  ·refine Yf (by simp [h4]) ?_
   have e:H5 caps.length rc=some (rc.index.toNat-3,0,40):=by unfold H5;rw [if_neg hi,if_neg h1,if_neg h2,if_pos h3,if_neg h4]
   have e1:IntKind.wrap .i64 (IntKind.wrap .i64 (rc.index-4)+1)=((rc.index.toNat-3:Nat):Int):=by rw [D1,D1];omega
   rw [e,e1]
   (repeat' first|refine Gu ?_|(with_reducible first|refine Gn fun b h=>?_|apply Gx|apply Gy|rintro px rfl|refine fun(h:H)=>?_|intro hb)|refine Gs ?_|refine Gt ?_|exact Gz rfl|fail)
   refine Yt (by simpa using h3) ?_
   (repeat' first|refine Gu ?_|(with_reducible first|refine Gn fun b h=>?_|apply Gx|apply Gy|rintro px rfl|refine fun(h:H)=>?_|intro hb)|refine Gs ?_|refine Gt ?_|exact Gz rfl|fail)
   rw [Int.toNat_natCast]
   (try simp only[Nr,Nl,Nat.reduceAdd,Nat.reduceMul,Int.reduceToNat])
   refine Tr.xIntS (v:=caps.getD (rc.index.toNat-3) 0) (hg _ (by omega)) ?_
   (repeat' first|refine Gu ?_|(with_reducible first|refine Gn fun b h=>?_|apply Gx|apply Gy|rintro px rfl|refine fun(h:H)=>?_|intro hb)|refine Gs ?_|refine Gt ?_|exact Gz rfl|fail)
   refine D4 (W5 c k env caps bad) ⟨some px,n,mb⟩ ?_;(try simp only[Nr,Nl,Nat.reduceAdd,Nat.reduceMul,Int.reduceToNat])
   refine Ys fun o=>?_
   exact ⟨rfl,o.sub⟩
 refine Yf (by simp [h3]) ?_
 (repeat' first|refine Gu ?_|(with_reducible first|refine Gn fun b h=>?_|apply Gx|apply Gy|rintro px rfl|refine fun(h:H)=>?_|intro hb)|refine Gs ?_|refine Gt ?_|exact Gz rfl|fail)
 refine Yf (by simpa using h3) ?_
 (repeat' first|refine Gu ?_|(with_reducible first|refine Gn fun b h=>?_|apply Gx|apply Gy|rintro px rfl|refine fun(h:H)=>?_|intro hb)|refine Gs ?_|refine Gt ?_|exact Gz rfl|fail)
 by_cases h4:rc.kind=4
 ·refine Yt (by simpa using h4) ?_
  have e:H5 caps.length rc=some (0,448,40):=by unfold H5;rw [if_neg hi,if_neg h1,if_neg h2,if_neg h3,if_pos h4]
  rw [e]
  (repeat' first|refine Gu ?_|(with_reducible first|refine Gn fun b h=>?_|apply Gx|apply Gy|rintro px rfl|refine fun(h:H)=>?_|intro hb)|refine Gs ?_|refine Gt ?_|exact Gz rfl|fail)
  refine D4 (W5 c k env caps bad) ⟨some px,n,mb⟩ ?_;(try simp only[Nr,Nl,Nat.reduceAdd,Nat.reduceMul,Int.reduceToNat])
  refine Ys fun o=>?_
  exact ⟨rfl,o.sub⟩
 refine Yf (by simpa using h4) ?_
 have e:H5 caps.length rc=some (0,488,4):=by unfold H5;rw [if_neg hi,if_neg h1,if_neg h2,if_neg h3,if_neg h4]
 rw [e]
 (repeat' first|refine Gu ?_|(with_reducible first|refine Gn fun b h=>?_|apply Gx|apply Gy|rintro px rfl|refine fun(h:H)=>?_|intro hb)|refine Gs ?_|refine Gt ?_|exact Gz rfl|fail)
 refine D4 (W5 c k env caps bad) ⟨some px,n,mb⟩ ?_;(try simp only[Nr,Nl,Nat.reduceAdd,Nat.reduceMul,Int.reduceToNat])
 refine Ys fun o=>?_
 exact ⟨rfl,o.sub⟩
theorem Hs1:Ak4 PR 8 E8=some [TypeDesc.int .i64,TypeDesc.int .i64]:=by kernel_rfl
theorem H61:D82 PR E8=some true:=by kernel_rfl
instance {a b:Int}:KeyC PR E8 (.agg ⟨[.int .i64 a,.int .i64 b]⟩):=⟨fun x=>by
 unfold NN.keyN;rw [Hs1,H61];rfl⟩
theorem Ej4 (r:RecS):∀ (l:List RecS) (i j:Nat),Ah9 (.agg ⟨Z3 r⟩) (Ah7 j l) i=some (if r ∈ l then some (i+l.idxOf r) else none)
 | [],i,j=>by simp [Ah7,Ah9]
 | q::l,i,j=>by
  have ih:=Ej4 r l (i+1) (j+1)
  obtain ⟨qk,qi⟩:=q
  obtain ⟨rk,ri⟩:=r
  simp only [Ah7,Ah9,Be0,Z3,eqs,eq1,decide_true,List.mem_cons] at ih ⊢
  by_cases h:rk=qk∧ri=qi
  ·obtain ⟨rfl,rfl⟩:=h
   simp
  ·have e:(rk==qk && (ri==qi && true))=false:=by
    rw [Bool.and_eq_false_iff]
    by_cases h1:rk=qk
    ·right;simp;intro h2;exact h ⟨h1,h2⟩
    ·left;simpa using h1
   have hne:¬ (({ kind:=rk,index:=ri }:RecS)={ kind:=qk,index:=qi }):=fun e=>by
    rw [RecS.mk.injEq] at e;exact h e
   rw [e]
   simp only [hne,false_or]
   rw [ih,List.idxOf_cons]
   have:(({ kind:=qk,index:=qi }:RecS)=={ kind:=rk,index:=ri })=false:=by
    rw [beq_eq_false_iff_ne];exact fun e=>hne e.symm
   rw [this,cond_false]
   split<;>simp;omega
theorem Dp3:∀ (l:List RecS) (j:Nat),(Ah7 j l).length=l.length
 | [],_=>rfl
 | _::l,j=>by simp [Ah7,Dp3 l]
theorem G15:∀ (l:List RecS) (j i:Nat) (r:RecS),l[i]?=some r→(Ah7 j l)[i]?=some { key:=.agg ⟨Z3 r⟩,val:=int 1,born:=j+i }
 | [],_,i,r,h=>by simp at h
 | q::l,j,0,r,h=>by simp at h;subst h;rfl
 | q::l,j,i+1,r,h=>by
  have:=G15 l (j+1) i r (by simpa using h)
  rw [Ah7,List.getElem?_cons_succ,this];congr 2;omega
theorem Bw6 (r:RecS) (l:List RecS):Am0 (int 0) (.agg ⟨Z3 r⟩) (Ah7 0 l)=some (if r ∈ l then (int 1,true) else (int 0,false)):=by
 unfold Am0
 rw [Ej4]
 by_cases h:r ∈ l
 ·rw [if_pos h,if_pos h]
  have hi:=List.idxOf_lt_length_of_mem h
  have hg:l[l.idxOf r]?=some r:=by rw [List.getElem?_eq_getElem hi,List.getElem_idxOf]
  simp only [Nat.zero_add]
  rw [G15 l 0 _ r hg]
 ·rw [if_neg h,if_neg h]
theorem Gv7:∀ (l m:List RecS) (j:Nat),Ah7 j (l++m)=Ah7 j l++Ah7 (j+l.length) m
 | [],m,j=>by simp [Ah7]
 | q::l,m,j=>by simp only [List.cons_append,Ah7,Gv7 l m (j+1),List.length_cons];congr 2;congr 1;omega
theorem D87 {r:RecS} {l:List RecS} (h:¬ r ∈ l):D05 (int 0) (.agg ⟨Z3 r⟩) (Ah7 0 l) l.length=some (int 0,l.length,.map (Ah7 0 l++[{ key:=.agg ⟨Z3 r⟩,val:=int 0,born:=l.length }]) (l.length+1)):=by
 unfold D05;rw [Ej4,if_neg h]
theorem Gk5 (r:RecS) (e:MapEntry):∀ (l:List RecS) (i j:Nat),¬ r ∈ l→Ah9 (.agg ⟨Z3 r⟩) (Ah7 j l++[e]) i=Ah9 (.agg ⟨Z3 r⟩) [e] (i+l.length)
 | [],i,j,h=>by simp [Ah7]
 | q::l,i,j,h=>by
  have ih:=Gk5 r e l (i+1) (j+1) (fun hm=>h (List.mem_cons_of_mem _ hm))
  have hq:Be0 (.agg ⟨Z3 r⟩) (.agg ⟨Z3 q⟩)=some false:=by
   obtain ⟨qk,qi⟩:=q
   obtain ⟨rk,ri⟩:=r
   simp only [Be0,Z3,eqs,eq1,decide_true]
   congr 1
   rw [Bool.and_eq_false_iff]
   by_cases h1:rk=qk
   ·right;simp;intro h2;exact h (by subst h1 h2;exact List.mem_cons_self ..)
   ·left;simpa using h1
  show (match Be0 (.agg ⟨Z3 r⟩) (.agg ⟨Z3 q⟩) with
   | some true=>some (some i)
   | some false=>Ah9 (.agg ⟨Z3 r⟩) (Ah7 (j+1) l++[e]) (i+1)
   | none=>none)=_
  rw [hq]
  simp only
  rw [ih];congr 1;simp;omega
theorem Du4 {r:RecS} {l:List RecS} (h:¬ r ∈ l):Am0 (int 0) (.agg ⟨Z3 r⟩) (Ah7 0 l++[{ key:=.agg ⟨Z3 r⟩,val:=int 0,born:=l.length }])=some (int 0,true):=by
 unfold Am0
 rw [Gk5 r _ l 0 0 h]
 obtain ⟨rk,ri⟩:=r
 simp only [Ah9,Be0,Z3,eqs,eq1,decide_true,BEq.rfl,Bool.and_self,Nat.zero_add]
 rw [List.getElem?_append_right (by rw [Dp3];exact Nat.le_refl _),Dp3];simp
theorem Dd0:∀ (l:List RecS) (j:Nat) (n:Nat) (e:MapEntry) (i:Nat),e.born=n→j+l.length≤n→Bl7 (n:Int) (Ah7 j l++[e]) i=some (i+l.length)
 | [],j,n,e,i,h,hl=>by simp [Ah7,Bl7,h]
 | q::l,j,n,e,i,h,hl=>by
  have ih:=Dd0 l (j+1) n e (i+1) h (by simp at hl;omega)
  simp only [Ah7,List.cons_append,Bl7]
  have:(((j:Nat):Int)==(n:Int))=false:=by simp at hl ⊢;omega
  rw [this,cond_false,ih];congr 1;simp;omega
theorem Gm3 (f:MapEntry→MapEntry) (e:MapEntry):∀ (l:List MapEntry),modN f l.length (l++[e])=l++[f e]
 | []=>rfl
 | q::l=>by simp [modN,Gm3 f e l]
theorem Ec1 (r:RecS) (l:List RecS):modN (fun e=>{ e with val:=int (IntKind.wrap .i64 (0+1)) }) l.length (Ah7 0 l++[{ key:=.agg ⟨Z3 r⟩,val:=int 0,born:=l.length }])=Ah7 0 (l++[r]):=by
 rw [show l.length=(Ah7 0 l).length from (Dp3 l 0).symm,Gm3,Gv7]
 simp [Ah7,Dp3];decide
theorem Fr.mem_at (F:Fr) (m:List (List UInt8)):(F.at m).mem=A10 F.S.mem F.rg m:=rfl
theorem Fr.at_ok {F:Fr} (k:FrOk F) {m:List (List UInt8)} (f:Fit F.S.mem.length F.rg m):KOk F.N (F.at m):=by
 have:=k.ok
 exact ⟨this.envs,this.tabs,this.space,this.quota,by rw [Fr.mem_at,Dq0 f];exact this.mem,this.regs,this.may,this.mayl,this.nsect,this.sects,this.now⟩
theorem H33 {F:Fr} (k:FrOk F) {r:RecS} {j a n:Nat} (h:H5 F.caps.length r=some (j,a,n)):∃ lo z,F.rg[j]?=some (lo,z)∧a+n≤z∧j<F.caps.length:=by
 obtain ⟨lo0,h0⟩:=k.own
 have hl:=k.len;have hn:=k.ne
 unfold H5 at h
 split at h;· cases h
 rename_i hi
 split at h
 ·rename_i h1
  have hm:Z0 F.caps.length r.kind=8:=by unfold Z0;rw [if_pos h1]
  cases h;exact ⟨lo0,492,h0,by omega,hn⟩
 rename_i h1
 split at h
 ·rename_i h2
  have hm:Z0 F.caps.length r.kind=12:=by unfold Z0;rw [if_neg h1,if_pos h2]
  cases h;exact ⟨lo0,492,h0,by omega,hn⟩
 rename_i h2
 split at h
 ·rename_i h3
  have hm:Z0 F.caps.length r.kind=3+F.caps.length:=by unfold Z0;rw [if_neg h1,if_neg h2,if_pos h3]
  split at h
  ·cases h;exact ⟨lo0,492,h0,by omega,hn⟩
  ·cases h
   have hlt:r.index.toNat-3<F.rg.length:=by omega
   have hg:=List.getElem?_eq_getElem hlt
   generalize hx:F.rg[r.index.toNat-3]=x at hg
   obtain ⟨lo,z⟩:=x
   have:=k.brs _ lo z (by omega) hg
   exact ⟨lo,z,hg,by omega,by omega⟩
 split at h<;>(cases h;exact ⟨lo0,492,h0,by omega,hn⟩)
def R0 (kind:Int):Nat:=if kind=1 then 24 else if kind=2 then 8 else if kind=3 then 40 else if kind=4 then 40 else 4
theorem Di1 {nc:Nat} {r:RecS} {j a n:Nat} (h:H5 nc r=some (j,a,n)):n=R0 r.kind:=by
 unfold H5 at h;unfold R0
 split at h;· cases h
 split at h
 ·rename_i h1;cases h;rw [if_pos h1]
 rename_i h1
 rw [if_neg h1]
 split at h
 ·rename_i h2;cases h;rw [if_pos h2]
 rename_i h2
 rw [if_neg h2]
 split at h
 ·rename_i h3;rw [if_pos h3];split at h<;>(cases h;rfl)
 rename_i h3
 rw [if_neg h3]
 split at h
 ·rename_i h4;cases h;rw [if_pos h4]
 ·rename_i h4;cases h;rw [if_neg h4]
def rdX (X:CX) (r:RecS):Option (List UInt8) :=
 match H5 X.m.length r with
 | some (j,a,n)=>if r ∈ X.bad then none else some (slice (X.m.getD j []) a n)
 | none=>none
def wrX (X:CX) (r:RecS) (b:List UInt8) (ok:Bool):Bool × CX :=
 match H5 X.m.length r with
 | some (j,a,n)=>if ok=true∧¬ r ∈ X.bad then (true,{ X with m:=X.m.set j (L9 (X.m.getD j []) a b) }) else (false,X)
 | none=>(false,X)
theorem Fit.mlen {F:Fr} (k:FrOk F) {m:List (List UInt8)} (f:Fit F.S.mem.length F.rg m):m.length=F.caps.length:=by rw [f.len,k.len]
theorem Ea9 {F:Fr} (k:FrOk F) {m:List (List UInt8)} (f:Fit F.S.mem.length F.rg m) {r:RecS} {j a n:Nat} (h:H5 F.caps.length r=some (j,a,n)) :
  ∃ lo z cap,F.caps[j]?=some cap∧F.rg[j]?=some (lo,z)∧a+n≤z∧m[j]?=some (m.getD j [])∧(m.getD j []).length=z∧lo+z≤F.S.mem.length∧cap=F.caps.getD j 0:=by
 obtain ⟨lo,z,hr,ha,hj⟩:=H33 k h
 obtain ⟨h1,x,hx,hl⟩:=f.each j lo z hr
 have e:m.getD j []=x:=by rw [List.getD_eq_getElem?_getD,hx];rfl
 exact ⟨lo,z,F.caps.getD j 0,O7 0 hj,hr,ha,by rw [e];exact hx,by rw [e];exact hl,h1,rfl⟩
theorem Ia6 {F:Fr} (k:FrOk F) {X:CX} (f:Fit F.S.mem.length F.rg X.m) {r:RecS} {l:List UInt8} (h:rdX X r=some l):l.length=R0 r.kind:=by
 unfold rdX at h
 rw [f.mlen k] at h
 cases hp:H5 F.caps.length r with
 | none=>rw [hp] at h;cases h
 | some p =>
  obtain ⟨j,a,n⟩:=p
  rw [hp] at h
  obtain ⟨lo,z,cap,_,_,ha,hx,hl,_⟩:=Ea9 k f hp
  simp only at h
  split at h
  ·cases h
  ·cases h;rw [Gn5 (by omega),Di1 hp]
theorem If3 {F:Fr} (k:FrOk F) {m:List (List UInt8)} (f:Fit F.S.mem.length F.rg m) {r:RecS} {j a n:Nat} (h:H5 F.caps.length r=some (j,a,n)) :
  Z4 (F.at m) F.env ⟨1,F.caps.getD j 0,(a:Int),(n:Int),0,0,[]⟩=((0,0,slice (m.getD j []) a n),F.at m):=by
 obtain ⟨lo,z,cap,hc,hr,ha,hx,hl,hz,rfl⟩:=Ea9 k f h
 have hp:=k.pl j _ lo z hc hr a n 1 (.inl rfl) ha
 have lp:=Dq0 f
 have hb:Dt9 (A10 F.S.mem F.rg m) ((lo+a:Nat):Int) (n:Int)=some (slice (m.getD j []) a n):=by
  unfold Dt9
  rw [if_pos (by rw [lp];omega),Int.toNat_natCast,Int.toNat_natCast]
  rw [← Hi8 f k.dj hr hx ha];rfl
 have e:Aq2 (F.at m).tabs (F.at m).regs (F.at m).mem F.env (F.caps.getD j 0) (a:Int) (n:Int)=(slice (m.getD j []) a n,0):=by
  unfold Aq2
  rw [show P9 (F.at m).tabs (F.at m).regs F.env (F.caps.getD j 0) 1 (a:Int) (n:Int)=(((lo+a:Nat):Int),0) from hp]
  rw [if_neg (by simp),show Dt9 (F.at m).mem _ _=_ from hb]
 unfold Z4
 rw [if_neg (show ¬ (F.env<0∨F.env≥((F.at m).envs.length:Int)) from k.env)]
 unfold kDo
 rw [if_pos rfl,e]
theorem Ib9 {F:Fr} (k:FrOk F) {m:List (List UInt8)} (f:Fit F.S.mem.length F.rg m) {r:RecS} {j a n:Nat} (h:H5 F.caps.length r=some (j,a,n)) {b:List UInt8} (hb:b.length=n) :
  Z4 (F.at m) F.env ⟨2,F.caps.getD j 0,(a:Int),0,0,0,b⟩=((0,0,[]),F.at (m.set j (L9 (m.getD j []) a b))):=by
 obtain ⟨lo,z,cap,hc,hr,ha,hx,hl,hz,rfl⟩:=Ea9 k f h
 have hp:=k.pl j _ lo z hc hr a n 2 (.inr rfl) ha
 have lp:=Dq0 f
 have hs:Bb0 (A10 F.S.mem F.rg m) ((lo+a:Nat):Int) b=some (A10 F.S.mem F.rg (m.set j (L9 (m.getD j []) a b))):=by
  unfold Bb0
  rw [if_pos (by rw [lp];omega),Int.toNat_natCast]
  rw [← Hd5 f k.dj hr hx (by omega)];rfl
 have e:Ak7 (F.at m).tabs (F.at m).regs (F.at m).mem F.env (F.caps.getD j 0) (a:Int) b=(0,A10 F.S.mem F.rg (m.set j (L9 (m.getD j []) a b))):=by
  unfold Ak7
  rw [hb,show P9 (F.at m).tabs (F.at m).regs F.env (F.caps.getD j 0) 2 (a:Int) (n:Int)=(((lo+a:Nat):Int),0) from hp]
  rw [if_neg (by simp),show Bb0 (F.at m).mem _ _=_ from hs]
 unfold Z4
 rw [if_neg (show ¬ (F.env<0∨F.env≥((F.at m).envs.length:Int)) from k.env)]
 unfold kDo
 rw [if_neg (show ¬ ((2:Int)=1) by decide),if_pos rfl,e];rfl
theorem Ia4 {F:Fr} (k:FrOk F) {X:CX} (f:Fit F.S.mem.length F.rg X.m) {r:RecS} {b:List UInt8} {ok:Bool} (hb:ok=true→b.length=R0 r.kind):Fit F.S.mem.length F.rg (wrX X r b ok).2.m:=by
 unfold wrX
 rw [f.mlen k]
 cases hp:H5 F.caps.length r with
 | none=>exact f
 | some p =>
  obtain ⟨j,a,n⟩:=p
  obtain ⟨lo,z,cap,hc,hr,ha,hx,hl,hz,_⟩:=Ea9 k f hp
  simp only
  split
  ·rename_i hk
   exact f.set hr (by rw [Ag4 (by rw [hb hk.1,← Di1 hp];omega)];exact hl)
  ·exact f
instance {caps:List Int} {o:Option (Nat × Nat × Nat)}:LenC (G00 caps o) 3:=⟨by cases o<;>rfl⟩
theorem Hy3 (caps:List Int) (o:Option (Nat × Nat × Nat)):(G00 caps o).all Value.oneCell=true:=by cases o<;>rfl
instance {caps:List Int} {o:Option (Nat × Nat × Nat)} {cs:List Value} [k:LenC cs 3]:SetsC cs 0 (G00 caps o) (G00 caps o):=⟨Bv7 k.ok LenC.ok (Hy3 caps o)⟩
instance {rc:RecS}:PartC (Z3 rc) 0 2 (Z3 rc):=⟨rfl⟩
theorem Hf9 (r:RecS) (l:List RecS):(if r ∈ l then (int 1,true) else (int 0,false))=(int (if r ∈ l then 1 else 0),decide (r ∈ l)):=by split<;>simp [*]
theorem Hf3 (r:RecS) (l:List RecS):decide ((if r ∈ l then (1:Int) else 0)>0)=decide (r ∈ l):=by split<;>simp [*]
theorem D36 (k:Nat) (S:KS) (N:Nat) (ok:KOk N S) (hN:N+1<1000000000) (env:Int) (c:CallS) (ba:Option Addr) (bc:Nat) (ro:Bool) (h5:c.op≠5) :
  Ct D2 U1 [P0 k,int env,.agg ⟨Bl2 c ba bc⟩] [G0 k S,slC ro B0 1 ba c.b.length bc (A0 c.b)] fun v own=>∃ x d,v=.agg ⟨[int (Z4 S env c).1.1,int (Z4 S env c).1.2.1,.slice x (Z4 S env c).1.2.2.length d]⟩ ∧
    own [slC false B0 1 x (Z4 S env c).1.2.2.length d (A0 (Z4 S env c).1.2.2),G0 k (Z4 S env c).2,slC ro B0 1 ba c.b.length bc (A0 c.b)]:=by
 intro h r o
 obtain ⟨pq,o1⟩:=Own.ex (f:=fun pq=>slX ro B0 1 ba c.b.length bc pq (A0 c.b)) (o.perm (.swap _ _ _))
 obtain ⟨v,h',e,x,d,rfl,o2⟩:=Hq2 k S N ok hN env c ba bc ro pq h5 h r (o1.perm (.swap _ _ _))
 refine ⟨_,h',e,x,d,rfl,?_⟩
 have o3:=o2.picks [2] rfl
 exact (Own.inex (f:=fun pq=>slX ro B0 1 ba c.b.length bc pq (A0 c.b)) pq o3).picks [1,1,0] rfl
theorem Ec5 (c k:Nat) (F:Fr) (X:CX) (rc:RecS) (ok:FrOk F):Ct D2 O2 [P0 c,.agg ⟨Z3 rc⟩] [cmC c k F X] fun v own =>
  (∃ l a cp,rdX X rc=some l∧l.length=R0 rc.kind∧v=.tuple ⟨[.slice a l.length cp,.bool true]⟩∧own [slC false B0 1 a l.length cp (A0 l),cmC c k F X]) ∨
  (rdX X rc=none∧v=.tuple ⟨[.slice none 0 0,.bool false]⟩∧own [cmC c k F X]):=by
 refine Ct.of D12 rfl fun h r=>Tr.eq (D07 ..) ?_;(try simp only[Nr,Nl,Nat.reduceAdd,Nat.reduceMul,Int.reduceToNat])
 refine D7 (cmC c k F X) fun u=>?_;(try simp only[Nr,Nl,Nat.reduceAdd,Nat.reduceMul,Int.reduceToNat])
 refine P4 2 rfl fun f=>?_
 (repeat' first|refine Gu ?_|(with_reducible first|refine Gn fun b h=>?_|apply Gx|apply Gy|rintro px rfl|refine fun(h:H)=>?_|intro hb)|refine Gs ?_|refine Gt ?_|exact Gz rfl|fail)
 refine Yc (El1 c k F.env F.caps X.bad rc ok.small ok.ne) ?_;rintro _ h ⟨rfl,o⟩<;>(refine (?_:Tr _ _ _ _) o;(try simp only[Nr,Nl,Nat.reduceAdd,Nat.reduceMul,Int.reduceToNat]);(repeat' first|refine Gu ?_|(with_reducible first|refine Gn fun b h=>?_|rintro px rfl|refine fun(h:H)=>?_|intro hb)|refine Gs ?_|refine Gt ?_|exact Gz rfl|fail))
 have em:=f.mlen ok
 cases hp:H5 F.caps.length rc with
 | none =>
  (repeat' first|refine Gu ?_|(with_reducible first|refine Gn fun b h=>?_|rintro px rfl|refine fun(h:H)=>?_|intro hb)|refine Gs ?_|refine Gt ?_|exact Gz rfl|fail)
  refine Yb (Yt rfl ?_)
  refine Ys fun o=>(?_:Tr _ _ _ _) o;(try simp only[Nr,Nl,Nat.reduceAdd,Nat.reduceMul,Int.reduceToNat])
  (repeat' first|refine Gu ?_|(with_reducible first|refine Gn fun b h=>?_|apply Gx|apply Gy|rintro px rfl|refine fun(h:H)=>?_|intro hb)|refine Gs ?_|refine Gt ?_|exact Gz rfl|fail)
  refine D4 (cmC c k F X) () ?_;(try simp only[Nr,Nl,Nat.reduceAdd,Nat.reduceMul,Int.reduceToNat])
  refine Ys fun o=>?_
  exact .inr ⟨by unfold rdX;rw [em,hp],rfl,o.sub⟩
 | some p =>
  obtain ⟨j,a,n⟩:=p
  refine D7 (W5 c k F.env F.caps X.bad) fun ⟨ca,cn,mb⟩=>?_;(try simp only[Nr,Nl,Nat.reduceAdd,Nat.reduceMul,Int.reduceToNat])
  (repeat' first|refine Gu ?_|(with_reducible first|refine Gn fun b h=>?_|rintro px rfl|refine fun(h:H)=>?_|intro hb)|refine Gs ?_|refine Gt ?_|exact Gz rfl|fail)
  refine Tr.orG (c:=decide (rc ∈ X.bad)) (fun _=>?_) ?_
  ·(repeat' first|refine Gu ?_|(with_reducible first|refine Gn fun b h=>?_|apply Gx|apply Gy|rintro px rfl|refine fun(h:H)=>?_|intro hb)|refine Gs ?_|refine Gt ?_|exact Gz rfl|fail)
   rw [Bw6,Hf9]
   (repeat' first|refine Gu ?_|(with_reducible first|refine Gn fun b h=>?_|apply Gx|apply Gy|rintro px rfl|refine fun(h:H)=>?_|intro hb)|refine Gs ?_|refine Gt ?_|exact Gz rfl|fail)
   refine Ys fun o=>?_
   rw [Hf3];exact ⟨by first|rfl|trivial,by first|rfl|trivial⟩
  by_cases hb:rc ∈ X.bad
  ·rw [decide_eq_true hb]
   (repeat' first|refine Gu ?_|(with_reducible first|refine Gn fun b h=>?_|apply Gx|apply Gy|rintro px rfl|refine fun(h:H)=>?_|intro hb)|refine Gs ?_|refine Gt ?_|exact Gz rfl|fail)
   refine D4 (W5 c k F.env F.caps X.bad) ⟨ca,cn,mb⟩ ?_;(try simp only[Nr,Nl,Nat.reduceAdd,Nat.reduceMul,Int.reduceToNat])
   refine D4 (cmC c k F X) () ?_;(try simp only[Nr,Nl,Nat.reduceAdd,Nat.reduceMul,Int.reduceToNat])
   refine Ys fun o=>?_
   exact .inr ⟨by unfold rdX;rw [em,hp];exact if_pos hb,rfl,o.sub⟩
  ·rw [decide_eq_false hb]
   refine Yf rfl ?_
   (repeat' first|refine Gu ?_|(with_reducible first|refine Gn fun b h=>?_|apply Gx|apply Gy|rintro px rfl|refine fun(h:H)=>?_|intro hb)|refine Gs ?_|refine Gt ?_|exact Gz rfl|fail)
   refine D4 (W5 c k F.env F.caps X.bad) ⟨ca,cn,mb⟩ ?_;(try simp only[Nr,Nl,Nat.reduceAdd,Nat.reduceMul,Int.reduceToNat])
   have J:=H66 k (F.at X.m) F.N (F.at_ok ok f) ok.hN F.env 1 (F.caps.getD j 0) (a:Int) (n:Int) 0 0 (by decide)
   rw [If3 ok f hp] at J
   refine Yc (J) ?_;rintro _ h ⟨y,d,rfl,o⟩<;>(refine (?_:Tr _ _ _ _) o;(try simp only[Nr,Nl,Nat.reduceAdd,Nat.reduceMul,Int.reduceToNat]);(repeat' first|refine Gu ?_|(with_reducible first|refine Gn fun b h=>?_|apply Gx|apply Gy|rintro px rfl|refine fun(h:H)=>?_|intro hb)|refine Gs ?_|refine Gt ?_|exact Gz rfl|fail))
   refine Yf rfl ?_
   (repeat' first|refine Gu ?_|(with_reducible first|refine Gn fun b h=>?_|apply Gx|apply Gy|rintro px rfl|refine fun(h:H)=>?_|intro hb)|refine Gs ?_|refine Gt ?_|exact Gz rfl|fail)
   refine D4 (cmC c k F X) () ?_;(try simp only[Nr,Nl,Nat.reduceAdd,Nat.reduceMul,Int.reduceToNat])
   refine Ys fun o=>?_
   have e:rdX X rc=some (slice (X.m.getD j []) a n):=by unfold rdX;rw [em,hp];exact if_neg hb
   exact .inl ⟨_,y,d,e,Ia6 ok f e,rfl,o.sub⟩
theorem Bw0 (c k:Nat) (F:Fr) (X:CX) (rc:RecS) (ok:FrOk F) (bs:List UInt8) (g:Bool) (ba:Option Addr) (bc:Nat) (hb:g=true→bs.length=R0 rc.kind) :
  Ct D2 L0 [P0 c,.agg ⟨Z3 rc⟩,.slice ba bs.length bc,.bool g] [cmC c k F X,slC false B0 1 ba bs.length bc (A0 bs)] fun v own =>
   v=.bool (wrX X rc bs g).1∧own [cmC c k F (wrX X rc bs g).2,slC false B0 1 ba bs.length bc (A0 bs)]:=by
 refine Ct.of Ds2 rfl fun h r=>Tr.eq (Ds4 ..) ?_;(try simp only[Nr,Nl,Nat.reduceAdd,Nat.reduceMul,Int.reduceToNat])
 refine D7 (cmC c k F X) fun u=>?_;(try simp only[Nr,Nl,Nat.reduceAdd,Nat.reduceMul,Int.reduceToNat])
 refine P4 2 rfl fun f=>?_
 (repeat' first|refine Gu ?_|(with_reducible first|refine Gn fun b h=>?_|apply Gx|apply Gy|rintro px rfl|refine fun(h:H)=>?_|intro hb)|refine Gs ?_|refine Gt ?_|exact Gz rfl|fail)
 refine Yc (El1 c k F.env F.caps X.bad rc ok.small ok.ne) ?_;rintro _ h ⟨rfl,o⟩<;>(refine (?_:Tr _ _ _ _) o;(try simp only[Nr,Nl,Nat.reduceAdd,Nat.reduceMul,Int.reduceToNat]);(repeat' first|refine Gu ?_|(with_reducible first|refine Gn fun b h=>?_|rintro px rfl|refine fun(h:H)=>?_|intro hb)|refine Gs ?_|refine Gt ?_|exact Gz rfl|fail))
 have em:=f.mlen ok
 cases hp:H5 F.caps.length rc with
 | none =>
  (repeat' first|refine Gu ?_|(with_reducible first|refine Gn fun b h=>?_|rintro px rfl|refine fun(h:H)=>?_|intro hb)|refine Gs ?_|refine Gt ?_|exact Gz rfl|fail)
  refine Yb (Yt rfl ?_)
  refine Ys fun o=>(?_:Tr _ _ _ _) o;(try simp only[Nr,Nl,Nat.reduceAdd,Nat.reduceMul,Int.reduceToNat])
  refine Yb (Yt rfl ?_)
  refine Ys fun o=>(?_:Tr _ _ _ _) o;(try simp only[Nr,Nl,Nat.reduceAdd,Nat.reduceMul,Int.reduceToNat])
  (repeat' first|refine Gu ?_|(with_reducible first|refine Gn fun b h=>?_|apply Gx|apply Gy|rintro px rfl|refine fun(h:H)=>?_|intro hb)|refine Gs ?_|refine Gt ?_|exact Gz rfl|fail)
  refine D4 (cmC c k F X) () ?_;(try simp only[Nr,Nl,Nat.reduceAdd,Nat.reduceMul,Int.reduceToNat])
  refine Ys fun o=>?_
  have e:wrX X rc bs g=(false,X):=by unfold wrX;rw [em,hp]
  rw [e]
  exact ⟨by first|rfl|trivial,o.sub⟩
 | some p =>
  obtain ⟨j,a,n⟩:=p
  refine D7 (W5 c k F.env F.caps X.bad) fun ⟨ca,cn,mb⟩=>?_;(try simp only[Nr,Nl,Nat.reduceAdd,Nat.reduceMul,Int.reduceToNat])
  (repeat' first|refine Gu ?_|(with_reducible first|refine Gn fun b h=>?_|rintro px rfl|refine fun(h:H)=>?_|intro hb)|refine Gs ?_|refine Gt ?_|exact Gz rfl|fail)
  refine Yb (Yf rfl ?_)
  refine Ys fun o=>(?_:Tr _ _ _ _) o;(try simp only[Nr,Nl,Nat.reduceAdd,Nat.reduceMul,Int.reduceToNat])
  (repeat' first|refine Gu ?_|(with_reducible first|refine Gn fun b h=>?_|rintro px rfl|refine fun(h:H)=>?_|intro hb)|refine Gs ?_|refine Gt ?_|exact Gz rfl|fail)
  refine Tr.orG (c:=decide (rc ∈ X.bad)) (fun _=>?_) ?_
  ·(repeat' first|refine Gu ?_|(with_reducible first|refine Gn fun b h=>?_|apply Gx|apply Gy|rintro px rfl|refine fun(h:H)=>?_|intro hb)|refine Gs ?_|refine Gt ?_|exact Gz rfl|fail)
   rw [Bw6,Hf9]
   (repeat' first|refine Gu ?_|(with_reducible first|refine Gn fun b h=>?_|apply Gx|apply Gy|rintro px rfl|refine fun(h:H)=>?_|intro hb)|refine Gs ?_|refine Gt ?_|exact Gz rfl|fail)
   refine Ys fun o=>?_
   rw [Hf3];exact ⟨by first|rfl|trivial,by first|rfl|trivial⟩
  by_cases hg:g=true∧¬ rc ∈ X.bad
  ·have e:wrX X rc bs g=(true,{ X with m:=X.m.set j (L9 (X.m.getD j []) a bs) }):=by unfold wrX;rw [em,hp];exact if_pos hg
   have f2:=Ia4 (r:=rc) (b:=bs) (ok:=g) ok f hb
   rw [e] at f2
   obtain ⟨rfl,hg2⟩:=hg
   rw [e,decide_eq_false hg2]
   refine Yf rfl ?_
   (repeat' first|refine Gu ?_|(with_reducible first|refine Gn fun b h=>?_|apply Gx|apply Gy|rintro px rfl|refine fun(h:H)=>?_|intro hb)|refine Gs ?_|refine Gt ?_|exact Gz rfl|fail)
   refine D4 (W5 c k F.env F.caps X.bad) ⟨ca,cn,mb⟩ ?_;(try simp only[Nr,Nl,Nat.reduceAdd,Nat.reduceMul,Int.reduceToNat])
   have hl:bs.length=n:=by rw [hb rfl,Di1 hp]
   have J:=D36 k (F.at X.m) F.N (F.at_ok ok f) ok.hN F.env ⟨2,F.caps.getD j 0,(a:Int),0,0,0,bs⟩ ba bc false (show ((2:Int)≠5) by decide)
   rw [Ib9 ok f hp hl] at J
   refine Yc (J) ?_;rintro _ h ⟨y,d,rfl,o⟩<;>(refine (?_:Tr _ _ _ _) o;(try simp only[Nr,Nl,Nat.reduceAdd,Nat.reduceMul,Int.reduceToNat]);(repeat' first|refine Gu ?_|(with_reducible first|refine Gn fun b h=>?_|apply Gx|apply Gy|rintro px rfl|refine fun(h:H)=>?_|intro hb)|refine Gs ?_|refine Gt ?_|exact Gz rfl|fail))
   refine Ao3 (show Fit F.S.mem.length F.rg (X.m.set j (L9 (X.m.getD j []) a bs)) from f2) ?_
   refine D4 (cmC c k F { X with m:=X.m.set j (L9 (X.m.getD j []) a bs) }) () ?_;(try simp only[Nr,Nl,Nat.reduceAdd,Nat.reduceMul,Int.reduceToNat])
   refine Ys fun o=>?_
   exact ⟨rfl,o.sub⟩
  ·have e:wrX X rc bs g=(false,X):=by unfold wrX;rw [em,hp];exact if_neg hg
   rw [e]
   refine Yt ?_ ?_
   ·cases g with
    | false=>rfl
    | true=>simpa using hg
   refine D4 (W5 c k F.env F.caps X.bad) ⟨ca,cn,mb⟩ ?_;(try simp only[Nr,Nl,Nat.reduceAdd,Nat.reduceMul,Int.reduceToNat])
   refine D4 (cmC c k F X) () ?_;(try simp only[Nr,Nl,Nat.reduceAdd,Nat.reduceMul,Int.reduceToNat])
   refine Ys fun o=>?_
   exact ⟨by first|rfl|trivial,o.sub⟩
def V1 {α:Type} (dec:List UInt8→α × Int) (z:α) (X:CX) (rc:RecS):(α × Int) × CX :=
 match rdX X rc with
 | some l=>(dec l,if (dec l).2=2 then { X with bad:=X.bad++[rc] } else X)
 | none=>((z,2),X)
theorem Ed3 {X:CX} {rc:RecS} {l:List UInt8} (h:rdX X rc=some l):¬ rc ∈ X.bad:=by
 unfold rdX at h
 split at h
 ·split at h
  ·cases h
  ·assumption
 ·cases h
theorem Hs8 (l:List UInt8) (h:(W0 l).2≠1):(W0 l).1=.zero:=by
 unfold W0 at *;split<;>first|rfl|(split<;>first|rfl|(simp_all;done))
theorem Ht8 (l:List UInt8) (h:(Z2 l).2≠1):(Z2 l).1=.zero:=by
 unfold Z2 at *;split<;>first|rfl|(split<;>first|rfl|(simp_all;done))
theorem Hq6 (l:List UInt8) (h:(V2 l).2≠1):(V2 l).1=.zero:=by
 unfold V2 at *;split<;>first|rfl|(split<;>first|rfl|(simp_all;done))
theorem H64 (c k:Nat) (F:Fr) (X:CX) (rc:RecS) (ok:FrOk F) (hk:R0 rc.kind=24):Ct D2 L7 [P0 c,.agg ⟨Z3 rc⟩,.func (.func A40) ⟨[]⟩ ⟨[]⟩] [cmC c k F X] fun v own =>
  v=.tuple ⟨[.agg ⟨E2 (V1 W0 .zero X rc).1.1⟩,int (V1 W0 .zero X rc).1.2]⟩∧own [cmC c k F (V1 W0 .zero X rc).2]:=by
 refine Ct.of Aq4 rfl fun h r=>Tr.eq (Dk8 ..) ?_;(try simp only[Nr,Nl,Nat.reduceAdd,Nat.reduceMul,Int.reduceToNat])
 (repeat' first|refine Gu ?_|(with_reducible first|refine Gn fun b h=>?_|apply Gx|apply Gy|rintro px rfl|refine fun(h:H)=>?_|intro hb)|refine Gs ?_|refine Gt ?_|exact Gz rfl|fail)
 refine Yc (Ec5 c k F X rc ok) ?_
 rintro v h (⟨l,a,cp,hr,hl,rfl,o⟩|⟨hr,rfl,o⟩)
 ·refine (?_:Tr _ _ _ _) o
  (try simp only[Nr,Nl,Nat.reduceAdd,Nat.reduceMul,Int.reduceToNat])
  have e:V1 W0 .zero X rc=(W0 l,if (W0 l).2=2 then { X with bad:=X.bad++[rc] } else X):=by unfold V1;rw [hr]
  have hb:=Ed3 hr
  rw [e]
  rw [hk] at hl
  rw [hl]
  (repeat' first|refine Gu ?_|(with_reducible first|refine Gn fun b h=>?_|apply Gx|apply Gy|rintro px rfl|refine fun(h:H)=>?_|intro hb)|refine Gs ?_|refine Gt ?_|exact Gz rfl|fail)
  refine Yc (Hl8 a cp l hl) ?_;rintro _ h ⟨rfl,o⟩<;>(refine (?_:Tr _ _ _ _) o;(try simp only[Nr,Nl,Nat.reduceAdd,Nat.reduceMul,Int.reduceToNat]);(repeat' first|refine Gu ?_|(with_reducible first|refine Gn fun b h=>?_|apply Gx|apply Gy|rintro px rfl|refine fun(h:H)=>?_|intro hb)|refine Gs ?_|refine Gt ?_|exact Gz rfl|fail))
  by_cases h2:(W0 l).2=2
  ·refine Yt (by simpa using h2) ?_
   have hz:=Hs8 l (by omega)
   simp only [if_pos h2]
   refine D7 (cmC c k F X) fun u=>?_;(try simp only[Nr,Nl,Nat.reduceAdd,Nat.reduceMul,Int.reduceToNat])
   refine D7 (W5 c k F.env F.caps X.bad) fun ⟨ca,cn,mb⟩=>?_;(try simp only[Nr,Nl,Nat.reduceAdd,Nat.reduceMul,Int.reduceToNat])
   (repeat' first|refine Gu ?_|(with_reducible first|refine Gn fun b h=>?_|apply Gx|apply Gy|rintro px rfl|refine fun(h:H)=>?_|intro hb)|refine Gs ?_|refine Gt ?_|exact Gz rfl|fail)
   rw [Bw6,if_neg hb]
   (repeat' first|refine Gu ?_|(with_reducible first|refine Gn fun b h=>?_|apply Gx|apply Gy|rintro px rfl|refine fun(h:H)=>?_|intro hb)|refine Gs ?_|refine Gt ?_|exact Gz rfl|fail)
   rw [D87 hb]
   (repeat' first|refine Gu ?_|(with_reducible first|refine Gn fun b h=>?_|apply Gx|apply Gy|rintro px rfl|refine fun(h:H)=>?_|intro hb)|refine Gs ?_|refine Gt ?_|exact Gz rfl|fail)
   rw [Du4 hb]
   (repeat' first|refine Gu ?_|(with_reducible first|refine Gn fun b h=>?_|apply Gx|apply Gy|rintro px rfl|refine fun(h:H)=>?_|intro hb)|refine Gs ?_|refine Gt ?_|exact Gz rfl|fail)
   rw [Dd0 X.bad 0 X.bad.length _ 0 rfl (by omega),Nat.zero_add]
   (repeat' first|refine Gu ?_|(with_reducible first|refine Gn fun b h=>?_|apply Gx|apply Gy|rintro px rfl|refine fun(h:H)=>?_|intro hb)|refine Gs ?_|refine Gt ?_|exact Gz rfl|fail)
   rw [Ec1]
   refine Tr.jmp Aq4 (Tr.eq (A64 ..) ?_);(try simp only[Nr,Nl,wl,Nat.reduceAdd,Nat.reduceMul,Int.reduceToNat])
   refine Yt (by rw [bne_iff_ne];omega) ?_
   (repeat' first|refine Gu ?_|(with_reducible first|refine Gn fun b h=>?_|apply Gx|apply Gy|rintro px rfl|refine fun(h:H)=>?_|intro hb)|refine Gs ?_|refine Gt ?_|exact Gz rfl|fail)
   rw [show X.bad.length+1=(X.bad++[rc]).length by simp]
   refine D4 (W5 c k F.env F.caps (X.bad++[rc])) ⟨ca,cn,mb⟩ ?_;(try simp only[Nr,Nl,Nat.reduceAdd,Nat.reduceMul,Int.reduceToNat])
   refine D4 (cmC c k F { X with bad:=X.bad++[rc] }) () ?_;(try simp only[Nr,Nl,Nat.reduceAdd,Nat.reduceMul,Int.reduceToNat])
   refine Ys fun o=>?_
   exact ⟨by rw [hz]<;>rfl,o.sub⟩
  ·refine Yf (by simpa using h2) ?_
   simp only [if_neg h2]
   refine Tr.jmp Aq4 (Tr.eq (A64 ..) ?_);(try simp only[Nr,Nl,wl,Nat.reduceAdd,Nat.reduceMul,Int.reduceToNat])
   by_cases h1:(W0 l).2=1
   ·refine Yf (by simpa using h1) ?_
    (repeat' first|refine Gu ?_|(with_reducible first|refine Gn fun b h=>?_|apply Gx|apply Gy|rintro px rfl|refine fun(h:H)=>?_|intro hb)|refine Gs ?_|refine Gt ?_|exact Gz rfl|fail)
    refine Ys fun o=>?_
    exact ⟨rfl,o.sub⟩
   ·refine Yt (by simpa using h1) ?_
    (repeat' first|refine Gu ?_|(with_reducible first|refine Gn fun b h=>?_|apply Gx|apply Gy|rintro px rfl|refine fun(h:H)=>?_|intro hb)|refine Gs ?_|refine Gt ?_|exact Gz rfl|fail)
    refine Ys fun o=>?_
    exact ⟨by rw [Hs8 l h1]<;>rfl,o.sub⟩
 ·refine (?_:Tr _ _ _ _) o
  (try simp only[Nr,Nl,Nat.reduceAdd,Nat.reduceMul,Int.reduceToNat])
  have e:V1 W0 .zero X rc=((.zero,2),X):=by unfold V1;rw [hr]
  rw [e]
  (repeat' first|refine Gu ?_|(with_reducible first|refine Gn fun b h=>?_|apply Gx|apply Gy|rintro px rfl|refine fun(h:H)=>?_|intro hb)|refine Gs ?_|refine Gt ?_|exact Gz rfl|fail)
  refine Ys fun o=>?_
  exact ⟨rfl,o.sub⟩
theorem H70 (c k:Nat) (F:Fr) (X:CX) (rc:RecS) (ok:FrOk F) (hk:R0 rc.kind=8):Ct D2 L8 [P0 c,.agg ⟨Z3 rc⟩,.func (.func A56) ⟨[]⟩ ⟨[]⟩] [cmC c k F X] fun v own =>
  v=.tuple ⟨[.agg ⟨Br5 (V1 Z2 .zero X rc).1.1⟩,int (V1 Z2 .zero X rc).1.2]⟩∧own [cmC c k F (V1 Z2 .zero X rc).2]:=by
 refine Ct.of Ao6 rfl fun h r=>Tr.eq (Dh9 ..) ?_;(try simp only[Nr,Nl,Nat.reduceAdd,Nat.reduceMul,Int.reduceToNat])
 (repeat' first|refine Gu ?_|(with_reducible first|refine Gn fun b h=>?_|apply Gx|apply Gy|rintro px rfl|refine fun(h:H)=>?_|intro hb)|refine Gs ?_|refine Gt ?_|exact Gz rfl|fail)
 refine Yc (Ec5 c k F X rc ok) ?_
 rintro v h (⟨l,a,cp,hr,hl,rfl,o⟩|⟨hr,rfl,o⟩)
 ·refine (?_:Tr _ _ _ _) o
  (try simp only[Nr,Nl,Nat.reduceAdd,Nat.reduceMul,Int.reduceToNat])
  have e:V1 Z2 .zero X rc=(Z2 l,if (Z2 l).2=2 then { X with bad:=X.bad++[rc] } else X):=by unfold V1;rw [hr]
  have hb:=Ed3 hr
  rw [e]
  rw [hk] at hl
  rw [hl]
  (repeat' first|refine Gu ?_|(with_reducible first|refine Gn fun b h=>?_|apply Gx|apply Gy|rintro px rfl|refine fun(h:H)=>?_|intro hb)|refine Gs ?_|refine Gt ?_|exact Gz rfl|fail)
  refine Yc (Hg8 a cp l hl) ?_;rintro _ h ⟨rfl,o⟩<;>(refine (?_:Tr _ _ _ _) o;(try simp only[Nr,Nl,Nat.reduceAdd,Nat.reduceMul,Int.reduceToNat]);(repeat' first|refine Gu ?_|(with_reducible first|refine Gn fun b h=>?_|apply Gx|apply Gy|rintro px rfl|refine fun(h:H)=>?_|intro hb)|refine Gs ?_|refine Gt ?_|exact Gz rfl|fail))
  by_cases h2:(Z2 l).2=2
  ·refine Yt (by simpa using h2) ?_
   have hz:=Ht8 l (by omega)
   simp only [if_pos h2]
   refine D7 (cmC c k F X) fun u=>?_;(try simp only[Nr,Nl,Nat.reduceAdd,Nat.reduceMul,Int.reduceToNat])
   refine D7 (W5 c k F.env F.caps X.bad) fun ⟨ca,cn,mb⟩=>?_;(try simp only[Nr,Nl,Nat.reduceAdd,Nat.reduceMul,Int.reduceToNat])
   (repeat' first|refine Gu ?_|(with_reducible first|refine Gn fun b h=>?_|apply Gx|apply Gy|rintro px rfl|refine fun(h:H)=>?_|intro hb)|refine Gs ?_|refine Gt ?_|exact Gz rfl|fail)
   rw [Bw6,if_neg hb]
   (repeat' first|refine Gu ?_|(with_reducible first|refine Gn fun b h=>?_|apply Gx|apply Gy|rintro px rfl|refine fun(h:H)=>?_|intro hb)|refine Gs ?_|refine Gt ?_|exact Gz rfl|fail)
   rw [D87 hb]
   (repeat' first|refine Gu ?_|(with_reducible first|refine Gn fun b h=>?_|apply Gx|apply Gy|rintro px rfl|refine fun(h:H)=>?_|intro hb)|refine Gs ?_|refine Gt ?_|exact Gz rfl|fail)
   rw [Du4 hb]
   (repeat' first|refine Gu ?_|(with_reducible first|refine Gn fun b h=>?_|apply Gx|apply Gy|rintro px rfl|refine fun(h:H)=>?_|intro hb)|refine Gs ?_|refine Gt ?_|exact Gz rfl|fail)
   rw [Dd0 X.bad 0 X.bad.length _ 0 rfl (by omega),Nat.zero_add]
   (repeat' first|refine Gu ?_|(with_reducible first|refine Gn fun b h=>?_|apply Gx|apply Gy|rintro px rfl|refine fun(h:H)=>?_|intro hb)|refine Gs ?_|refine Gt ?_|exact Gz rfl|fail)
   rw [Ec1]
   refine Tr.jmp Ao6 (Tr.eq (A58 ..) ?_);(try simp only[Nr,Nl,wl,Nat.reduceAdd,Nat.reduceMul,Int.reduceToNat])
   refine Yt (by rw [bne_iff_ne];omega) ?_
   (repeat' first|refine Gu ?_|(with_reducible first|refine Gn fun b h=>?_|apply Gx|apply Gy|rintro px rfl|refine fun(h:H)=>?_|intro hb)|refine Gs ?_|refine Gt ?_|exact Gz rfl|fail)
   rw [show X.bad.length+1=(X.bad++[rc]).length by simp]
   refine D4 (W5 c k F.env F.caps (X.bad++[rc])) ⟨ca,cn,mb⟩ ?_;(try simp only[Nr,Nl,Nat.reduceAdd,Nat.reduceMul,Int.reduceToNat])
   refine D4 (cmC c k F { X with bad:=X.bad++[rc] }) () ?_;(try simp only[Nr,Nl,Nat.reduceAdd,Nat.reduceMul,Int.reduceToNat])
   refine Ys fun o=>?_
   exact ⟨by rw [hz]<;>rfl,o.sub⟩
  ·refine Yf (by simpa using h2) ?_
   simp only [if_neg h2]
   refine Tr.jmp Ao6 (Tr.eq (A58 ..) ?_);(try simp only[Nr,Nl,wl,Nat.reduceAdd,Nat.reduceMul,Int.reduceToNat])
   by_cases h1:(Z2 l).2=1
   ·refine Yf (by simpa using h1) ?_
    (repeat' first|refine Gu ?_|(with_reducible first|refine Gn fun b h=>?_|apply Gx|apply Gy|rintro px rfl|refine fun(h:H)=>?_|intro hb)|refine Gs ?_|refine Gt ?_|exact Gz rfl|fail)
    refine Ys fun o=>?_
    exact ⟨rfl,o.sub⟩
   ·refine Yt (by simpa using h1) ?_
    (repeat' first|refine Gu ?_|(with_reducible first|refine Gn fun b h=>?_|apply Gx|apply Gy|rintro px rfl|refine fun(h:H)=>?_|intro hb)|refine Gs ?_|refine Gt ?_|exact Gz rfl|fail)
    refine Ys fun o=>?_
    exact ⟨by rw [Ht8 l h1]<;>rfl,o.sub⟩
 ·refine (?_:Tr _ _ _ _) o
  (try simp only[Nr,Nl,Nat.reduceAdd,Nat.reduceMul,Int.reduceToNat])
  have e:V1 Z2 .zero X rc=((.zero,2),X):=by unfold V1;rw [hr]
  rw [e]
  (repeat' first|refine Gu ?_|(with_reducible first|refine Gn fun b h=>?_|apply Gx|apply Gy|rintro px rfl|refine fun(h:H)=>?_|intro hb)|refine Gs ?_|refine Gt ?_|exact Gz rfl|fail)
  refine Ys fun o=>?_
  exact ⟨rfl,o.sub⟩
theorem Hg2 (c k:Nat) (F:Fr) (X:CX) (rc:RecS) (ok:FrOk F) (hk:R0 rc.kind=40):Ct D2 I6 [P0 c,.agg ⟨Z3 rc⟩,.func (.func Aw8) ⟨[]⟩ ⟨[]⟩] [cmC c k F X] fun v own =>
  v=.tuple ⟨[.agg ⟨N7 (V1 V2 .zero X rc).1.1⟩,int (V1 V2 .zero X rc).1.2]⟩∧own [cmC c k F (V1 V2 .zero X rc).2]:=by
 refine Ct.of Aq3 rfl fun h r=>Tr.eq (Dj4 ..) ?_;(try simp only[Nr,Nl,Nat.reduceAdd,Nat.reduceMul,Int.reduceToNat])
 (repeat' first|refine Gu ?_|(with_reducible first|refine Gn fun b h=>?_|apply Gx|apply Gy|rintro px rfl|refine fun(h:H)=>?_|intro hb)|refine Gs ?_|refine Gt ?_|exact Gz rfl|fail)
 refine Yc (Ec5 c k F X rc ok) ?_
 rintro v h (⟨l,a,cp,hr,hl,rfl,o⟩|⟨hr,rfl,o⟩)
 ·refine (?_:Tr _ _ _ _) o
  (try simp only[Nr,Nl,Nat.reduceAdd,Nat.reduceMul,Int.reduceToNat])
  have e:V1 V2 .zero X rc=(V2 l,if (V2 l).2=2 then { X with bad:=X.bad++[rc] } else X):=by unfold V1;rw [hr]
  have hb:=Ed3 hr
  rw [e]
  rw [hk] at hl
  rw [hl]
  (repeat' first|refine Gu ?_|(with_reducible first|refine Gn fun b h=>?_|apply Gx|apply Gy|rintro px rfl|refine fun(h:H)=>?_|intro hb)|refine Gs ?_|refine Gt ?_|exact Gz rfl|fail)
  refine Yc (Hm2 a cp l hl) ?_;rintro _ h ⟨rfl,o⟩<;>(refine (?_:Tr _ _ _ _) o;(try simp only[Nr,Nl,Nat.reduceAdd,Nat.reduceMul,Int.reduceToNat]);(repeat' first|refine Gu ?_|(with_reducible first|refine Gn fun b h=>?_|apply Gx|apply Gy|rintro px rfl|refine fun(h:H)=>?_|intro hb)|refine Gs ?_|refine Gt ?_|exact Gz rfl|fail))
  by_cases h2:(V2 l).2=2
  ·refine Yt (by simpa using h2) ?_
   have hz:=Hq6 l (by omega)
   simp only [if_pos h2]
   refine D7 (cmC c k F X) fun u=>?_;(try simp only[Nr,Nl,Nat.reduceAdd,Nat.reduceMul,Int.reduceToNat])
   refine D7 (W5 c k F.env F.caps X.bad) fun ⟨ca,cn,mb⟩=>?_;(try simp only[Nr,Nl,Nat.reduceAdd,Nat.reduceMul,Int.reduceToNat])
   (repeat' first|refine Gu ?_|(with_reducible first|refine Gn fun b h=>?_|apply Gx|apply Gy|rintro px rfl|refine fun(h:H)=>?_|intro hb)|refine Gs ?_|refine Gt ?_|exact Gz rfl|fail)
   rw [Bw6,if_neg hb]
   (repeat' first|refine Gu ?_|(with_reducible first|refine Gn fun b h=>?_|apply Gx|apply Gy|rintro px rfl|refine fun(h:H)=>?_|intro hb)|refine Gs ?_|refine Gt ?_|exact Gz rfl|fail)
   rw [D87 hb]
   (repeat' first|refine Gu ?_|(with_reducible first|refine Gn fun b h=>?_|apply Gx|apply Gy|rintro px rfl|refine fun(h:H)=>?_|intro hb)|refine Gs ?_|refine Gt ?_|exact Gz rfl|fail)
   rw [Du4 hb]
   (repeat' first|refine Gu ?_|(with_reducible first|refine Gn fun b h=>?_|apply Gx|apply Gy|rintro px rfl|refine fun(h:H)=>?_|intro hb)|refine Gs ?_|refine Gt ?_|exact Gz rfl|fail)
   rw [Dd0 X.bad 0 X.bad.length _ 0 rfl (by omega),Nat.zero_add]
   (repeat' first|refine Gu ?_|(with_reducible first|refine Gn fun b h=>?_|apply Gx|apply Gy|rintro px rfl|refine fun(h:H)=>?_|intro hb)|refine Gs ?_|refine Gt ?_|exact Gz rfl|fail)
   rw [Ec1]
   refine Tr.jmp Aq3 (Tr.eq (A53 ..) ?_);(try simp only[Nr,Nl,wl,Nat.reduceAdd,Nat.reduceMul,Int.reduceToNat])
   refine Yt (by rw [bne_iff_ne];omega) ?_
   (repeat' first|refine Gu ?_|(with_reducible first|refine Gn fun b h=>?_|apply Gx|apply Gy|rintro px rfl|refine fun(h:H)=>?_|intro hb)|refine Gs ?_|refine Gt ?_|exact Gz rfl|fail)
   rw [show X.bad.length+1=(X.bad++[rc]).length by simp]
   refine D4 (W5 c k F.env F.caps (X.bad++[rc])) ⟨ca,cn,mb⟩ ?_;(try simp only[Nr,Nl,Nat.reduceAdd,Nat.reduceMul,Int.reduceToNat])
   refine D4 (cmC c k F { X with bad:=X.bad++[rc] }) () ?_;(try simp only[Nr,Nl,Nat.reduceAdd,Nat.reduceMul,Int.reduceToNat])
   refine Ys fun o=>?_
   exact ⟨by rw [hz]<;>rfl,o.sub⟩
  ·refine Yf (by simpa using h2) ?_
   simp only [if_neg h2]
   refine Tr.jmp Aq3 (Tr.eq (A53 ..) ?_);(try simp only[Nr,Nl,wl,Nat.reduceAdd,Nat.reduceMul,Int.reduceToNat])
   by_cases h1:(V2 l).2=1
   ·refine Yf (by simpa using h1) ?_
    (repeat' first|refine Gu ?_|(with_reducible first|refine Gn fun b h=>?_|apply Gx|apply Gy|rintro px rfl|refine fun(h:H)=>?_|intro hb)|refine Gs ?_|refine Gt ?_|exact Gz rfl|fail)
    refine Ys fun o=>?_
    exact ⟨rfl,o.sub⟩
   ·refine Yt (by simpa using h1) ?_
    (repeat' first|refine Gu ?_|(with_reducible first|refine Gn fun b h=>?_|apply Gx|apply Gy|rintro px rfl|refine fun(h:H)=>?_|intro hb)|refine Gs ?_|refine Gt ?_|exact Gz rfl|fail)
    refine Ys fun o=>?_
    exact ⟨by rw [Hq6 l h1]<;>rfl,o.sub⟩
 ·refine (?_:Tr _ _ _ _) o
  (try simp only[Nr,Nl,Nat.reduceAdd,Nat.reduceMul,Int.reduceToNat])
  have e:V1 V2 .zero X rc=((.zero,2),X):=by unfold V1;rw [hr]
  rw [e]
  (repeat' first|refine Gu ?_|(with_reducible first|refine Gn fun b h=>?_|apply Gx|apply Gy|rintro px rfl|refine fun(h:H)=>?_|intro hb)|refine Gs ?_|refine Gt ?_|exact Gz rfl|fail)
  refine Ys fun o=>?_
  exact ⟨rfl,o.sub⟩
def E75 (g:Int):List UInt8:=[b8 g,211,Bt3 [b8 g,211],0]
def At1 (l:List UInt8):Int × Int:=if byI l 0<8∧E75 (byI l 0)=l then (byI l 0,1) else (0,2)
theorem Gr6 (g:Int):Ct D2 Ao2 [int g] [] fun v own =>
  (0≤g∧g<8∧∃ a c,v=.tuple ⟨[.slice a 4 c,.bool true]⟩∧own [slC false B0 1 a 4 c (A0 (E75 g))])∨(¬ (0≤g∧g<8)∧v=.tuple ⟨[.slice none 0 0,.bool false]⟩∧own []):=by
 refine Ct.of D58 rfl fun h r=>Tr.eq (Ed5 ..) ?_;(try simp only[Nr,Nl,Nat.reduceAdd,Nat.reduceMul,Int.reduceToNat])
 (repeat' first|refine Gu ?_|(with_reducible first|refine Gn fun b h=>?_|apply Gx|apply Gy|rintro px rfl|refine fun(h:H)=>?_|intro hb)|refine Gs ?_|refine Gt ?_|exact Gz rfl|fail)
 by_cases hg:0≤g∧g<8
 ·refine Yf (by simp;omega) ?_
  rw [Bg9]
  refine Yn fun b h=>?_
  rw [show ([.int .u8 ((b8 g).toNat:Int),.int .u8 211]:List Value)=A0 [b8 g,211] from rfl]
  refine Aj1 0 rfl 1 2 rfl (by omega) ?_
  (try simp only[Nr,Nl,Nat.reduceAdd,Nat.reduceMul,Int.reduceToNat])
  refine Tr.pcall (Gc6 (slC false B0 1 (some ⟨b,0,none⟩) 2 2 (A0 [b8 g,211])) (some ⟨b,0,none⟩) false 2 2 2 [b8 g,211] 2 (by simp) (by simp [D3])) ?_
  (repeat' first|refine Gu ?_|(with_reducible first|refine Gn fun b h=>?_|apply Gx|apply Gy|rintro px rfl|refine fun(h:H)=>?_|intro hb)|refine Gs ?_|refine Gt ?_|exact Gz rfl|fail)
  rw [show List.take 2 [b8 g,211]=[b8 g,211] from rfl,Dm6]
  refine Tr.xApd ⟨rfl,rfl,by simp [D3]⟩ fun a' c' h'=>?_
  (try simp only[Nr,Nl,Nat.reduceAdd,Nat.reduceMul,Int.reduceToNat])
  refine Ys fun o=>?_
  exact .inl ⟨hg.1,hg.2,a',c',rfl,(show Own h' (_::slC false B0 1 a' 4 c' (A0 (E75 g))::_) from o).sub⟩
 ·refine Yt (by simp;omega) ?_
  refine Ys fun o=>?_
  exact .inr ⟨hg,rfl,o.sub⟩
theorem H90 (l:List UInt8):∀ (m i:Nat) (r:List UInt8),l.length-i=m→ByteArray.toList.loop ⟨⟨l⟩⟩ i r=r.reverse++l.drop i:=by
 intro m
 induction m with
 | zero =>
  intro i r hm
  unfold ByteArray.toList.loop
  rw [if_neg (show ¬ i<(ByteArray.mk ⟨l⟩).size by show ¬ i<l.length;omega),List.drop_eq_nil_of_le (by omega)];simp
 | succ m ih =>
  intro i r hm
  have hlt:i<l.length:=by omega
  unfold ByteArray.toList.loop
  rw [if_pos (show i<(ByteArray.mk ⟨l⟩).size from hlt),ih (i+1) _ (by omega),List.drop_eq_getElem_cons hlt]
  have:(ByteArray.mk ⟨l⟩).get! i=l[i]:=by
   show (Array.mk l)[i]! = l[i]
   simp [hlt]
  rw [this];simp
theorem Go0 (l:List UInt8):(ByteArray.mk ⟨l⟩).toList=l:=by
 unfold ByteArray.toList
 rw [H90 l _ 0 [] rfl];simp
theorem Hk1 (a:Option Addr) (c:Nat) (l:List UInt8) (hl:l.length=4):Ct D2 An5 [.slice a 4 c] [slC false B0 1 a 4 c (A0 l)] fun v own=>v=.tuple ⟨[int (At1 l).1,int (At1 l).2]⟩∧own [slC false B0 1 a 4 c (A0 l)]:=by
 refine Ct.of Ew1 rfl fun h r=>Tr.eq (Ex2 ..) ?_;(try simp only[Nr,Nl,Nat.reduceAdd,Nat.reduceMul,Int.reduceToNat])
 refine Yf rfl ?_
 (repeat' first|refine Gu ?_|(with_reducible first|refine Gn fun b h=>?_|apply Gx|apply Gy|rintro px rfl|refine fun(h:H)=>?_|intro hb)|refine Gs ?_|refine Gt ?_|exact Gz rfl|fail)
 refine Tr.xIntS (v:=byI l 0) (Ad8 (by omega)) ?_
 simp only [byI,An2]
 refine Yc (Gr6 (byI l 0)) ?_
 rintro v h (⟨h1,h2,a1,c1,rfl,o⟩|⟨hn,rfl,o⟩)
 ·refine (?_:Tr _ _ _ _) o
  (try simp only[Nr,Nl,Nat.reduceAdd,Nat.reduceMul,Int.reduceToNat])
  (repeat' first|refine Gu ?_|(with_reducible first|refine Gn fun b h=>?_|apply Gx|apply Gy|rintro px rfl|refine fun(h:H)=>?_|intro hb)|refine Gs ?_|refine Gt ?_|exact Gz rfl|fail)
  rw [Go0,Go0]
  by_cases he:E75 (byI l 0)=l
  ·have e:At1 l=(byI l 0,1):=by unfold At1;rw [if_pos ⟨h2,he⟩]
   refine Yf (by simp [he]) ?_
   (repeat' first|refine Gu ?_|(with_reducible first|refine Gn fun b h=>?_|apply Gx|apply Gy|rintro px rfl|refine fun(h:H)=>?_|intro hb)|refine Gs ?_|refine Gt ?_|exact Gz rfl|fail)
   refine Tr.xIntS (v:=byI l 0) (Ad8 (by omega)) ?_
   refine Ys fun o=>?_
   rw [e];exact ⟨by simp only [byI,An2],o.sub⟩
  ·have e:At1 l=(0,2):=by unfold At1;rw [if_neg (fun hh=>he hh.2)]
   refine Yt (by simp [he]) ?_
   refine Ys fun o=>?_
   rw [e];exact ⟨rfl,o.sub⟩
 ·refine (?_:Tr _ _ _ _) o
  (try simp only[Nr,Nl,Nat.reduceAdd,Nat.reduceMul,Int.reduceToNat])
  (repeat' first|refine Gu ?_|(with_reducible first|refine Gn fun b h=>?_|rintro px rfl|refine fun(h:H)=>?_|intro hb)|refine Gs ?_|refine Gt ?_|exact Gz rfl|fail)
  refine Yb (Yt rfl ?_)
  refine Ys fun o=>(?_:Tr _ _ _ _) o;(try simp only[Nr,Nl,Nat.reduceAdd,Nat.reduceMul,Int.reduceToNat])
  (repeat' first|refine Gu ?_|(with_reducible first|refine Gn fun b h=>?_|apply Gx|apply Gy|rintro px rfl|refine fun(h:H)=>?_|intro hb)|refine Gs ?_|refine Gt ?_|exact Gz rfl|fail)
  refine Ys fun o=>?_
  exact ⟨by unfold At1;rw [if_neg (by simp only [byI] at *;omega)],o.sub⟩
theorem Hp5 (l:List UInt8) (h:(At1 l).2≠1):(At1 l).1=0:=by
 unfold At1 at *;split<;>simp_all
theorem Ia1 (c k:Nat) (F:Fr) (X:CX) (rc:RecS) (ok:FrOk F) (hk:R0 rc.kind=4):Ct D2 S5 [P0 c,.agg ⟨Z3 rc⟩,.func (.func An5) ⟨[]⟩ ⟨[]⟩] [cmC c k F X] fun v own =>
  v=.tuple ⟨[int (V1 At1 0 X rc).1.1,int (V1 At1 0 X rc).1.2]⟩∧own [cmC c k F (V1 At1 0 X rc).2]:=by
 refine Ct.of A92 rfl fun h r=>Tr.eq (D91 ..) ?_;(try simp only[Nr,Nl,Nat.reduceAdd,Nat.reduceMul,Int.reduceToNat])
 (repeat' first|refine Gu ?_|(with_reducible first|refine Gn fun b h=>?_|apply Gx|apply Gy|rintro px rfl|refine fun(h:H)=>?_|intro hb)|refine Gs ?_|refine Gt ?_|exact Gz rfl|fail)
 refine Yc (Ec5 c k F X rc ok) ?_
 rintro v h (⟨l,a,cp,hr,hl,rfl,o⟩|⟨hr,rfl,o⟩)
 ·refine (?_:Tr _ _ _ _) o
  (try simp only[Nr,Nl,Nat.reduceAdd,Nat.reduceMul,Int.reduceToNat])
  have e:V1 At1 0 X rc=(At1 l,if (At1 l).2=2 then { X with bad:=X.bad++[rc] } else X):=by unfold V1;rw [hr]
  have hb:=Ed3 hr
  rw [e]
  rw [hk] at hl
  rw [hl]
  (repeat' first|refine Gu ?_|(with_reducible first|refine Gn fun b h=>?_|apply Gx|apply Gy|rintro px rfl|refine fun(h:H)=>?_|intro hb)|refine Gs ?_|refine Gt ?_|exact Gz rfl|fail)
  refine Yc (Hk1 a cp l hl) ?_;rintro _ h ⟨rfl,o⟩<;>(refine (?_:Tr _ _ _ _) o;(try simp only[Nr,Nl,Nat.reduceAdd,Nat.reduceMul,Int.reduceToNat]);(repeat' first|refine Gu ?_|(with_reducible first|refine Gn fun b h=>?_|apply Gx|apply Gy|rintro px rfl|refine fun(h:H)=>?_|intro hb)|refine Gs ?_|refine Gt ?_|exact Gz rfl|fail))
  by_cases h2:(At1 l).2=2
  ·refine Yt (by simpa using h2) ?_
   have hz:=Hp5 l (by omega)
   simp only [if_pos h2]
   refine D7 (cmC c k F X) fun u=>?_;(try simp only[Nr,Nl,Nat.reduceAdd,Nat.reduceMul,Int.reduceToNat])
   refine D7 (W5 c k F.env F.caps X.bad) fun ⟨ca,cn,mb⟩=>?_;(try simp only[Nr,Nl,Nat.reduceAdd,Nat.reduceMul,Int.reduceToNat])
   (repeat' first|refine Gu ?_|(with_reducible first|refine Gn fun b h=>?_|apply Gx|apply Gy|rintro px rfl|refine fun(h:H)=>?_|intro hb)|refine Gs ?_|refine Gt ?_|exact Gz rfl|fail)
   rw [Bw6,if_neg hb]
   (repeat' first|refine Gu ?_|(with_reducible first|refine Gn fun b h=>?_|apply Gx|apply Gy|rintro px rfl|refine fun(h:H)=>?_|intro hb)|refine Gs ?_|refine Gt ?_|exact Gz rfl|fail)
   rw [D87 hb]
   (repeat' first|refine Gu ?_|(with_reducible first|refine Gn fun b h=>?_|apply Gx|apply Gy|rintro px rfl|refine fun(h:H)=>?_|intro hb)|refine Gs ?_|refine Gt ?_|exact Gz rfl|fail)
   rw [Du4 hb]
   (repeat' first|refine Gu ?_|(with_reducible first|refine Gn fun b h=>?_|apply Gx|apply Gy|rintro px rfl|refine fun(h:H)=>?_|intro hb)|refine Gs ?_|refine Gt ?_|exact Gz rfl|fail)
   rw [Dd0 X.bad 0 X.bad.length _ 0 rfl (by omega),Nat.zero_add]
   (repeat' first|refine Gu ?_|(with_reducible first|refine Gn fun b h=>?_|apply Gx|apply Gy|rintro px rfl|refine fun(h:H)=>?_|intro hb)|refine Gs ?_|refine Gt ?_|exact Gz rfl|fail)
   rw [Ec1]
   refine Tr.jmp A92 (Tr.eq (Bm0 ..) ?_);(try simp only[Nr,Nl,wl,Nat.reduceAdd,Nat.reduceMul,Int.reduceToNat])
   refine Yt (by rw [bne_iff_ne];omega) ?_
   rw [show X.bad.length+1=(X.bad++[rc]).length by simp]
   refine D4 (W5 c k F.env F.caps (X.bad++[rc])) ⟨ca,cn,mb⟩ ?_;(try simp only[Nr,Nl,Nat.reduceAdd,Nat.reduceMul,Int.reduceToNat])
   refine D4 (cmC c k F { X with bad:=X.bad++[rc] }) () ?_;(try simp only[Nr,Nl,Nat.reduceAdd,Nat.reduceMul,Int.reduceToNat])
   refine Ys fun o=>?_
   exact ⟨by rw [hz],o.sub⟩
  ·refine Yf (by simpa using h2) ?_
   simp only [if_neg h2]
   refine Tr.jmp A92 (Tr.eq (Bm0 ..) ?_);(try simp only[Nr,Nl,wl,Nat.reduceAdd,Nat.reduceMul,Int.reduceToNat])
   by_cases h1:(At1 l).2=1
   ·refine Yf (by simpa using h1) ?_
    refine Ys fun o=>?_
    exact ⟨rfl,o.sub⟩
   ·refine Yt (by simpa using h1) ?_
    refine Ys fun o=>?_
    exact ⟨by rw [Hp5 l h1],o.sub⟩
 ·refine (?_:Tr _ _ _ _) o
  (try simp only[Nr,Nl,Nat.reduceAdd,Nat.reduceMul,Int.reduceToNat])
  have e:V1 At1 0 X rc=((0,2),X):=by unfold V1;rw [hr]
  rw [e]
  (repeat' first|refine Gu ?_|(with_reducible first|refine Gn fun b h=>?_|apply Gx|apply Gy|rintro px rfl|refine fun(h:H)=>?_|intro hb)|refine Gs ?_|refine Gt ?_|exact Gz rfl|fail)
  refine Ys fun o=>?_
  exact ⟨rfl,o.sub⟩
abbrev D88 (X:CX) (i:Int):(ProcS × Int) × CX:=V1 W0 .zero X ⟨1,i⟩
abbrev D74 (X:CX) (i:Int):(FileS × Int) × CX:=V1 Z2 .zero X ⟨2,i⟩
abbrev Dj1 (X:CX) (i:Int):(PipeS × Int) × CX:=V1 V2 .zero X ⟨3,i⟩
abbrev Es1 (X:CX):(PipeS × Int) × CX:=V1 V2 .zero X ⟨4,0⟩
abbrev Ei0 (X:CX):(Int × Int) × CX:=V1 At1 0 X ⟨5,0⟩
abbrev B82 (X:CX) (i:Int) (p:ProcS):Bool × CX:=wrX X ⟨1,i⟩ (Aw1 p) (okS p)
abbrev B85 (X:CX) (i:Int) (p:FileS):Bool × CX:=wrX X ⟨2,i⟩ (Ai6 p) (okF p)
abbrev B77 (X:CX) (i:Int) (p:PipeS):Bool × CX:=wrX X ⟨3,i⟩ (L1 p) (okP p)
abbrev Bl3 (X:CX) (rc:RecS):Bool × CX:=wrX X rc (List.replicate (R0 rc.kind) 0) true
theorem D19 (X:CX) (rc:RecS) (b:List UInt8):wrX X rc b false=(false,X):=by
 unfold wrX;split<;>simp
theorem Ei8 (c k:Nat) (F:Fr) (X:CX) (rc:RecS) (ok:FrOk F):Ct D2 Q7 [P0 c,.agg ⟨Z3 rc⟩] [cmC c k F X] fun v own =>
  v=.bool (Bl3 X rc).1∧own [cmC c k F (Bl3 X rc).2]:=by
 refine Ct.of Dr8 rfl fun h r=>Tr.eq (Ds0 ..) ?_;(try simp only[Nr,Nl,Nat.reduceAdd,Nat.reduceMul,Int.reduceToNat])
 refine D7 (cmC c k F X) fun u=>?_;(try simp only[Nr,Nl,Nat.reduceAdd,Nat.reduceMul,Int.reduceToNat])
 refine P4 2 rfl fun f=>?_
 (repeat' first|refine Gu ?_|(with_reducible first|refine Gn fun b h=>?_|apply Gx|apply Gy|rintro px rfl|refine fun(h:H)=>?_|intro hb)|refine Gs ?_|refine Gt ?_|exact Gz rfl|fail)
 refine Yc (El1 c k F.env F.caps X.bad rc ok.small ok.ne) ?_;rintro _ h ⟨rfl,o⟩<;>(refine (?_:Tr _ _ _ _) o;(try simp only[Nr,Nl,Nat.reduceAdd,Nat.reduceMul,Int.reduceToNat]);(repeat' first|refine Gu ?_|(with_reducible first|refine Gn fun b h=>?_|apply Gx|apply Gy|rintro px rfl|refine fun(h:H)=>?_|intro hb)|refine Gs ?_|refine Gt ?_|exact Gz rfl|fail))
 have em:=f.mlen ok
 cases hp:H5 F.caps.length rc with
 | none =>
  (repeat' first|refine Gu ?_|(with_reducible first|refine Gn fun b h=>?_|apply Gx|apply Gy|rintro px rfl|refine fun(h:H)=>?_|intro hb)|refine Gs ?_|refine Gt ?_|exact Gz rfl|fail)
  rw [show I0 (Int.toNat 0) [.int .u8 0]=A0 [] from rfl]
  refine Aj1 0 rfl 1 0 rfl (by omega) ?_
  (try simp only[Nr,Nl,Nat.reduceAdd,Nat.reduceMul,Int.reduceToNat])
  refine D4 (cmC c k F X) () ?_;(try simp only[Nr,Nl,Nat.reduceAdd,Nat.reduceMul,Int.reduceToNat])
  refine Yc (Bw0 c k F X rc ok [] false (some ⟨b,0,none⟩) 0 (by simp)) ?_;rintro _ h ⟨rfl,o⟩<;>(refine (?_:Tr _ _ _ _) o;(try simp only[Nr,Nl,Nat.reduceAdd,Nat.reduceMul,Int.reduceToNat]);(repeat' first|refine Gu ?_|(with_reducible first|refine Gn fun b h=>?_|apply Gx|apply Gy|rintro px rfl|refine fun(h:H)=>?_|intro hb)|refine Gs ?_|refine Gt ?_|exact Gz rfl|fail))
  refine Ys fun o=>?_
  have e:Bl3 X rc=(false,X):=by unfold Bl3 wrX;rw [em,hp]
  rw [D19] at o
  rw [e,D19]
  exact ⟨by first|rfl|trivial,o.sub⟩
 | some p =>
  obtain ⟨j,a,n⟩:=p
  have hn:=Di1 hp
  subst hn
  have h40:R0 rc.kind≤40:=by unfold R0;(repeat' split)<;>omega
  (repeat' first|refine Gu ?_|(with_reducible first|refine Gn fun b h=>?_|apply Gx|apply Gy|rintro px rfl|refine fun(h:H)=>?_|intro hb)|refine Gs ?_|refine Gt ?_|exact Gz rfl|fail)
  refine Tr.ck ⟨by omega,by omega,by simp only [D3];omega⟩ ?_
  refine Yn fun b1 h=>?_
  rw [Int.toNat_natCast,show I0 (R0 rc.kind) [.int .u8 0]=A0 (List.replicate (R0 rc.kind) 0) by simp [I0,A0]]
  refine Aj1 0 rfl 1 (R0 rc.kind) (by simp [A0]) (by omega) ?_
  (try simp only[Nr,Nl,Nat.reduceAdd,Nat.reduceMul,Int.reduceToNat])
  refine D4 (cmC c k F X) () ?_;(try simp only[Nr,Nl,Nat.reduceAdd,Nat.reduceMul,Int.reduceToNat])
  have J:=Bw0 c k F X rc ok (List.replicate (R0 rc.kind) 0) true (some ⟨b1,0,none⟩) (R0 rc.kind) (by simp)
  rw [List.length_replicate] at J
  refine Yc (J) ?_;rintro _ h ⟨rfl,o⟩<;>(refine (?_:Tr _ _ _ _) o;(try simp only[Nr,Nl,Nat.reduceAdd,Nat.reduceMul,Int.reduceToNat]);(repeat' first|refine Gu ?_|(with_reducible first|refine Gn fun b h=>?_|apply Gx|apply Gy|rintro px rfl|refine fun(h:H)=>?_|intro hb)|refine Gs ?_|refine Gt ?_|exact Gz rfl|fail))
  refine Ys fun o=>?_
  exact ⟨rfl,o.sub⟩
theorem D95 (c k:Nat) (F:Fr) (X:CX) (rc:RecS) (ok:FrOk F):Ct D2 L0 [P0 c,.agg ⟨Z3 rc⟩,.slice none 0 0,.bool false] [cmC c k F X] fun v own=>v=.bool false∧own [cmC c k F X]:=by
 intro h r o
 have o1:Own h (slC false B0 1 none 0 0 (A0 [])::cmC c k F X::r):=o.slNil false B0 (by omega)
 obtain ⟨v,h',e,rfl,o2⟩:=Bw0 c k F X rc ok [] false none 0 (by simp) h r (o1.perm (.swap _ _ _))
 rw [D19] at e o2
 exact ⟨_,h',e,rfl,o2.sub⟩
theorem D69 (i:Int):Ct D2 As3 [int i] [] fun v own=>v=.agg ⟨Z3 ⟨1,i⟩⟩∧own []:=by
 refine Ct.of Ge4 rfl fun h r=>Tr.eq (Gh2 ..) ?_;(try simp only[Nr,Nl,Nat.reduceAdd,Nat.reduceMul,Int.reduceToNat])
 (repeat' first|refine Gu ?_|(with_reducible first|refine Gn fun b h=>?_|apply Gx|apply Gy|rintro px rfl|refine fun(h:H)=>?_|intro hb)|refine Gs ?_|refine Gt ?_|exact Gz rfl|fail)
 refine Ys fun o=>?_
 exact ⟨rfl,o.sub⟩
theorem D84 (i:Int):Ct D2 As7 [int i] [] fun v own=>v=.agg ⟨Z3 ⟨2,i⟩⟩∧own []:=by
 refine Ct.of Gg3 rfl fun h r=>Tr.eq (Gf6 ..) ?_;(try simp only[Nr,Nl,Nat.reduceAdd,Nat.reduceMul,Int.reduceToNat])
 (repeat' first|refine Gu ?_|(with_reducible first|refine Gn fun b h=>?_|apply Gx|apply Gy|rintro px rfl|refine fun(h:H)=>?_|intro hb)|refine Gs ?_|refine Gt ?_|exact Gz rfl|fail)
 refine Ys fun o=>?_
 exact ⟨rfl,o.sub⟩
theorem Eb7 (i:Int):Ct D2 As4 [int i] [] fun v own=>v=.agg ⟨Z3 ⟨3,i⟩⟩∧own []:=by
 refine Ct.of Gi2 rfl fun h r=>Tr.eq (Gg0 ..) ?_;(try simp only[Nr,Nl,Nat.reduceAdd,Nat.reduceMul,Int.reduceToNat])
 (repeat' first|refine Gu ?_|(with_reducible first|refine Gn fun b h=>?_|apply Gx|apply Gy|rintro px rfl|refine fun(h:H)=>?_|intro hb)|refine Gs ?_|refine Gt ?_|exact Gz rfl|fail)
 refine Ys fun o=>?_
 exact ⟨rfl,o.sub⟩
theorem Au4 (c k:Nat) (F:Fr) (X:CX) (ok:FrOk F) (i:Int):Ct D2 E4 [P0 c,int i] [cmC c k F X] fun v own=>v=.tuple ⟨[.agg ⟨E2 (D88 X i).1.1⟩,int (D88 X i).1.2]⟩∧own [cmC c k F (D88 X i).2]:=by
 refine Ct.of D10 rfl fun h r=>Tr.eq (D08 ..) ?_;(try simp only[Nr,Nl,Nat.reduceAdd,Nat.reduceMul,Int.reduceToNat])
 (repeat' first|refine Gu ?_|(with_reducible first|refine Gn fun b h=>?_|apply Gx|apply Gy|rintro px rfl|refine fun(h:H)=>?_|intro hb)|refine Gs ?_|refine Gt ?_|exact Gz rfl|fail)
 refine Yc (D69 i) ?_;rintro _ h ⟨rfl,o⟩<;>(refine (?_:Tr _ _ _ _) o;(try simp only[Nr,Nl,Nat.reduceAdd,Nat.reduceMul,Int.reduceToNat]);(repeat' first|refine Gu ?_|(with_reducible first|refine Gn fun b h=>?_|apply Gx|apply Gy|rintro px rfl|refine fun(h:H)=>?_|intro hb)|refine Gs ?_|refine Gt ?_|exact Gz rfl|fail))
 refine Yc (H64 c k F X ⟨1,i⟩ ok rfl) ?_;rintro _ h ⟨rfl,o⟩<;>(refine (?_:Tr _ _ _ _) o;(try simp only[Nr,Nl,Nat.reduceAdd,Nat.reduceMul,Int.reduceToNat]);(repeat' first|refine Gu ?_|(with_reducible first|refine Gn fun b h=>?_|apply Gx|apply Gy|rintro px rfl|refine fun(h:H)=>?_|intro hb)|refine Gs ?_|refine Gt ?_|exact Gz rfl|fail))
 refine Ys fun o=>?_
 exact ⟨rfl,o.sub⟩
theorem Ea5 (c k:Nat) (F:Fr) (X:CX) (ok:FrOk F) (i:Int):Ct D2 O9 [P0 c,int i] [cmC c k F X] fun v own=>v=.tuple ⟨[.agg ⟨Br5 (D74 X i).1.1⟩,int (D74 X i).1.2]⟩∧own [cmC c k F (D74 X i).2]:=by
 refine Ct.of Dw9 rfl fun h r=>Tr.eq (Dz3 ..) ?_;(try simp only[Nr,Nl,Nat.reduceAdd,Nat.reduceMul,Int.reduceToNat])
 (repeat' first|refine Gu ?_|(with_reducible first|refine Gn fun b h=>?_|apply Gx|apply Gy|rintro px rfl|refine fun(h:H)=>?_|intro hb)|refine Gs ?_|refine Gt ?_|exact Gz rfl|fail)
 refine Yc (D84 i) ?_;rintro _ h ⟨rfl,o⟩<;>(refine (?_:Tr _ _ _ _) o;(try simp only[Nr,Nl,Nat.reduceAdd,Nat.reduceMul,Int.reduceToNat]);(repeat' first|refine Gu ?_|(with_reducible first|refine Gn fun b h=>?_|apply Gx|apply Gy|rintro px rfl|refine fun(h:H)=>?_|intro hb)|refine Gs ?_|refine Gt ?_|exact Gz rfl|fail))
 refine Yc (H70 c k F X ⟨2,i⟩ ok rfl) ?_;rintro _ h ⟨rfl,o⟩<;>(refine (?_:Tr _ _ _ _) o;(try simp only[Nr,Nl,Nat.reduceAdd,Nat.reduceMul,Int.reduceToNat]);(repeat' first|refine Gu ?_|(with_reducible first|refine Gn fun b h=>?_|apply Gx|apply Gy|rintro px rfl|refine fun(h:H)=>?_|intro hb)|refine Gs ?_|refine Gt ?_|exact Gz rfl|fail))
 refine Ys fun o=>?_
 exact ⟨rfl,o.sub⟩
theorem Gt8 (c k:Nat) (F:Fr) (X:CX) (ok:FrOk F) (i:Int):Ct D2 Aa7 [P0 c,int i] [cmC c k F X] fun v own=>v=.tuple ⟨[.agg ⟨N7 (Dj1 X i).1.1⟩,int (Dj1 X i).1.2]⟩∧own [cmC c k F (Dj1 X i).2]:=by
 refine Ct.of Dz6 rfl fun h r=>Tr.eq (Dz1 ..) ?_;(try simp only[Nr,Nl,Nat.reduceAdd,Nat.reduceMul,Int.reduceToNat])
 (repeat' first|refine Gu ?_|(with_reducible first|refine Gn fun b h=>?_|apply Gx|apply Gy|rintro px rfl|refine fun(h:H)=>?_|intro hb)|refine Gs ?_|refine Gt ?_|exact Gz rfl|fail)
 refine Yc (Eb7 i) ?_;rintro _ h ⟨rfl,o⟩<;>(refine (?_:Tr _ _ _ _) o;(try simp only[Nr,Nl,Nat.reduceAdd,Nat.reduceMul,Int.reduceToNat]);(repeat' first|refine Gu ?_|(with_reducible first|refine Gn fun b h=>?_|apply Gx|apply Gy|rintro px rfl|refine fun(h:H)=>?_|intro hb)|refine Gs ?_|refine Gt ?_|exact Gz rfl|fail))
 refine Yc (Hg2 c k F X ⟨3,i⟩ ok rfl) ?_;rintro _ h ⟨rfl,o⟩<;>(refine (?_:Tr _ _ _ _) o;(try simp only[Nr,Nl,Nat.reduceAdd,Nat.reduceMul,Int.reduceToNat]);(repeat' first|refine Gu ?_|(with_reducible first|refine Gn fun b h=>?_|apply Gx|apply Gy|rintro px rfl|refine fun(h:H)=>?_|intro hb)|refine Gs ?_|refine Gt ?_|exact Gz rfl|fail))
 refine Ys fun o=>?_
 exact ⟨rfl,o.sub⟩
theorem H21 (c k:Nat) (F:Fr) (X:CX) (ok:FrOk F):Ct D2 Ak1 [P0 c] [cmC c k F X] fun v own=>v=.tuple ⟨[.agg ⟨N7 (Es1 X).1.1⟩,int (Es1 X).1.2]⟩∧own [cmC c k F (Es1 X).2]:=by
 refine Ct.of Dx3 rfl fun h r=>Tr.eq (Dy2 ..) ?_;(try simp only[Nr,Nl,Nat.reduceAdd,Nat.reduceMul,Int.reduceToNat])
 (repeat' first|refine Gu ?_|(with_reducible first|refine Gn fun b h=>?_|apply Gx|apply Gy|rintro px rfl|refine fun(h:H)=>?_|intro hb)|refine Gs ?_|refine Gt ?_|exact Gz rfl|fail)
 refine Yc (Hg2 c k F X ⟨4,0⟩ ok rfl) ?_;rintro _ h ⟨rfl,o⟩<;>(refine (?_:Tr _ _ _ _) o;(try simp only[Nr,Nl,Nat.reduceAdd,Nat.reduceMul,Int.reduceToNat]);(repeat' first|refine Gu ?_|(with_reducible first|refine Gn fun b h=>?_|apply Gx|apply Gy|rintro px rfl|refine fun(h:H)=>?_|intro hb)|refine Gs ?_|refine Gt ?_|exact Gz rfl|fail))
 refine Ys fun o=>?_
 exact ⟨rfl,o.sub⟩
theorem Hs6 (c k:Nat) (F:Fr) (X:CX) (ok:FrOk F):Ct D2 Ai1 [P0 c] [cmC c k F X] fun v own=>v=.tuple ⟨[int (Ei0 X).1.1,.bool ((Ei0 X).1.2==1)]⟩∧own [cmC c k F (Ei0 X).2]:=by
 refine Ct.of Ds3 rfl fun h r=>Tr.eq (Dr9 ..) ?_;(try simp only[Nr,Nl,Nat.reduceAdd,Nat.reduceMul,Int.reduceToNat])
 (repeat' first|refine Gu ?_|(with_reducible first|refine Gn fun b h=>?_|apply Gx|apply Gy|rintro px rfl|refine fun(h:H)=>?_|intro hb)|refine Gs ?_|refine Gt ?_|exact Gz rfl|fail)
 refine Yc (Ia1 c k F X ⟨5,0⟩ ok rfl) ?_;rintro _ h ⟨rfl,o⟩<;>(refine (?_:Tr _ _ _ _) o;(try simp only[Nr,Nl,Nat.reduceAdd,Nat.reduceMul,Int.reduceToNat]);(repeat' first|refine Gu ?_|(with_reducible first|refine Gn fun b h=>?_|apply Gx|apply Gy|rintro px rfl|refine fun(h:H)=>?_|intro hb)|refine Gs ?_|refine Gt ?_|exact Gz rfl|fail))
 refine Ys fun o=>?_
 exact ⟨rfl,o.sub⟩
theorem Dp8 (f:FileS):(Ai6 f).length=8:=rfl
theorem B95 (c k:Nat) (F:Fr) (X:CX) (ok:FrOk F) (i:Int) (p:ProcS):Ct D2 L5 [P0 c,int i,.agg ⟨E2 p⟩] [cmC c k F X] fun v own=>v=.bool (B82 X i p).1∧own [cmC c k F (B82 X i p).2]:=by
 refine Ct.of Di0 rfl fun h r=>Tr.eq (Dk6 ..) ?_;(try simp only[Nr,Nl,Nat.reduceAdd,Nat.reduceMul,Int.reduceToNat])
 (repeat' first|refine Gu ?_|(with_reducible first|refine Gn fun b h=>?_|apply Gx|apply Gy|rintro px rfl|refine fun(h:H)=>?_|intro hb)|refine Gs ?_|refine Gt ?_|exact Gz rfl|fail)
 refine Yc (E78 p) ?_
 rintro v h (⟨hk,a,rfl,o⟩|⟨hk,rfl,o⟩)
 ·refine (?_:Tr _ _ _ _) o
  (try simp only[Nr,Nl,Nat.reduceAdd,Nat.reduceMul,Int.reduceToNat])
  (repeat' first|refine Gu ?_|(with_reducible first|refine Gn fun b h=>?_|apply Gx|apply Gy|rintro px rfl|refine fun(h:H)=>?_|intro hb)|refine Gs ?_|refine Gt ?_|exact Gz rfl|fail)
  refine Yc (D69 i) ?_;rintro _ h ⟨rfl,o⟩<;>(refine (?_:Tr _ _ _ _) o;(try simp only[Nr,Nl,Nat.reduceAdd,Nat.reduceMul,Int.reduceToNat]);(repeat' first|refine Gu ?_|(with_reducible first|refine Gn fun b h=>?_|apply Gx|apply Gy|rintro px rfl|refine fun(h:H)=>?_|intro hb)|refine Gs ?_|refine Gt ?_|exact Gz rfl|fail))
  have J:=Bw0 c k F X ⟨1,i⟩ ok (Aw1 p) true a 24 (fun _=>Eb1 p)
  rw [Eb1] at J
  refine Yc (J) ?_;rintro _ h ⟨rfl,o⟩<;>(refine (?_:Tr _ _ _ _) o;(try simp only[Nr,Nl,Nat.reduceAdd,Nat.reduceMul,Int.reduceToNat]);(repeat' first|refine Gu ?_|(with_reducible first|refine Gn fun b h=>?_|apply Gx|apply Gy|rintro px rfl|refine fun(h:H)=>?_|intro hb)|refine Gs ?_|refine Gt ?_|exact Gz rfl|fail))
  refine Ys fun o=>?_
  unfold B82;rw [hk]
  exact ⟨rfl,o.sub⟩
 ·refine (?_:Tr _ _ _ _) o
  (try simp only[Nr,Nl,Nat.reduceAdd,Nat.reduceMul,Int.reduceToNat])
  (repeat' first|refine Gu ?_|(with_reducible first|refine Gn fun b h=>?_|apply Gx|apply Gy|rintro px rfl|refine fun(h:H)=>?_|intro hb)|refine Gs ?_|refine Gt ?_|exact Gz rfl|fail)
  refine Yc (D69 i) ?_;rintro _ h ⟨rfl,o⟩<;>(refine (?_:Tr _ _ _ _) o;(try simp only[Nr,Nl,Nat.reduceAdd,Nat.reduceMul,Int.reduceToNat]);(repeat' first|refine Gu ?_|(with_reducible first|refine Gn fun b h=>?_|apply Gx|apply Gy|rintro px rfl|refine fun(h:H)=>?_|intro hb)|refine Gs ?_|refine Gt ?_|exact Gz rfl|fail))
  refine Yc (D95 c k F X ⟨1,i⟩ ok) ?_;rintro _ h ⟨rfl,o⟩<;>(refine (?_:Tr _ _ _ _) o;(try simp only[Nr,Nl,Nat.reduceAdd,Nat.reduceMul,Int.reduceToNat]);(repeat' first|refine Gu ?_|(with_reducible first|refine Gn fun b h=>?_|apply Gx|apply Gy|rintro px rfl|refine fun(h:H)=>?_|intro hb)|refine Gs ?_|refine Gt ?_|exact Gz rfl|fail))
  refine Ys fun o=>?_
  unfold B82;rw [hk,D19]
  exact ⟨rfl,o.sub⟩
theorem Ez7 (c k:Nat) (F:Fr) (X:CX) (ok:FrOk F) (i:Int) (p:FileS):Ct D2 U6 [P0 c,int i,.agg ⟨Br5 p⟩] [cmC c k F X] fun v own=>v=.bool (B85 X i p).1∧own [cmC c k F (B85 X i p).2]:=by
 refine Ct.of Di4 rfl fun h r=>Tr.eq (Dk5 ..) ?_;(try simp only[Nr,Nl,Nat.reduceAdd,Nat.reduceMul,Int.reduceToNat])
 (repeat' first|refine Gu ?_|(with_reducible first|refine Gn fun b h=>?_|apply Gx|apply Gy|rintro px rfl|refine fun(h:H)=>?_|intro hb)|refine Gs ?_|refine Gt ?_|exact Gz rfl|fail)
 refine Yc (Ga3 p) ?_
 rintro v h (⟨hk,a,rfl,o⟩|⟨hk,rfl,o⟩)
 ·refine (?_:Tr _ _ _ _) o
  (try simp only[Nr,Nl,Nat.reduceAdd,Nat.reduceMul,Int.reduceToNat])
  (repeat' first|refine Gu ?_|(with_reducible first|refine Gn fun b h=>?_|apply Gx|apply Gy|rintro px rfl|refine fun(h:H)=>?_|intro hb)|refine Gs ?_|refine Gt ?_|exact Gz rfl|fail)
  refine Yc (D84 i) ?_;rintro _ h ⟨rfl,o⟩<;>(refine (?_:Tr _ _ _ _) o;(try simp only[Nr,Nl,Nat.reduceAdd,Nat.reduceMul,Int.reduceToNat]);(repeat' first|refine Gu ?_|(with_reducible first|refine Gn fun b h=>?_|apply Gx|apply Gy|rintro px rfl|refine fun(h:H)=>?_|intro hb)|refine Gs ?_|refine Gt ?_|exact Gz rfl|fail))
  have J:=Bw0 c k F X ⟨2,i⟩ ok (Ai6 p) true a 8 (fun _=>Dp8 p)
  rw [Dp8] at J
  refine Yc (J) ?_;rintro _ h ⟨rfl,o⟩<;>(refine (?_:Tr _ _ _ _) o;(try simp only[Nr,Nl,Nat.reduceAdd,Nat.reduceMul,Int.reduceToNat]);(repeat' first|refine Gu ?_|(with_reducible first|refine Gn fun b h=>?_|apply Gx|apply Gy|rintro px rfl|refine fun(h:H)=>?_|intro hb)|refine Gs ?_|refine Gt ?_|exact Gz rfl|fail))
  refine Ys fun o=>?_
  unfold B85;rw [hk]
  exact ⟨rfl,o.sub⟩
 ·refine (?_:Tr _ _ _ _) o
  (try simp only[Nr,Nl,Nat.reduceAdd,Nat.reduceMul,Int.reduceToNat])
  (repeat' first|refine Gu ?_|(with_reducible first|refine Gn fun b h=>?_|apply Gx|apply Gy|rintro px rfl|refine fun(h:H)=>?_|intro hb)|refine Gs ?_|refine Gt ?_|exact Gz rfl|fail)
  refine Yc (D84 i) ?_;rintro _ h ⟨rfl,o⟩<;>(refine (?_:Tr _ _ _ _) o;(try simp only[Nr,Nl,Nat.reduceAdd,Nat.reduceMul,Int.reduceToNat]);(repeat' first|refine Gu ?_|(with_reducible first|refine Gn fun b h=>?_|apply Gx|apply Gy|rintro px rfl|refine fun(h:H)=>?_|intro hb)|refine Gs ?_|refine Gt ?_|exact Gz rfl|fail))
  refine Yc (D95 c k F X ⟨2,i⟩ ok) ?_;rintro _ h ⟨rfl,o⟩<;>(refine (?_:Tr _ _ _ _) o;(try simp only[Nr,Nl,Nat.reduceAdd,Nat.reduceMul,Int.reduceToNat]);(repeat' first|refine Gu ?_|(with_reducible first|refine Gn fun b h=>?_|apply Gx|apply Gy|rintro px rfl|refine fun(h:H)=>?_|intro hb)|refine Gs ?_|refine Gt ?_|exact Gz rfl|fail))
  refine Ys fun o=>?_
  unfold B85;rw [hk,D19]
  exact ⟨rfl,o.sub⟩
theorem G98 (c k:Nat) (F:Fr) (X:CX) (ok:FrOk F) (i:Int) (p:PipeS):Ct D2 Ae5 [P0 c,int i,.agg ⟨N7 p⟩] [cmC c k F X] fun v own=>v=.bool (B77 X i p).1∧own [cmC c k F (B77 X i p).2]:=by
 refine Ct.of Di6 rfl fun h r=>Tr.eq (Dh6 ..) ?_;(try simp only[Nr,Nl,Nat.reduceAdd,Nat.reduceMul,Int.reduceToNat])
 (repeat' first|refine Gu ?_|(with_reducible first|refine Gn fun b h=>?_|apply Gx|apply Gy|rintro px rfl|refine fun(h:H)=>?_|intro hb)|refine Gs ?_|refine Gt ?_|exact Gz rfl|fail)
 refine Yc (E71 p) ?_
 rintro v h (⟨hk,a,rfl,o⟩|⟨hk,rfl,o⟩)
 ·refine (?_:Tr _ _ _ _) o
  (try simp only[Nr,Nl,Nat.reduceAdd,Nat.reduceMul,Int.reduceToNat])
  (repeat' first|refine Gu ?_|(with_reducible first|refine Gn fun b h=>?_|apply Gx|apply Gy|rintro px rfl|refine fun(h:H)=>?_|intro hb)|refine Gs ?_|refine Gt ?_|exact Gz rfl|fail)
  refine Yc (Eb7 i) ?_;rintro _ h ⟨rfl,o⟩<;>(refine (?_:Tr _ _ _ _) o;(try simp only[Nr,Nl,Nat.reduceAdd,Nat.reduceMul,Int.reduceToNat]);(repeat' first|refine Gu ?_|(with_reducible first|refine Gn fun b h=>?_|apply Gx|apply Gy|rintro px rfl|refine fun(h:H)=>?_|intro hb)|refine Gs ?_|refine Gt ?_|exact Gz rfl|fail))
  have J:=Bw0 c k F X ⟨3,i⟩ ok (L1 p) true a 40 (fun _=>Bu9 p.len)
  rw [Bu9 p.len] at J
  refine Yc (J) ?_;rintro _ h ⟨rfl,o⟩<;>(refine (?_:Tr _ _ _ _) o;(try simp only[Nr,Nl,Nat.reduceAdd,Nat.reduceMul,Int.reduceToNat]);(repeat' first|refine Gu ?_|(with_reducible first|refine Gn fun b h=>?_|apply Gx|apply Gy|rintro px rfl|refine fun(h:H)=>?_|intro hb)|refine Gs ?_|refine Gt ?_|exact Gz rfl|fail))
  refine Ys fun o=>?_
  unfold B77;rw [hk]
  exact ⟨rfl,o.sub⟩
 ·refine (?_:Tr _ _ _ _) o
  (try simp only[Nr,Nl,Nat.reduceAdd,Nat.reduceMul,Int.reduceToNat])
  (repeat' first|refine Gu ?_|(with_reducible first|refine Gn fun b h=>?_|apply Gx|apply Gy|rintro px rfl|refine fun(h:H)=>?_|intro hb)|refine Gs ?_|refine Gt ?_|exact Gz rfl|fail)
  refine Yc (Eb7 i) ?_;rintro _ h ⟨rfl,o⟩<;>(refine (?_:Tr _ _ _ _) o;(try simp only[Nr,Nl,Nat.reduceAdd,Nat.reduceMul,Int.reduceToNat]);(repeat' first|refine Gu ?_|(with_reducible first|refine Gn fun b h=>?_|apply Gx|apply Gy|rintro px rfl|refine fun(h:H)=>?_|intro hb)|refine Gs ?_|refine Gt ?_|exact Gz rfl|fail))
  refine Yc (D95 c k F X ⟨3,i⟩ ok) ?_;rintro _ h ⟨rfl,o⟩<;>(refine (?_:Tr _ _ _ _) o;(try simp only[Nr,Nl,Nat.reduceAdd,Nat.reduceMul,Int.reduceToNat]);(repeat' first|refine Gu ?_|(with_reducible first|refine Gn fun b h=>?_|apply Gx|apply Gy|rintro px rfl|refine fun(h:H)=>?_|intro hb)|refine Gs ?_|refine Gt ?_|exact Gz rfl|fail))
  refine Ys fun o=>?_
  unfold B77;rw [hk,D19]
  exact ⟨rfl,o.sub⟩
theorem Bz3 (c k:Nat) (F:Fr) (X:CX) (ok:FrOk F) (i:Int):Ct D2 J9 [P0 c,int i] [cmC c k F X] fun v own=>v=.bool (Bl3 X ⟨1,i⟩).1∧own [cmC c k F (Bl3 X ⟨1,i⟩).2]:=by
 refine Ct.of Df5 rfl fun h r=>Tr.eq (De0 ..) ?_;(try simp only[Nr,Nl,Nat.reduceAdd,Nat.reduceMul,Int.reduceToNat])
 refine Yc (D69 i) ?_;rintro _ h ⟨rfl,o⟩<;>(refine (?_:Tr _ _ _ _) o;(try simp only[Nr,Nl,Nat.reduceAdd,Nat.reduceMul,Int.reduceToNat]);(repeat' first|refine Gu ?_|(with_reducible first|refine Gn fun b h=>?_|apply Gx|apply Gy|rintro px rfl|refine fun(h:H)=>?_|intro hb)|refine Gs ?_|refine Gt ?_|exact Gz rfl|fail))
 refine Yc (Ei8 c k F X ⟨1,i⟩ ok) ?_;rintro _ h ⟨rfl,o⟩<;>(refine (?_:Tr _ _ _ _) o;(try simp only[Nr,Nl,Nat.reduceAdd,Nat.reduceMul,Int.reduceToNat]);(repeat' first|refine Gu ?_|(with_reducible first|refine Gn fun b h=>?_|apply Gx|apply Gy|rintro px rfl|refine fun(h:H)=>?_|intro hb)|refine Gs ?_|refine Gt ?_|exact Gz rfl|fail))
 refine Ys fun o=>?_
 exact ⟨rfl,o.sub⟩
theorem Gx0 (c k:Nat) (F:Fr) (X:CX) (ok:FrOk F) (i:Int):Ct D2 Ac2 [P0 c,int i] [cmC c k F X] fun v own=>v=.bool (Bl3 X ⟨2,i⟩).1∧own [cmC c k F (Bl3 X ⟨2,i⟩).2]:=by
 refine Ct.of De4 rfl fun h r=>Tr.eq (Dd7 ..) ?_;(try simp only[Nr,Nl,Nat.reduceAdd,Nat.reduceMul,Int.reduceToNat])
 refine Yc (D84 i) ?_;rintro _ h ⟨rfl,o⟩<;>(refine (?_:Tr _ _ _ _) o;(try simp only[Nr,Nl,Nat.reduceAdd,Nat.reduceMul,Int.reduceToNat]);(repeat' first|refine Gu ?_|(with_reducible first|refine Gn fun b h=>?_|apply Gx|apply Gy|rintro px rfl|refine fun(h:H)=>?_|intro hb)|refine Gs ?_|refine Gt ?_|exact Gz rfl|fail))
 refine Yc (Ei8 c k F X ⟨2,i⟩ ok) ?_;rintro _ h ⟨rfl,o⟩<;>(refine (?_:Tr _ _ _ _) o;(try simp only[Nr,Nl,Nat.reduceAdd,Nat.reduceMul,Int.reduceToNat]);(repeat' first|refine Gu ?_|(with_reducible first|refine Gn fun b h=>?_|apply Gx|apply Gy|rintro px rfl|refine fun(h:H)=>?_|intro hb)|refine Gs ?_|refine Gt ?_|exact Gz rfl|fail))
 refine Ys fun o=>?_
 exact ⟨rfl,o.sub⟩
theorem Gt6 (c k:Nat) (F:Fr) (X:CX) (ok:FrOk F) (i:Int):Ct D2 Ac3 [P0 c,int i] [cmC c k F X] fun v own=>v=.bool (Bl3 X ⟨3,i⟩).1∧own [cmC c k F (Bl3 X ⟨3,i⟩).2]:=by
 refine Ct.of De2 rfl fun h r=>Tr.eq (De6 ..) ?_;(try simp only[Nr,Nl,Nat.reduceAdd,Nat.reduceMul,Int.reduceToNat])
 refine Yc (Eb7 i) ?_;rintro _ h ⟨rfl,o⟩<;>(refine (?_:Tr _ _ _ _) o;(try simp only[Nr,Nl,Nat.reduceAdd,Nat.reduceMul,Int.reduceToNat]);(repeat' first|refine Gu ?_|(with_reducible first|refine Gn fun b h=>?_|apply Gx|apply Gy|rintro px rfl|refine fun(h:H)=>?_|intro hb)|refine Gs ?_|refine Gt ?_|exact Gz rfl|fail))
 refine Yc (Ei8 c k F X ⟨3,i⟩ ok) ?_;rintro _ h ⟨rfl,o⟩<;>(refine (?_:Tr _ _ _ _) o;(try simp only[Nr,Nl,Nat.reduceAdd,Nat.reduceMul,Int.reduceToNat]);(repeat' first|refine Gu ?_|(with_reducible first|refine Gn fun b h=>?_|apply Gx|apply Gy|rintro px rfl|refine fun(h:H)=>?_|intro hb)|refine Gs ?_|refine Gt ?_|exact Gz rfl|fail))
 refine Ys fun o=>?_
 exact ⟨rfl,o.sub⟩
def Dj2 (f:CX→Int→CX):Nat→Int→CX→CX
 | 0,_,X=>X
 | m+1,i,X=>Dj2 f m (i+1) (f X i)
def Ga9 (X:CX):CX:=(Ei0 (Es1 X).2).2
def G11 (nc:Nat) (X:CX):CX:=Ga9 (Dj2 (fun X i=>(Dj1 X i).2) (3+nc) 0 X)
def Gt3 (nc:Nat) (X:CX):CX:=G11 nc (Dj2 (fun X i=>(D74 X i).2) 12 0 X)
def lookN (nc:Nat) (X:CX):CX:=Gt3 nc (Dj2 (fun X i=>(D88 X i).2) 8 0 X)
def Gc9 (X:CX):CX:=lookN X.m.length X
theorem Hh9 (c k:Nat) (F:Fr) (ok:FrOk F):∀ (m:Nat) (i:Int) (X:CX),0≤i→i+m=3+F.caps.length →
  CtJ H7 E0 Ae0 [(0,P0 c),(20,int (3+F.caps.length)),(21,int i)] [cmC c k F X] fun v own=>v=.tuple ⟨[]⟩∧own [cmC c k F (Ga9 (Dj2 (fun X i=>(Dj1 X i).2) m i X))]:=by
 have hs:=ok.small
 intro m
 induction m with
 | zero =>
  intro i X h0 hi
  refine CtJ.of O8 fun h r=>Tr.eq (Bf0 ..) ?_;(try simp only[Nr,Nl,Nat.reduceAdd,Nat.reduceMul,Int.reduceToNat])
  refine Yf (by simp;omega) ?_
  refine Yc (H21 c k F X ok) ?_;rintro _ h ⟨rfl,o⟩<;>(refine (?_:Tr _ _ _ _) o;(try simp only[Nr,Nl,Nat.reduceAdd,Nat.reduceMul,Int.reduceToNat]);(repeat' first|refine Gu ?_|(with_reducible first|refine Gn fun b h=>?_|apply Gx|apply Gy|rintro px rfl|refine fun(h:H)=>?_|intro hb)|refine Gs ?_|refine Gt ?_|exact Gz rfl|fail))
  refine Yc (Hs6 c k F (Es1 X).2 ok) ?_;rintro _ h ⟨rfl,o⟩<;>(refine (?_:Tr _ _ _ _) o;(try simp only[Nr,Nl,Nat.reduceAdd,Nat.reduceMul,Int.reduceToNat]);(repeat' first|refine Gu ?_|(with_reducible first|refine Gn fun b h=>?_|apply Gx|apply Gy|rintro px rfl|refine fun(h:H)=>?_|intro hb)|refine Gs ?_|refine Gt ?_|exact Gz rfl|fail))
  refine Ys fun o=>?_
  exact ⟨rfl,o⟩
 | succ m ih =>
  intro i X h0 hi
  have e1:IntKind.wrap .i64 (i+1)=i+1:=by rw [D1];omega
  refine CtJ.of O8 fun h r=>Tr.eq (Bf0 ..) ?_;(try simp only[Nr,Nl,Nat.reduceAdd,Nat.reduceMul,Int.reduceToNat])
  refine Yt (by simp;omega) ?_
  refine Yc (Gt8 c k F X ok i) ?_;rintro _ h ⟨rfl,o⟩<;>(refine (?_:Tr _ _ _ _) o;(try simp only[Nr,Nl,Nat.reduceAdd,Nat.reduceMul,Int.reduceToNat]);(repeat' first|refine Gu ?_|(with_reducible first|refine Gn fun b h=>?_|apply Gx|apply Gy|rintro px rfl|refine fun(h:H)=>?_|intro hb)|refine Gs ?_|refine Gt ?_|exact Gz rfl|fail))
  rw [e1]
  refine Yr (ih (i+1) (Dj1 X i).2 (by omega) (by omega)) ?_
  rintro _ h ⟨rfl,o⟩
  exact ⟨rfl,o⟩
theorem Hm8 (c k:Nat) (F:Fr) (ok:FrOk F):∀ (m:Nat) (i:Int) (X:CX),0≤i→i+m=12 →
  CtJ H7 E0 Ae1 [(0,P0 c),(12,int i)] [cmC c k F X] fun v own=>v=.tuple ⟨[]⟩∧own [cmC c k F (G11 F.caps.length (Dj2 (fun X i=>(D74 X i).2) m i X))]:=by
 have hs:=ok.small
 intro m
 induction m with
 | zero =>
  intro i X h0 hi
  refine CtJ.of O8 fun h r=>Tr.eq (Be2 ..) ?_;(try simp only[Nr,Nl,Nat.reduceAdd,Nat.reduceMul,Int.reduceToNat])
  refine Yf (by simp;omega) ?_
  refine D7 (cmC c k F X) fun u=>?_;(try simp only[Nr,Nl,Nat.reduceAdd,Nat.reduceMul,Int.reduceToNat])
  refine Tr.pcall (Gw3 c k F.env F.caps X.bad 3 ok.small) ?_;(try simp only[Nr,Nl,Nat.reduceAdd,Nat.reduceMul,Int.reduceToNat]);(repeat' first|refine Gu ?_|(with_reducible first|refine Gn fun b h=>?_|apply Gx|apply Gy|rintro px rfl|refine fun(h:H)=>?_|intro hb)|refine Gs ?_|refine Gt ?_|exact Gz rfl|fail)
  refine D4 (cmC c k F X) () ?_;(try simp only[Nr,Nl,Nat.reduceAdd,Nat.reduceMul,Int.reduceToNat])
  refine Yr (Hh9 c k F ok (3+F.caps.length) 0 X (by omega) (by omega)) ?_
  rintro _ h ⟨rfl,o⟩
  exact ⟨rfl,o⟩
 | succ m ih =>
  intro i X h0 hi
  have e1:IntKind.wrap .i64 (i+1)=i+1:=by rw [D1];omega
  refine CtJ.of O8 fun h r=>Tr.eq (Be2 ..) ?_;(try simp only[Nr,Nl,Nat.reduceAdd,Nat.reduceMul,Int.reduceToNat])
  refine Yt (by simp;omega) ?_
  refine Yc (Ea5 c k F X ok i) ?_;rintro _ h ⟨rfl,o⟩<;>(refine (?_:Tr _ _ _ _) o;(try simp only[Nr,Nl,Nat.reduceAdd,Nat.reduceMul,Int.reduceToNat]);(repeat' first|refine Gu ?_|(with_reducible first|refine Gn fun b h=>?_|apply Gx|apply Gy|rintro px rfl|refine fun(h:H)=>?_|intro hb)|refine Gs ?_|refine Gt ?_|exact Gz rfl|fail))
  rw [e1]
  refine Yr (ih (i+1) (D74 X i).2 (by omega) (by omega)) ?_
  rintro _ h ⟨rfl,o⟩
  exact ⟨rfl,o⟩
theorem Hn4 (c k:Nat) (F:Fr) (ok:FrOk F):∀ (m:Nat) (i:Int) (X:CX),0≤i→i+m=8 →
  CtJ H7 E0 Ae6 [(0,P0 c),(5,int i)] [cmC c k F X] fun v own=>v=.tuple ⟨[]⟩∧own [cmC c k F (Gt3 F.caps.length (Dj2 (fun X i=>(D88 X i).2) m i X))]:=by
 intro m
 induction m with
 | zero =>
  intro i X h0 hi
  refine CtJ.of O8 fun h r=>Tr.eq (Bf9 ..) ?_;(try simp only[Nr,Nl,Nat.reduceAdd,Nat.reduceMul,Int.reduceToNat])
  refine Yf (by simp;omega) ?_
  refine Yr (Hm8 c k F ok 12 0 X (by omega) (by omega)) ?_
  rintro _ h ⟨rfl,o⟩
  exact ⟨rfl,o⟩
 | succ m ih =>
  intro i X h0 hi
  have e1:IntKind.wrap .i64 (i+1)=i+1:=by rw [D1];omega
  refine CtJ.of O8 fun h r=>Tr.eq (Bf9 ..) ?_;(try simp only[Nr,Nl,Nat.reduceAdd,Nat.reduceMul,Int.reduceToNat])
  refine Yt (by simp;omega) ?_
  refine Yc (Au4 c k F X ok i) ?_;rintro _ h ⟨rfl,o⟩<;>(refine (?_:Tr _ _ _ _) o;(try simp only[Nr,Nl,Nat.reduceAdd,Nat.reduceMul,Int.reduceToNat]);(repeat' first|refine Gu ?_|(with_reducible first|refine Gn fun b h=>?_|apply Gx|apply Gy|rintro px rfl|refine fun(h:H)=>?_|intro hb)|refine Gs ?_|refine Gt ?_|exact Gz rfl|fail))
  rw [e1]
  refine Yr (ih (i+1) (D88 X i).2 (by omega) (by omega)) ?_
  rintro _ h ⟨rfl,o⟩
  exact ⟨rfl,o⟩
theorem Gf2 (c k:Nat) (F:Fr) (X:CX) (ok:FrOk F):Ct D2 E0 [P0 c] [cmC c k F X] fun v own=>v=.tuple ⟨[]⟩∧own [cmC c k F (Gc9 X)]:=by
 refine Ct.of O8 rfl fun h r=>Tr.eq (Dx7 ..) ?_;(try simp only[Nr,Nl,Nat.reduceAdd,Nat.reduceMul,Int.reduceToNat])
 intro o
 obtain ⟨u,o1⟩:=Own.unfold (cmC c k F X) o
 have f:=(Own.front o1 (i:=2) rfl).pure
 have e:Gc9 X=lookN F.caps.length X:=by unfold Gc9;rw [f.mlen ok]
 rw [e]
 refine (?_:Tr _ _ _ _) o
 refine Yr (Hn4 c k F ok 8 0 X (by omega) (by omega)) ?_
 rintro _ h ⟨rfl,o⟩
 exact ⟨rfl,o⟩
end Go.EQ
