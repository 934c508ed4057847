/- Processes: forks till there is no room; a fork that finds none changes nothing -/
import Derived.Test.YthhmplobccgeiaaGreatMe
set_option linter.unusedVariables false
set_option linter.unusedSimpArgs false
set_option linter.unusedSectionVars false
set_option maxRecDepth 10000
namespace Go.EQ
open Go Go.NN
theorem Q1 (l:List UInt8):(A0 l).length = l.length:=by simp [A0]
theorem Du2 {l:List UInt8} {i:Nat} {x:UInt8} (h:l[i]? = some x):(A0 l)[i]? = some (.int .u8 x.toNat):=by
 unfold A0; rw [List.getElem?_map,h]; rfl
def Dw8 (n:Int) (l:List UInt8):Int:=l.foldl (fun n c=>IntKind.wrap .u8 (n + c.toNat)) n
def E79 (l:List UInt8):Int:=Dw8 (IntKind.wrap .u8 l.length) l
theorem He6 (p:HP) (a:Option Addr) (ro:Bool) (n c d:Nat) (l:List UInt8) [ks:IsSl p a ro A3 1 n c (A0 l)] (x:Nat) (hx:x ≤ l.length) (hl:l.length ≤ A8):∀ (m i:Nat) (acc:Int),x - i = m → i ≤ x →
  Q4 G1 W7 Bf2 [(3,.int .u8 acc),(9,.slice a x d),(10,int x),(11,int i)] [p] (.int .u8 (Dw8 acc ((l.take x).drop i))):=by
 intro m
 induction m with
 | zero =>
  intro i acc hm hi
  refine Q4.of Do7 fun h r=>Tr.eq (Dv5 ..) ?_; (try simp only[Nr,Nl,Nat.reduceAdd,Nat.reduceMul,Int.reduceToNat])
  refine Tr.condF (by simp; omega) ?_
  refine Tr.some fun o=>?_
  rw [List.drop_eq_nil_of_le (by simp; omega)]; exact ⟨rfl,rfl⟩
 | succ m ih =>
  intro i acc hm hi
  have hlt:i < (l.take x).length:=by rw [List.length_take]; omega
  have hp:l[i]? = some (l.take x)[i]:=by
   rw [List.getElem_take]; exact List.getElem?_eq_getElem (by omega)
  have hd:(l.take x).drop i = (l.take x)[i] :: (l.take x).drop (i + 1):=List.drop_eq_getElem_cons hlt
  generalize (l.take x)[i] = y at hp hd
  have e1:IntKind.wrap .i64 ((i:Int) + 1) = ((i + 1:Nat):Int):=by rw [A6]; simp only [A8] at hl; omega
  refine Q4.of Do7 fun h r=>Tr.eq (Dv5 ..) ?_; (try simp only[Nr,Nl,Nat.reduceAdd,Nat.reduceMul,Int.reduceToNat])
  refine Tr.condT (by simp; omega) ?_
  refine Z6 0 rfl fun h1 h2 h3=>?_
  rw [Q1] at h1
  (repeat' first|refine Gu ?_|(with_reducible first|refine Gn fun b h=>?_|apply Gx|apply Gy|rintro px rfl|refine fun(h:H)=>?_|intro hb)|refine Gs ?_|refine Gt ?_|exact Gz rfl|fail)
  refine Tr.xIntS (v:=y.toNat) (by simpa using Du2 hp) ?_
  rw [e1,hd]
  exact V3 (ih (i + 1) _ (by omega) (by omega)) (r:=r) (by simp) fun o=>⟨rfl,rfl⟩
theorem Ez0 (p:HP) (a:Option Addr) (ro:Bool) (n c d:Nat) (l:List UInt8) [ks:IsSl p a ro A3 1 n c (A0 l)] (x:Nat) (hx:x ≤ l.length) (hl:l.length ≤ A8) :
  CtP A7 W7 [.slice a x d] [p] (.int .u8 (E79 (l.take x))):=by
 refine CtP.of Do7 rfl fun h r=>Tr.eq (G01 ..) ?_; (try simp only[Nr,Nl,Nat.reduceAdd,Nat.reduceMul,Int.reduceToNat])
 have e:(l.take x).length = x:=by rw [List.length_take]; omega
 have J:=He6 p a ro n c d l x hx hl _ 0 (IntKind.wrap .u8 x) rfl (by omega)
 rw [List.drop_zero] at J
 refine V3 J (r:=r) (by simp) fun o=>⟨?_,rfl⟩
 unfold E79; rw [e]
def Do1:Nat → List UInt8 → Int
 | _,[]=>-1
 | i,x :: l=>if x ≠ 0 then i else Do1 (i + 1) l
theorem Gb9:∀ (l:List UInt8) (i:Nat),decide (Do1 i l ≥ 0) = !l.all (· == 0)
 | [],i=>by simp [Do1]
 | x :: l,i=>by
  unfold Do1
  by_cases h:x = 0
  ·rw [if_neg (by simp [h]),Gb9 l (i + 1)]; simp [h]
  ·rw [if_pos h]; simp [h]
theorem H40 (x:UInt8):CtP A7 Ac3 [.int .u8 x.toNat] [] (.bool (x != 0)):=by
 refine CtP.of Ey1 rfl fun h r=>Tr.eq (E27 ..) ?_; (try simp only[Nr,Nl,Nat.reduceAdd,Nat.reduceMul,Int.reduceToNat])
 refine Tr.some fun o=>?_
 refine ⟨?_,rfl⟩
 congr 1
 have:((x.toNat:Int) = 0) ↔ x = 0:=by
  constructor
  ·intro h; exact UInt8.toNat.inj (by simpa using (show x.toNat = 0 by omega))
  ·rintro rfl; rfl
 by_cases h:x = 0
 ·subst h; rfl
 ·rw [bne_iff_ne.2 h,bne_iff_ne]; intro h2; exact h (this.1 h2)
theorem Et4 (p:HP) (a:Option Addr) (ro:Bool) (c:Nat) (l:List UInt8) [ks:IsSl p a ro A3 1 l.length c (A0 l)] (hl:l.length ≤ A8):∀ (m i:Nat),l.length - i = m → i ≤ l.length →
  Q4 G1 E1 O2 [(0,.slice a l.length c),(1,.func (.func Ac3) ⟨[]⟩ ⟨[]⟩),(7,int l.length),(8,int i)] [p] (int (Do1 i (l.drop i))):=by
 intro m
 induction m with
 | zero =>
  intro i hm hi
  refine Q4.of Ab3 fun h r=>Tr.eq (An8 ..) ?_; (try simp only[Nr,Nl,Nat.reduceAdd,Nat.reduceMul,Int.reduceToNat])
  refine Tr.condF (by simp; omega) ?_
  refine Tr.some fun o=>?_
  rw [List.drop_eq_nil_of_le (by omega)]; exact ⟨rfl,rfl⟩
 | succ m ih =>
  intro i hm hi
  have hlt:i < l.length:=by omega
  have hp:l[i]? = some l[i]:=List.getElem?_eq_getElem hlt
  have hd:l.drop i = l[i] :: l.drop (i + 1):=List.drop_eq_getElem_cons hlt
  generalize l[i] = x at hp hd
  have e1:IntKind.wrap .i64 ((i:Int) + 1) = ((i + 1:Nat):Int):=by rw [A6]; simp only [A8] at hl; omega
  refine Q4.of Ab3 fun h r=>Tr.eq (An8 ..) ?_; (try simp only[Nr,Nl,Nat.reduceAdd,Nat.reduceMul,Int.reduceToNat])
  refine Tr.condT (by simp; omega) ?_
  (repeat' first|refine Gu ?_|(with_reducible first|refine Gn fun b h=>?_|apply Gx|apply Gy|rintro px rfl|refine fun(h:H)=>?_|intro hb)|refine Gs ?_|refine Gt ?_|exact Gz rfl|fail)
  refine Tr.xIntS (v:=x.toNat) (by simpa using Du2 hp) ?_
  (repeat' first|refine Gu ?_|(with_reducible first|refine Gn fun b h=>?_|apply Gx|apply Gy|rintro px rfl|refine fun(h:H)=>?_|intro hb)|refine Gs ?_|refine Gt ?_|exact Gz rfl|fail)
  refine Bp5 (H40 x) (r:=p :: r) (by simp) ?_
  by_cases hx:x = 0
  ·have:(x != 0) = false:=by simp [hx]
   rw [this]
   (repeat' first|refine Gu ?_|(with_reducible first|refine Gn fun b h=>?_|apply Gx|apply Gy|rintro px rfl|refine fun(h:H)=>?_|intro hb)|refine Gs ?_|refine Gt ?_|exact Gz rfl|fail)
   rw [e1]
   refine V3 (ih (i + 1) (by omega) (by omega)) (r:=r) (by simp) fun o=>?_
   rw [hd,Do1,if_neg (by simp [hx])]; exact ⟨by first | rfl | trivial,by first | rfl | trivial⟩
  ·have:(x != 0) = true:=by simp [hx]
   rw [this]
   (repeat' first|refine Gu ?_|(with_reducible first|refine Gn fun b h=>?_|apply Gx|apply Gy|rintro px rfl|refine fun(h:H)=>?_|intro hb)|refine Gs ?_|refine Gt ?_|exact Gz rfl|fail)
   refine Tr.some fun o=>?_
   rw [hd,Do1,if_pos hx]; exact ⟨by first | rfl | trivial,by first | rfl | trivial⟩
theorem Hp4 (p:HP) (a:Option Addr) (ro:Bool) (c:Nat) (l:List UInt8) [ks:IsSl p a ro A3 1 l.length c (A0 l)] (hl:l.length ≤ A8) :
  CtP A7 Aj1 [.slice a l.length c] [p] (.bool (l.all (· == 0))):=by
 have j:CtP A7 E1 [.slice a l.length c,.func (.func Ac3) ⟨[]⟩ ⟨[]⟩] [p] (int (Do1 0 l)):=by
  refine CtP.of Ab3 rfl fun h r=>Tr.eq (Bu3 ..) ?_; (try simp only[Nr,Nl,Nat.reduceAdd,Nat.reduceMul,Int.reduceToNat])
  exact V3 (Et4 p a ro c l hl _ 0 rfl (by omega)) (r:=r) (by simp) fun o=>⟨rfl,rfl⟩
 have j2:CtP A7 O1 [.slice a l.length c,.func (.func Ac3) ⟨[]⟩ ⟨[]⟩] [p] (.bool (!l.all (· == 0))):=by
  refine CtP.of Bj7 rfl fun h r=>Tr.eq (Bi4 ..) ?_; (try simp only[Nr,Nl,Nat.reduceAdd,Nat.reduceMul,Int.reduceToNat])
  refine Bp5 j (r:=r) (by simp) ?_
  (repeat' first|refine Gu ?_|(with_reducible first|refine Gn fun b h=>?_|apply Gx|apply Gy|rintro px rfl|refine fun(h:H)=>?_|intro hb)|refine Gs ?_|refine Gt ?_|exact Gz rfl|fail)
  refine Tr.some fun o=>?_
  rw [Gb9]; exact ⟨by first | rfl | trivial,by first | rfl | trivial⟩
 refine CtP.of Gh2 rfl fun h r=>Tr.eq (Gg9 ..) ?_; (try simp only[Nr,Nl,Nat.reduceAdd,Nat.reduceMul,Int.reduceToNat])
 refine Bp5 j2 (r:=r) (by simp) ?_
 (repeat' first|refine Gu ?_|(with_reducible first|refine Gn fun b h=>?_|apply Gx|apply Gy|rintro px rfl|refine fun(h:H)=>?_|intro hb)|refine Gs ?_|refine Gt ?_|exact Gz rfl|fail)
 refine Tr.some fun o=>?_
 exact ⟨by simp,rfl⟩
theorem Gq4 (p q:HP) (a:Option Addr) (ro:Bool) (c:Nat) (a2:Option Addr) (ro2:Bool) (c2:Nat) (l m:List UInt8) [ks:IsSl p a ro A3 1 l.length c (A0 l)] [ks2:IsSl q a2 ro2 A3 1 m.length c2 (A0 m)] (hl:l.length ≤ A8) (hlm:m.length = l.length):∀ (k i:Nat),l.length - i = k → i ≤ l.length →
  Q4 G1 B6 Q9 [(0,.slice a l.length c),(1,.slice a2 m.length c2),(12,int l.length),(13,int i)] [p,q] (.bool (decide (l.drop i = m.drop i))):=by
 intro k
 induction k with
 | zero =>
  intro i hm hi
  refine Q4.of Aj3 fun h r=>Tr.eq (Ax2 ..) ?_; (try simp only[Nr,Nl,Nat.reduceAdd,Nat.reduceMul,Int.reduceToNat])
  refine Tr.condF (by simp; omega) ?_
  refine Tr.some fun o=>?_
  rw [List.drop_eq_nil_of_le (by omega),List.drop_eq_nil_of_le (by omega)]; exact ⟨rfl,rfl⟩
 | succ k ih =>
  intro i hm hi
  have hlt:i < l.length:=by omega
  have hp:l[i]? = some l[i]:=List.getElem?_eq_getElem hlt
  have hd:l.drop i = l[i] :: l.drop (i + 1):=List.drop_eq_getElem_cons hlt
  have hlt2:i < m.length:=by omega
  have hp2:m[i]? = some m[i]:=List.getElem?_eq_getElem hlt2
  have hd2:m.drop i = m[i] :: m.drop (i + 1):=List.drop_eq_getElem_cons hlt2
  generalize l[i] = x at hp hd
  generalize m[i] = y at hp2 hd2
  have e1:IntKind.wrap .i64 ((i:Int) + 1) = ((i + 1:Nat):Int):=by rw [A6]; simp only [A8] at hl; omega
  refine Q4.of Aj3 fun h r=>Tr.eq (Ax2 ..) ?_; (try simp only[Nr,Nl,Nat.reduceAdd,Nat.reduceMul,Int.reduceToNat])
  refine Tr.condT (by simp; omega) ?_
  (repeat' first|refine Gu ?_|(with_reducible first|refine Gn fun b h=>?_|apply Gx|apply Gy|rintro px rfl|refine fun(h:H)=>?_|intro hb)|refine Gs ?_|refine Gt ?_|exact Gz rfl|fail)
  refine Tr.xIntS (v:=x.toNat) (by simpa using Du2 hp) ?_
  (repeat' first|refine Gu ?_|(with_reducible first|refine Gn fun b h=>?_|apply Gx|apply Gy|rintro px rfl|refine fun(h:H)=>?_|intro hb)|refine Gs ?_|refine Gt ?_|exact Gz rfl|fail)
  refine Tr.xIntS (v:=y.toNat) (by simpa using Du2 hp2) ?_
  by_cases hx:x = y
  ·subst hx
   refine Tr.condF (by simp) ?_
   rw [e1]
   refine V3 (ih (i + 1) (by omega) (by omega)) (r:=r) (by simp) fun o=>?_
   rw [hd,hd2]; exact ⟨by simp,rfl⟩
  ·refine Tr.condT (by rw [bne_iff_ne]; intro h2; exact hx (UInt8.toNat.inj (by omega))) ?_
   refine Tr.some fun o=>?_
   rw [hd,hd2]; exact ⟨by simp [hx],rfl⟩
theorem Ec7 (p q:HP) (a:Option Addr) (ro:Bool) (c:Nat) (a2:Option Addr) (ro2:Bool) (c2:Nat) (l m:List UInt8) [ks:IsSl p a ro A3 1 l.length c (A0 l)] [ks2:IsSl q a2 ro2 A3 1 m.length c2 (A0 m)] (hl:l.length ≤ A8) :
  CtP A7 B6 [.slice a l.length c,.slice a2 m.length c2] [p,q] (.bool (decide (l = m))):=by
 refine CtP.of Aj3 rfl fun h r=>Tr.eq (B71 ..) ?_; (try simp only[Nr,Nl,Nat.reduceAdd,Nat.reduceMul,Int.reduceToNat])
 by_cases h:m.length = l.length
 ·refine Tr.condF (by simp [h]) ?_
  have J:=Gq4 p q a ro c a2 ro2 c2 l m hl h _ 0 rfl (by omega)
  simp only [List.drop_zero] at J
  exact V3 J (r:=r) (by simp) fun o=>⟨rfl,rfl⟩
 ·refine Tr.condT (by rw [bne_iff_ne]; omega) ?_
  refine Tr.some fun o=>?_
  exact ⟨by rw [decide_eq_false (fun e=>h (by rw [e]))],rfl⟩
theorem Hi7 (p:HP) (ro:Bool) (a:Option Addr) (c:Nat) (l:List UInt8) [ks:IsSl p a ro A3 1 l.length c (A0 l)] (hn:l.length ≤ A8) :
  Ct A7 E5 [.slice a l.length c] [p] fun v own=>∃ a' c',v = .slice a' l.length c' ∧ own [slC false A3 1 a' l.length c' (A0 l),p]:=by
 refine Ct.of A73 rfl fun h r=>Tr.eq (A66 ..) ?_; (try simp only[Nr,Nl,Nat.reduceAdd,Nat.reduceMul,Int.reduceToNat])
 refine Z6 0 rfl fun hl hc _=>?_
 refine Tr.cond (fun hb=>?_) fun hb=>?_
 ·obtain rfl:a = none:=by simpa using hb
  refine G0 false A3 1 (by omega) ?_
  intro o
  have o1:=(o.tail.head ks.en).slNone
  obtain rfl:l = []:=by
   have:=o1.2.2.1
   cases l with
   | nil=>rfl
   | cons x l=>simp [A0] at this
  obtain rfl:c = 0:=o1.2.1
  exact ⟨_,_,rfl,none,0,rfl,o⟩
 ·(repeat' first|refine Gu ?_|(with_reducible first|refine Gn fun b h=>?_|apply Gx|apply Gy|rintro px rfl|refine fun(h:H)=>?_|intro hb)|refine Gs ?_|refine Gt ?_|exact Gz rfl|fail)
  refine Af9 0 rfl 1 0 rfl (by omega) ?_; (try simp only[Nr,Nl,Nat.reduceAdd,Nat.reduceMul,Int.reduceToNat])
  (repeat' first|refine Gu ?_|(with_reducible first|refine Gn fun b h=>?_|apply Gx|apply Gy|rintro px rfl|refine fun(h:H)=>?_|intro hb)|refine Gs ?_|refine Gt ?_|exact Gz rfl|fail)
  refine Tr.xApd ⟨by simp [A0],by simp [A0,Value.oneCell],by omega⟩ fun a' c' h'=>?_
  (try simp only[Nr,Nl,Nat.reduceAdd,Nat.reduceMul,Int.reduceToNat])
  refine Tr.some fun o=>⟨a',c',by simp,by simpa using o⟩
end Go.EQ
namespace Go.NN
section
variable {l:List HP} {h:H} {α:Type} {Q:α → H → Prop} {ro:Bool} {e:TypeId} {cs:List Value}
instance {f:Fn} {a c:Array Value} {k:Option α}:Dx (one (.func f a c) k) k:=⟨rfl⟩
theorem He7 {x:Option (α × H)} {p:HP} (i:Nat) {a:Option Addr} {sz n c:Nat} (hi:l[i]? = some p) [k:IsSl p a ro e sz n c cs] (hn:0 < n) (t:∀ y,a = some y → Tr l h x Q):Tr l h x Q:=fun ow=>by
 obtain ⟨y,hy⟩:=((ow.front hi).head k.en).slSome hn
 exact t y hy ow
theorem Tr.xPCells {a:Option Addr} {n c sz:Nat} {vs cs':List Value} {l':List HP} {k:H → Option (α × H)} [k1:LkO l a false e sz n c cs] (hn:0 < n) (hj:vs ≠ [] ∧ vs.length ≤ cs.length ∧ vs.all Value.oneCell = true ∧ vs ++ cs.drop vs.length = cs') [k2:UpO l a (slC false e sz a n c cs') e sz n c cs l'] (t:∀ h',Tr l' h' (k h') Q):Tr l h (NN.pCells a vs h k) Q:=fun ow=>by
 obtain ⟨i,p,hi,hp⟩:=k1.ix
 obtain ⟨y,rfl⟩:=((ow.front hi).head hp).slSome hn
 have:NN.pCells (Option.some y) vs h k = NN.pAgg ((B0 y).add 0) vs h k:=by
  show NN.pAgg (B0 y) vs h k = _
  congr 1
 rw [this]
 exact Tr.xPAggS (k1:=k1) ⟨hj.1,by omega,hj.2.2.1,by simpa using hj.2.2.2⟩ (k2:=k2) t ow
end
end Go.NN

set_option maxRecDepth 10000
namespace Go.EQ
open Go Go.NN
def b8 (x:Int):UInt8:=UInt8.ofNat (x % 256).toNat
theorem Dc2 (x:Int):IntKind.wrap .u8 x = x % 256:=Hn6 x
theorem Bc3 (x:Int):IntKind.wrap .u8 x = ((b8 x).toNat:Int):=by
 rw [Dc2,b8,UInt8.toNat_ofNat']
 omega
def Bn3 (l:List UInt8):UInt8:=b8 (E79 l)
theorem Gs2:∀ (l:List UInt8) (n:Int),0 ≤ n ∧ n < 256 → 0 ≤ Dw8 n l ∧ Dw8 n l < 256
 | [],n,h=>h
 | x :: l,n,h=>Gs2 l _ (by show 0 ≤ IntKind.wrap .u8 (n + x.toNat) ∧ IntKind.wrap .u8 (n + x.toNat) < 256; rw [Dc2]; omega)
theorem Dg6 (l:List UInt8):E79 l = ((Bn3 l).toNat:Int):=by
 have:=Gs2 l (IntKind.wrap .u8 l.length) (by rw [Dc2]; omega)
 unfold Bn3
 rw [← Bc3,Dc2]
 unfold E79 at *; omega
structure FileS where
 kind:Int
 pipe:Int
 refs:Int
 flags:Int
abbrev FileS.zero:FileS:=⟨0,0,0,0⟩
abbrev Bu5 (f:FileS):List Value:=[int f.kind,int f.pipe,int f.refs,int f.flags]
def okF (f:FileS):Bool:=decide (f.kind ≥ 1) && decide (f.kind ≤ 3) && decide (f.pipe ≥ 0) && decide (f.pipe ≤ 7) && (f.kind != 3 || f.pipe == 0) && decide (f.refs ≥ 1) && decide (f.refs ≤ 64) && (f.flags == 0 || f.flags == 1)
def A49 (f:FileS):List UInt8:=[b8 f.kind,b8 f.pipe,b8 f.refs,b8 f.flags,179]
def Af7 (f:FileS):List UInt8:=A49 f ++ [Bn3 (A49 f),0,0]
theorem H04 (f:FileS):Ct A7 Dc8 [.agg ⟨Bu5 f⟩] [] fun v own=>v = .bool (okF f) ∧ own []:=by
 refine Ct.of G72 rfl fun h r=>Tr.eq (Hc0 ..) ?_; (try simp only[Nr,Nl,Nat.reduceAdd,Nat.reduceMul,Int.reduceToNat])
 (repeat' first|refine Gu ?_|(with_reducible first|refine Gn fun b h=>?_|apply Gx|apply Gy|rintro px rfl|refine fun(h:H)=>?_|intro hb)|refine Gs ?_|refine Gt ?_|exact Gz rfl|fail)
 refine Tr.some fun o=>?_
 refine ⟨?_,o.sub⟩
 rfl
theorem Hv7 (a:Option Addr) (c:Nat) (f:FileS):Ct A7 An7 [.agg ⟨Bu5 f⟩,.slice a 8 c] [slC false A3 1 a 8 c (A0 (List.replicate 8 0))] fun v own=>v = .bool (okF f) ∧ own [slC false A3 1 a 8 c (A0 (if okF f then Af7 f else List.replicate 8 0))]:=by
 refine Ct.of Gx4 rfl fun h r=>Tr.eq (G10 ..) ?_; (try simp only[Nr,Nl,Nat.reduceAdd,Nat.reduceMul,Int.reduceToNat])
 (repeat' first|refine Gu ?_|(with_reducible first|refine Gn fun b h=>?_|apply Gx|apply Gy|rintro px rfl|refine fun(h:H)=>?_|intro hb)|refine Gs ?_|refine Gt ?_|exact Gz rfl|fail)
 refine Tr.xCall (H04 f) ?_; rintro _ h ⟨rfl,o⟩ <;> (refine (?_:Tr _ _ _ _) o; (try simp only[Nr,Nl,Nat.reduceAdd,Nat.reduceMul,Int.reduceToNat]); (repeat' first|refine Gu ?_|(with_reducible first|refine Gn fun b h=>?_|apply Gx|apply Gy|rintro px rfl|refine fun(h:H)=>?_|intro hb)|refine Gs ?_|refine Gt ?_|exact Gz rfl|fail))
 cases hk:okF f with
 | false =>
  (repeat' first|refine Gu ?_|(with_reducible first|refine Gn fun b h=>?_|apply Gx|apply Gy|rintro px rfl|refine fun(h:H)=>?_|intro hb)|refine Gs ?_|refine Gt ?_|exact Gz rfl|fail)
  refine Tr.some fun o=>?_
  rw [if_neg (by simp)]
  exact ⟨rfl,o.sub⟩
 | true =>
  (repeat' first|refine Gu ?_|(with_reducible first|refine Gn fun b h=>?_|apply Gx|apply Gy|rintro px rfl|refine fun(h:H)=>?_|intro hb)|refine Gs ?_|refine Gt ?_|exact Gz rfl|fail)
  simp only [Bc3,List.drop_zero,List.take]
  refine Z6 2 rfl fun hl hc _=>?_
  refine Tr.xPCells (cs':=A0 (A49 f ++ [0,0,0])) (by omega) ⟨by simp,by simp [A0],by simp [Value.oneCell],rfl⟩ fun h=>?_
  (repeat' first|refine Gu ?_|(with_reducible first|refine Gn fun b h=>?_|apply Gx|apply Gy|rintro px rfl|refine fun(h:H)=>?_|intro hb)|refine Gs ?_|refine Gt ?_|exact Gz rfl|fail)
  refine Tr.pcall (Ez0 (slC false A3 1 a 8 c (A0 (A49 f ++ [0,0,0]))) a false 8 c c (A49 f ++ [0,0,0]) 5 (by simp [A49]) (by simp [A49,A8])) ?_
  (try simp only[Nr,Nl,Nat.reduceAdd,Nat.reduceMul,Int.reduceToNat])
  (repeat' first|refine Gu ?_|(with_reducible first|refine Gn fun b h=>?_|apply Gx|apply Gy|rintro px rfl|refine fun(h:H)=>?_|intro hb)|refine Gs ?_|refine Gt ?_|exact Gz rfl|fail)
  rw [show List.take 5 (A49 f ++ [0,0,0]:List UInt8) = A49 f from rfl,Dg6]
  refine Tr.xVS (cs':=A0 (Af7 f)) ⟨by simp [A0,A49],rfl,rfl⟩ fun h=>?_
  refine Tr.some fun o=>?_
  simp only [if_true]
  exact ⟨trivial,o.sub⟩
theorem Dm5 {l:List Value} (h:l.all (fun v=>match v with | .int _ _=>true | _=>false) = true):Al6 (.agg ⟨l⟩) (.agg ⟨l⟩) = true:=by
 show Bl3 l l = true
 induction l with
 | nil=>rfl
 | cons v l ih =>
  simp only [List.all_cons,Bool.and_eq_true] at h
  show (Ay4 v v && Bl3 l l) = true
  rw [ih h.2,Bool.and_true]
  cases v <;> first | (simp [Ay4]; done) | exact absurd h.1 (by simp)
abbrev Gm7 (k:Nat):HP:=pt k (.cells Ag7 false [int 8,.func (.func An7) ⟨[]⟩ ⟨[]⟩,.func (.func Ao3) ⟨[]⟩ ⟨[]⟩])
theorem Gu5 (k:Nat) (f:FileS):Ct A7 Q5 [P0 k,.agg ⟨Bu5 f⟩] [Gm7 k] fun v own=>(okF f = true ∧ ∃ a,v = .tuple ⟨[.slice a 8 8,.bool true]⟩ ∧ own [Gm7 k,slC false A3 1 a 8 8 (A0 (Af7 f))]) ∨ (okF f = false ∧ v = .tuple ⟨[.slice none 0 0,.bool false]⟩ ∧ own [Gm7 k]):=by
 refine Ct.of Bx1 rfl fun h r=>Tr.eq (Bw9 ..) ?_; (try simp only[Nr,Nl,Nat.reduceAdd,Nat.reduceMul,Int.reduceToNat])
 (repeat' first|refine Gu ?_|(with_reducible first|refine Gn fun b h=>?_|apply Gx|apply Gy|rintro px rfl|refine fun(h:H)=>?_|intro hb)|refine Gs ?_|refine Gt ?_|exact Gz rfl|fail)
 refine Tr.ck ⟨by omega,by omega,by simp [A8]⟩ ?_
 refine Tr.nw fun b1 h=>?_
 rw [show G3 (Int.toNat 8) [.int .u8 0] = A0 (List.replicate 8 0) from rfl]
 refine Af9 0 rfl 1 8 rfl (by omega) ?_
 simp only [List.set_cons_zero]
 (try simp only[Nr,Nl,Nat.reduceAdd,Nat.reduceMul,Int.reduceToNat])
 (repeat' first|refine Gu ?_|(with_reducible first|refine Gn fun b h=>?_|rintro px rfl|refine fun(h:H)=>?_|intro hb)|refine Gs ?_|refine Gt ?_|exact Gz rfl|fail)
 refine Tr.bnd (Tr.condF rfl ?_)
 (repeat' first|refine Gu ?_|(with_reducible first|refine Gn fun b h=>?_|rintro px rfl|refine fun(h:H)=>?_|intro hb)|refine Gs ?_|refine Gt ?_|exact Gz rfl|fail)
 refine Tr.xCall (Hv7 (some ⟨b1,0,none⟩) 8 f) ?_; rintro _ h ⟨rfl,o⟩ <;> (refine (?_:Tr _ _ _ _) o; (try simp only[Nr,Nl,Nat.reduceAdd,Nat.reduceMul,Int.reduceToNat]); (repeat' first|refine Gu ?_|(with_reducible first|refine Gn fun b h=>?_|rintro px rfl|refine fun(h:H)=>?_|intro hb)|refine Gs ?_|refine Gt ?_|exact Gz rfl|fail))
 refine Tr.some fun o=>(?_:Tr _ _ _ _) o; (try simp only[Nr,Nl,Nat.reduceAdd,Nat.reduceMul,Int.reduceToNat])
 cases hk:okF f with
 | false =>
  (repeat' first|refine Gu ?_|(with_reducible first|refine Gn fun b h=>?_|apply Gx|apply Gy|rintro px rfl|refine fun(h:H)=>?_|intro hb)|refine Gs ?_|refine Gt ?_|exact Gz rfl|fail)
  refine Tr.some fun o=>?_
  exact .inr ⟨rfl,rfl,o.sub⟩
 | true =>
  (repeat' first|refine Gu ?_|(with_reducible first|refine Gn fun b h=>?_|apply Gx|apply Gy|rintro px rfl|refine fun(h:H)=>?_|intro hb)|refine Gs ?_|refine Gt ?_|exact Gz rfl|fail)
  refine Tr.some fun o=>?_
  simp only [if_true] at o
  exact .inl ⟨rfl,_,rfl,o.sub⟩
theorem Hu6:Ct A7 An0 [int 8,.func (.func An7) ⟨[]⟩ ⟨[]⟩,.func (.func Ao3) ⟨[]⟩ ⟨[]⟩] [] fun v own=>∃ k,v = P0 k ∧ own [pt k (.cells Ag7 false [int 8,.func (.func An7) ⟨[]⟩ ⟨[]⟩,.func (.func Ao3) ⟨[]⟩ ⟨[]⟩])]:=by
 refine Ct.of Dy0 rfl fun h r=>Tr.eq (D15 ..) ?_; (try simp only[Nr,Nl,Nat.reduceAdd,Nat.reduceMul,Int.reduceToNat])
 rw [show mm2 false (mm2 true 8 0) 64 = 8 from rfl]
 (repeat' first|refine Gu ?_|(with_reducible first|refine Gn fun b h=>?_|apply Gx|apply Gy|rintro px rfl|refine fun(h:H)=>?_|intro hb)|refine Gs ?_|refine Gt ?_|exact Gz rfl|fail)
 refine Tr.some fun o=>?_
 exact ⟨_,rfl,o.sub⟩
theorem Ga7:Ct A7 A61 [] [] fun v own=>∃ k,v = P0 k ∧ own [pt k (.cells Ag7 false [int 8,.func (.func An7) ⟨[]⟩ ⟨[]⟩,.func (.func Ao3) ⟨[]⟩ ⟨[]⟩])]:=by
 refine Ct.of Gg0 rfl fun h r=>Tr.eq (Ge8 ..) ?_; (try simp only[Nr,Nl,Nat.reduceAdd,Nat.reduceMul,Int.reduceToNat])
 refine Tr.xCall (Hu6) ?_; rintro _ h ⟨k,rfl,o⟩ <;> (refine (?_:Tr _ _ _ _) o; (try simp only[Nr,Nl,Nat.reduceAdd,Nat.reduceMul,Int.reduceToNat]); (repeat' first|refine Gu ?_|(with_reducible first|refine Gn fun b h=>?_|apply Gx|apply Gy|rintro px rfl|refine fun(h:H)=>?_|intro hb)|refine Gs ?_|refine Gt ?_|exact Gz rfl|fail))
 refine Tr.some fun o=>?_
 exact ⟨_,rfl,o.sub⟩
theorem Ex7 (f:FileS):Ct A7 A00 [.agg ⟨Bu5 f⟩] [] fun v own=>(okF f = true ∧ ∃ a,v = .tuple ⟨[.slice a 8 8,.bool true]⟩ ∧ own [slC false A3 1 a 8 8 (A0 (Af7 f))]) ∨ (okF f = false ∧ v = .tuple ⟨[.slice none 0 0,.bool false]⟩ ∧ own []):=by
 refine Ct.of E61 rfl fun h r=>Tr.eq (E95 ..) ?_; (try simp only[Nr,Nl,Nat.reduceAdd,Nat.reduceMul,Int.reduceToNat])
 (repeat' first|refine Gu ?_|(with_reducible first|refine Gn fun b h=>?_|apply Gx|apply Gy|rintro px rfl|refine fun(h:H)=>?_|intro hb)|refine Gs ?_|refine Gt ?_|exact Gz rfl|fail)
 refine Tr.xCall (Ga7) ?_; rintro _ h ⟨k,rfl,o⟩ <;> (refine (?_:Tr _ _ _ _) o; (try simp only[Nr,Nl,Nat.reduceAdd,Nat.reduceMul,Int.reduceToNat]); (repeat' first|refine Gu ?_|(with_reducible first|refine Gn fun b h=>?_|apply Gx|apply Gy|rintro px rfl|refine fun(h:H)=>?_|intro hb)|refine Gs ?_|refine Gt ?_|exact Gz rfl|fail))
 refine Tr.same (Dm5 rfl) ?_
 refine Tr.xCall (Gu5 k f) ?_
 rintro v h (⟨hk,a,rfl,o⟩ | ⟨hk,rfl,o⟩)
 ·refine (?_:Tr _ _ _ _) o
  (try simp only[Nr,Nl,Nat.reduceAdd,Nat.reduceMul,Int.reduceToNat])
  (repeat' first|refine Gu ?_|(with_reducible first|refine Gn fun b h=>?_|apply Gx|apply Gy|rintro px rfl|refine fun(h:H)=>?_|intro hb)|refine Gs ?_|refine Gt ?_|exact Gz rfl|fail)
  refine Tr.some fun o=>?_
  exact .inl ⟨hk,a,rfl,o.sub⟩
 ·refine (?_:Tr _ _ _ _) o
  (try simp only[Nr,Nl,Nat.reduceAdd,Nat.reduceMul,Int.reduceToNat])
  (repeat' first|refine Gu ?_|(with_reducible first|refine Gn fun b h=>?_|apply Gx|apply Gy|rintro px rfl|refine fun(h:H)=>?_|intro hb)|refine Gs ?_|refine Gt ?_|exact Gz rfl|fail)
  refine Tr.some fun o=>?_
  exact .inr ⟨hk,rfl,o.sub⟩
theorem Aa8 {l:List UInt8} {i:Nat} (h:i < l.length):(A0 l)[i]? = some (.int .u8 ((l.getD i 0).toNat:Int)):=by
 rw [List.getD_eq_getElem?_getD,List.getElem?_eq_getElem h]; exact Du2 (List.getElem?_eq_getElem h)
theorem Ak0 (x:UInt8):IntKind.wrap .i64 (x.toNat:Int) = (x.toNat:Int):=by
 have:=x.toNat_lt; rw [A6]; omega
abbrev byI (l:List UInt8) (i:Nat):Int:=((l.getD i 0).toNat:Int)
def By4 (l:List UInt8):FileS:=⟨byI l 0,byI l 1,byI l 2,byI l 3⟩
def isF (l:List UInt8):Bool:=okF (By4 l) && decide (Af7 (By4 l) = l)
theorem Hw0 (a:Option Addr) (c:Nat) (l:List UInt8) (hl:l.length = 8):Ct A7 Ao3 [.slice a 8 c] [slC false A3 1 a 8 c (A0 l)] fun v own=>v = .tuple ⟨[.agg ⟨Bu5 (By4 l)⟩,.bool (isF l)]⟩ ∧ own [slC false A3 1 a 8 c (A0 l)]:=by
 have key:∀ a1:Option Addr,CtP A7 B6 [.slice a1 8 8,.slice a 8 c] [slC false A3 1 a1 8 8 (A0 (Af7 (By4 l))),slC false A3 1 a 8 c (A0 l)] (.bool (decide (Af7 (By4 l) = l))):=fun a1=>by
  have J:=Ec7 (slC false A3 1 a1 8 8 (A0 (Af7 (By4 l)))) (slC false A3 1 a l.length c (A0 l)) a1 false 8 a false c (Af7 (By4 l)) l (by simp [Af7,A49,A8])
  rwa [hl,show (Af7 (By4 l)).length = 8 from rfl] at J
 refine Ct.of G12 rfl fun h r=>Tr.eq (Gz6 ..) ?_; (try simp only[Nr,Nl,Nat.reduceAdd,Nat.reduceMul,Int.reduceToNat])
 refine Tr.nw fun b1 h=>?_
 (repeat' first|refine Gu ?_|(with_reducible first|refine Gn fun b h=>?_|apply Gx|apply Gy|rintro px rfl|refine fun(h:H)=>?_|intro hb)|refine Gs ?_|refine Gt ?_|exact Gz rfl|fail)
 refine Tr.xIntS (v:=byI l 0) (Aa8 (by omega)) ?_
 (repeat' first|refine Gu ?_|(with_reducible first|refine Gn fun b h=>?_|apply Gx|apply Gy|rintro px rfl|refine fun(h:H)=>?_|intro hb)|refine Gs ?_|refine Gt ?_|exact Gz rfl|fail)
 refine Tr.xIntS (v:=byI l 1) (Aa8 (by omega)) ?_
 (repeat' first|refine Gu ?_|(with_reducible first|refine Gn fun b h=>?_|apply Gx|apply Gy|rintro px rfl|refine fun(h:H)=>?_|intro hb)|refine Gs ?_|refine Gt ?_|exact Gz rfl|fail)
 refine Tr.xIntS (v:=byI l 2) (Aa8 (by omega)) ?_
 (repeat' first|refine Gu ?_|(with_reducible first|refine Gn fun b h=>?_|apply Gx|apply Gy|rintro px rfl|refine fun(h:H)=>?_|intro hb)|refine Gs ?_|refine Gt ?_|exact Gz rfl|fail)
 refine Tr.xIntS (v:=byI l 3) (Aa8 (by omega)) ?_
 simp only [byI,Ak0]
 refine Tr.nw fun b2 h=>?_
 (repeat' first|refine Gu ?_|(with_reducible first|refine Gn fun b h=>?_|rintro px rfl|refine fun(h:H)=>?_|intro hb)|refine Gs ?_|refine Gt ?_|exact Gz rfl|fail)
 refine Tr.xCall (Ex7 (By4 l)) ?_
 rintro v h (⟨hk,a1,rfl,o⟩ | ⟨hk,rfl,o⟩)
 ·refine (?_:Tr _ _ _ _) o
  (try simp only[Nr,Nl,Nat.reduceAdd,Nat.reduceMul,Int.reduceToNat])
  (repeat' first|refine Gu ?_|(with_reducible first|refine Gn fun b h=>?_|rintro px rfl|refine fun(h:H)=>?_|intro hb)|refine Gs ?_|refine Gt ?_|exact Gz rfl|fail)
  refine Tr.bnd (Tr.condT rfl ?_)
  refine Tr.pcall (key a1) ?_; (try simp only[Nr,Nl,Nat.reduceAdd,Nat.reduceMul,Int.reduceToNat]); (repeat' first|refine Gu ?_|(with_reducible first|refine Gn fun b h=>?_|rintro px rfl|refine fun(h:H)=>?_|intro hb)|refine Gs ?_|refine Gt ?_|exact Gz rfl|fail)
  refine Tr.same (Dm5 rfl) ?_
  refine Tr.some fun o=>(?_:Tr _ _ _ _) o; (try simp only[Nr,Nl,Nat.reduceAdd,Nat.reduceMul,Int.reduceToNat])
  (repeat' first|refine Gu ?_|(with_reducible first|refine Gn fun b h=>?_|apply Gx|apply Gy|rintro px rfl|refine fun(h:H)=>?_|intro hb)|refine Gs ?_|refine Gt ?_|exact Gz rfl|fail)
  refine Tr.some fun o=>?_
  exact ⟨by unfold isF; rw [hk,Bool.true_and]; rfl,o.sub⟩
 ·refine (?_:Tr _ _ _ _) o
  (try simp only[Nr,Nl,Nat.reduceAdd,Nat.reduceMul,Int.reduceToNat])
  (repeat' first|refine Gu ?_|(with_reducible first|refine Gn fun b h=>?_|apply Gx|apply Gy|rintro px rfl|refine fun(h:H)=>?_|intro hb)|refine Gs ?_|refine Gt ?_|exact Gz rfl|fail)
  refine Tr.some fun o=>?_
  exact ⟨by unfold isF; rw [hk]; rfl,o.sub⟩
theorem Ed1 (n:Nat) (a:Option Addr) (c:Nat) (l:List UInt8) (hl:l.length = n) (hn:n ≤ A8):Ct A7 E5 [.slice a n c] [slC false A3 1 a n c (A0 l)] fun v own=>∃ a' c',v = .slice a' n c' ∧ own [slC false A3 1 a' n c' (A0 l),slC false A3 1 a n c (A0 l)]:=by
 subst hl; exact Hi7 (slC false A3 1 a l.length c (A0 l)) false a c l hn
theorem Ec3 (n:Nat) (a:Option Addr) (c:Nat) (l:List UInt8) (hl:l.length = n) (hn:n ≤ A8):CtP A7 Aj1 [.slice a n c] [slC false A3 1 a n c (A0 l)] (.bool (l.all (· == 0))):=by
 subst hl; exact Hp4 (slC false A3 1 a l.length c (A0 l)) a false c l hn
theorem G11 (k:Nat) (a:Option Addr) (c:Nat) (l:List UInt8) (hl:l.length = 8):Ct A7 R0 [P0 k,.slice a 8 c] [Gm7 k,slC false A3 1 a 8 c (A0 l)] fun v own=>v = .tuple ⟨[.agg ⟨Bu5 (if isF l then By4 l else .zero)⟩,.bool (isF l)]⟩ ∧ own [Gm7 k,slC false A3 1 a 8 c (A0 l)]:=by
 refine Ct.of Bw2 rfl fun h r=>Tr.eq (Bx0 ..) ?_; (try simp only[Nr,Nl,Nat.reduceAdd,Nat.reduceMul,Int.reduceToNat])
 (repeat' first|refine Gu ?_|(with_reducible first|refine Gn fun b h=>?_|apply Gx|apply Gy|rintro px rfl|refine fun(h:H)=>?_|intro hb)|refine Gs ?_|refine Gt ?_|exact Gz rfl|fail)
 refine Tr.condF rfl ?_
 (repeat' first|refine Gu ?_|(with_reducible first|refine Gn fun b h=>?_|rintro px rfl|refine fun(h:H)=>?_|intro hb)|refine Gs ?_|refine Gt ?_|exact Gz rfl|fail)
 refine Tr.xCall (Ed1 8 a c l hl (by simp [A8])) ?_; rintro _ h ⟨a1,c1,rfl,o⟩ <;> (refine (?_:Tr _ _ _ _) o; (try simp only[Nr,Nl,Nat.reduceAdd,Nat.reduceMul,Int.reduceToNat]); (repeat' first|refine Gu ?_|(with_reducible first|refine Gn fun b h=>?_|rintro px rfl|refine fun(h:H)=>?_|intro hb)|refine Gs ?_|refine Gt ?_|exact Gz rfl|fail))
 refine Tr.xCall (Hw0 a1 c1 l hl) ?_; rintro _ h ⟨rfl,o⟩ <;> (refine (?_:Tr _ _ _ _) o; (try simp only[Nr,Nl,Nat.reduceAdd,Nat.reduceMul,Int.reduceToNat]); (repeat' first|refine Gu ?_|(with_reducible first|refine Gn fun b h=>?_|rintro px rfl|refine fun(h:H)=>?_|intro hb)|refine Gs ?_|refine Gt ?_|exact Gz rfl|fail))
 cases hk:isF l with
 | false =>
  (repeat' first|refine Gu ?_|(with_reducible first|refine Gn fun b h=>?_|apply Gx|apply Gy|rintro px rfl|refine fun(h:H)=>?_|intro hb)|refine Gs ?_|refine Gt ?_|exact Gz rfl|fail)
  refine Tr.some fun o=>?_
  exact ⟨rfl,o.sub⟩
 | true =>
  (repeat' first|refine Gu ?_|(with_reducible first|refine Gn fun b h=>?_|apply Gx|apply Gy|rintro px rfl|refine fun(h:H)=>?_|intro hb)|refine Gs ?_|refine Gt ?_|exact Gz rfl|fail)
  refine Tr.some fun o=>?_
  exact ⟨rfl,o.sub⟩
def Ae0 (l:List UInt8):FileS × Int:=if l.all (· == 0) then (.zero,0) else if isF l then (By4 l,1) else (.zero,2)
theorem G75 (a:Option Addr) (c:Nat) (l:List UInt8) (hl:l.length = 8):Ct A7 A13 [.slice a 8 c] [slC false A3 1 a 8 c (A0 l)] fun v own=>v = .tuple ⟨[.agg ⟨Bu5 (Ae0 l).1⟩,int (Ae0 l).2]⟩ ∧ own [slC false A3 1 a 8 c (A0 l)]:=by
 refine Ct.of E59 rfl fun h r=>Tr.eq (E44 ..) ?_; (try simp only[Nr,Nl,Nat.reduceAdd,Nat.reduceMul,Int.reduceToNat])
 refine Tr.nw fun b1 h=>?_
 refine Tr.bnd (Tr.condT rfl ?_)
 refine Tr.pcall (Ec3 8 a c l hl (by simp [A8])) ?_; (try simp only[Nr,Nl,Nat.reduceAdd,Nat.reduceMul,Int.reduceToNat]); (repeat' first|refine Gu ?_|(with_reducible first|refine Gn fun b h=>?_|rintro px rfl|refine fun(h:H)=>?_|intro hb)|refine Gs ?_|refine Gt ?_|exact Gz rfl|fail)
 refine Tr.some fun o=>(?_:Tr _ _ _ _) o; (try simp only[Nr,Nl,Nat.reduceAdd,Nat.reduceMul,Int.reduceToNat])
 cases hb:l.all (· == 0) with
 | true =>
  (repeat' first|refine Gu ?_|(with_reducible first|refine Gn fun b h=>?_|apply Gx|apply Gy|rintro px rfl|refine fun(h:H)=>?_|intro hb)|refine Gs ?_|refine Gt ?_|exact Gz rfl|fail)
  refine Tr.some fun o=>?_
  exact ⟨by unfold Ae0; rw [hb]; rfl,o.sub⟩
 | false =>
  (repeat' first|refine Gu ?_|(with_reducible first|refine Gn fun b h=>?_|rintro px rfl|refine fun(h:H)=>?_|intro hb)|refine Gs ?_|refine Gt ?_|exact Gz rfl|fail)
  refine Tr.xCall (Ga7) ?_; rintro _ h ⟨k,rfl,o⟩ <;> (refine (?_:Tr _ _ _ _) o; (try simp only[Nr,Nl,Nat.reduceAdd,Nat.reduceMul,Int.reduceToNat]); (repeat' first|refine Gu ?_|(with_reducible first|refine Gn fun b h=>?_|rintro px rfl|refine fun(h:H)=>?_|intro hb)|refine Gs ?_|refine Gt ?_|exact Gz rfl|fail))
  refine Tr.xCall (G11 k a c l hl) ?_; rintro _ h ⟨rfl,o⟩ <;> (refine (?_:Tr _ _ _ _) o; (try simp only[Nr,Nl,Nat.reduceAdd,Nat.reduceMul,Int.reduceToNat]); (repeat' first|refine Gu ?_|(with_reducible first|refine Gn fun b h=>?_|rintro px rfl|refine fun(h:H)=>?_|intro hb)|refine Gs ?_|refine Gt ?_|exact Gz rfl|fail))
  cases hk:isF l with
  | false =>
   (repeat' first|refine Gu ?_|(with_reducible first|refine Gn fun b h=>?_|apply Gx|apply Gy|rintro px rfl|refine fun(h:H)=>?_|intro hb)|refine Gs ?_|refine Gt ?_|exact Gz rfl|fail)
   refine Tr.some fun o=>?_
   exact ⟨by unfold Ae0; rw [hb,hk]; rfl,o.sub⟩
  | true =>
   (repeat' first|refine Gu ?_|(with_reducible first|refine Gn fun b h=>?_|apply Gx|apply Gy|rintro px rfl|refine fun(h:H)=>?_|intro hb)|refine Gs ?_|refine Gt ?_|exact Gz rfl|fail)
   refine Tr.some fun o=>?_
   exact ⟨by unfold Ae0; rw [hb,hk]; rfl,o.sub⟩
end Go.EQ

set_option maxRecDepth 10000
namespace Go.EQ
open Go Go.NN
structure PipeS where
 head:Int
 count:Int
 readers:Int
 writers:Int
 data:List UInt8
 len:data.length = 32
abbrev PipeS.zero:PipeS:=⟨0,0,0,0,List.replicate 32 0,rfl⟩
abbrev P4 (p:PipeS):List Value:=int p.head :: int p.count :: int p.readers :: int p.writers :: A0 p.data
theorem Dl3 {p:PipeS} (hd:p.data.length = 32):(P4 p).length = 36:=by simp [P4,Q1,hd]
theorem Ha5 {p:PipeS} (hd:p.data.length = 32):4 + 32 ≤ (P4 p).length ∧ ((P4 p).drop 4).take 32 = A0 p.data:=⟨by rw [Dl3 hd]; exact Nat.le_refl _,by
 rw [show (P4 p).drop 4 = A0 p.data from rfl,List.take_of_length_le (by rw [Q1,hd]; exact Nat.le_refl _)]⟩
theorem Hd3 (p:PipeS):(P4 p).all Value.oneCell = true:=by simp [P4,Ac9,Value.oneCell]
theorem Hb7 (p:PipeS):Al6 (.agg ⟨P4 p⟩) (.agg ⟨P4 p⟩) = true:=Dm5 (by simp [P4,A0])
instance {p:PipeS}:LenC (P4 p) 36:=⟨Dl3 p.len⟩
instance {p:PipeS}:PartC (P4 p) 0 36 (P4 p):=⟨Bq3 (Dl3 p.len)⟩
instance {p:PipeS} {cs:List Value} [k:LenC cs 36]:SetsC cs 0 (P4 p) (P4 p):=⟨Bq1 k.ok (Dl3 p.len) (Hd3 p)⟩
instance {p:PipeS}:SameC (.agg ⟨P4 p⟩):=⟨Hb7 p⟩
def okP (p:PipeS):Bool:=decide (0 ≤ p.head ∧ p.head ≤ 31) && decide (0 ≤ p.count ∧ p.count ≤ 32) && decide (0 ≤ p.readers ∧ p.readers ≤ 8) && decide (0 ≤ p.writers ∧ p.writers ≤ 8)
def Ai6 (p:PipeS):List UInt8:=[1,b8 p.head,b8 p.count,b8 p.readers,b8 p.writers,197]
def O5 (p:PipeS):List UInt8:=Ai6 p ++ Bn3 (Ai6 p) :: 0 :: p.data
theorem D00 {p:PipeS} (hd:p.data.length = 32):(O5 p).length = 40:=by simp [O5,Ai6,hd]
theorem H12 (n m:Int):CtP A7 Ao2 [int n,int m] [] (.bool (decide (0 ≤ n ∧ n ≤ m))):=by
 refine CtP.of Gy1 rfl fun h r=>Tr.eq (G02 ..) ?_; (try simp only[Nr,Nl,Nat.reduceAdd,Nat.reduceMul,Int.reduceToNat])
 (repeat' first|refine Gu ?_|(with_reducible first|refine Gn fun b h=>?_|apply Gx|apply Gy|rintro px rfl|refine fun(h:H)=>?_|intro hb)|refine Gs ?_|refine Gt ?_|exact Gz rfl|fail)
 refine Tr.some fun o=>?_
 refine ⟨?_,rfl⟩
 refine congrArg Value.bool ?_; rw [Bool.eq_iff_iff]; simp only [Bool.and_eq_true,Bool.or_eq_true,Bool.not_eq_true',Bool.not_eq_false',decide_eq_true_eq,decide_eq_false_iff_not,bne_iff_ne,beq_iff_eq,ne_eq,A6,Z5,Z4,ge_iff_le,gt_iff_lt]; first | done | omega
instance {n m:Int} {l:List HP}:PCi A7 Ao2 [.int .i64 n,.int .i64 m] l (.bool (decide (0 ≤ n ∧ n ≤ m))):=PCi.of (H12 n m)
theorem H08 (p:PipeS):Ct A7 Dm7 [.agg ⟨P4 p⟩] [] fun v own=>v = .bool (okP p) ∧ own []:=by
 refine Ct.of He1 rfl fun h r=>Tr.eq (Hj0 ..) ?_; (try simp only[Nr,Nl,Nat.reduceAdd,Nat.reduceMul,Int.reduceToNat])
 (repeat' first|refine Gu ?_|(with_reducible first|refine Gn fun b h=>?_|apply Gx|apply Gy|rintro px rfl|refine fun(h:H)=>?_|intro hb)|refine Gs ?_|refine Gt ?_|exact Gz rfl|fail)
 refine Tr.some fun o=>?_
 exact ⟨rfl,o.sub⟩
theorem Hy6 (a:Option Addr) (c:Nat) (p:PipeS):Ct A7 Bf8 [.agg ⟨P4 p⟩,.slice a 40 c] [slC false A3 1 a 40 c (A0 (List.replicate 40 0))] fun v own=>v = .bool (okP p) ∧ own [slC false A3 1 a 40 c (A0 (if okP p then O5 p else List.replicate 40 0))]:=by
 have hd:=p.len
 refine Ct.of G52 rfl fun h r=>Tr.eq (G91 ..) ?_; (try simp only[Nr,Nl,Nat.reduceAdd,Nat.reduceMul,Int.reduceToNat])
 refine Tr.nw fun b1 h=>?_
 (repeat' first|refine Gu ?_|(with_reducible first|refine Gn fun b h=>?_|apply Gx|apply Gy|rintro px rfl|refine fun(h:H)=>?_|intro hb)|refine Gs ?_|refine Gt ?_|exact Gz rfl|fail)
 refine Tr.xCall (H08 p) ?_; rintro _ h ⟨rfl,o⟩ <;> (refine (?_:Tr _ _ _ _) o; (try simp only[Nr,Nl,Nat.reduceAdd,Nat.reduceMul,Int.reduceToNat]); (repeat' first|refine Gu ?_|(with_reducible first|refine Gn fun b h=>?_|rintro px rfl|refine fun(h:H)=>?_|intro hb)|refine Gs ?_|refine Gt ?_|exact Gz rfl|fail))
 cases hk:okP p with
 | false =>
  (repeat' first|refine Gu ?_|(with_reducible first|refine Gn fun b h=>?_|apply Gx|apply Gy|rintro px rfl|refine fun(h:H)=>?_|intro hb)|refine Gs ?_|refine Gt ?_|exact Gz rfl|fail)
  refine Tr.some fun o=>?_
  rw [if_neg (by simp)]
  exact ⟨rfl,o.sub⟩
 | true =>
  (repeat' first|refine Gu ?_|(with_reducible first|refine Gn fun b h=>?_|apply Gx|apply Gy|rintro px rfl|refine fun(h:H)=>?_|intro hb)|refine Gs ?_|refine Gt ?_|exact Gz rfl|fail)
  simp only [Bc3,List.drop_zero,List.take]
  refine Z6 2 rfl fun hl hc _=>?_
  refine Tr.xPCells (cs':=A0 (Ai6 p ++ List.replicate 34 0)) (by omega) ⟨by simp,by simp [A0],by simp [Value.oneCell],rfl⟩ fun h=>?_
  (repeat' first|refine Gu ?_|(with_reducible first|refine Gn fun b h=>?_|apply Gx|apply Gy|rintro px rfl|refine fun(h:H)=>?_|intro hb)|refine Gs ?_|refine Gt ?_|exact Gz rfl|fail)
  refine Tr.pcall (Ez0 (slC false A3 1 a 40 c (A0 (Ai6 p ++ List.replicate 34 0))) a false 40 c c (Ai6 p ++ List.replicate 34 0) 6 (by simp [Ai6]) (by simp [Ai6,A8])) ?_
  (try simp only[Nr,Nl,Nat.reduceAdd,Nat.reduceMul,Int.reduceToNat])
  (repeat' first|refine Gu ?_|(with_reducible first|refine Gn fun b h=>?_|apply Gx|apply Gy|rintro px rfl|refine fun(h:H)=>?_|intro hb)|refine Gs ?_|refine Gt ?_|exact Gz rfl|fail)
  rw [show List.take 6 (Ai6 p ++ List.replicate 34 0:List UInt8) = Ai6 p from rfl,Dg6]
  refine Tr.xVS (cs':=A0 (Ai6 p ++ Bn3 (Ai6 p) :: List.replicate 33 0)) ⟨by simp [A0,Ai6],rfl,rfl⟩ fun h=>?_
  (repeat' first|refine Gu ?_|(with_reducible first|refine Gn fun b h=>?_|apply Gx|apply Gy|rintro px rfl|refine fun(h:H)=>?_|intro hb)|refine Gs ?_|refine Gt ?_|exact Gz rfl|fail)
  refine Tr.xCellsB (xs:=A0 p.data) (Ha5 p.len) ?_
  rw [E54 (by omega),Eg2]
  refine Tr.xPAggS (cs':=A0 (O5 p)) ⟨?_,?_,Ac9 _,?_⟩ fun h=>?_
  ·intro e; have:=congrArg List.length e; simp [A0,hd] at this
  ·simp [A0,hd,Ai6]
  ·rw [Q1,hd]
   simp [A0,O5,Ai6]
  refine Tr.some fun o=>?_
  simp only [if_true]
  exact ⟨trivial,o.sub⟩
abbrev Es7 (k:Nat):HP:=pt k (.cells Bi3 false [int 40,.func (.func Bf8) ⟨[]⟩ ⟨[]⟩,.func (.func Be7) ⟨[]⟩ ⟨[]⟩])
theorem Gx2 (k:Nat) (f:PipeS):Ct A7 Q6 [P0 k,.agg ⟨P4 f⟩] [Es7 k] fun v own=>(okP f = true ∧ ∃ a,v = .tuple ⟨[.slice a 40 40,.bool true]⟩ ∧ own [Es7 k,slC false A3 1 a 40 40 (A0 (O5 f))]) ∨ (okP f = false ∧ v = .tuple ⟨[.slice none 0 0,.bool false]⟩ ∧ own [Es7 k]):=by
 refine Ct.of Bw8 rfl fun h r=>Tr.eq (Bx2 ..) ?_; (try simp only[Nr,Nl,Nat.reduceAdd,Nat.reduceMul,Int.reduceToNat])
 (repeat' first|refine Gu ?_|(with_reducible first|refine Gn fun b h=>?_|apply Gx|apply Gy|rintro px rfl|refine fun(h:H)=>?_|intro hb)|refine Gs ?_|refine Gt ?_|exact Gz rfl|fail)
 refine Tr.ck ⟨by omega,by omega,by simp [A8]⟩ ?_
 refine Tr.nw fun b1 h=>?_
 rw [show G3 (Int.toNat 40) [.int .u8 0] = A0 (List.replicate 40 0) from rfl]
 refine Af9 0 rfl 1 40 rfl (by omega) ?_
 simp only [List.set_cons_zero]
 (try simp only[Nr,Nl,Nat.reduceAdd,Nat.reduceMul,Int.reduceToNat])
 (repeat' first|refine Gu ?_|(with_reducible first|refine Gn fun b h=>?_|rintro px rfl|refine fun(h:H)=>?_|intro hb)|refine Gs ?_|refine Gt ?_|exact Gz rfl|fail)
 refine Tr.bnd (Tr.condF rfl ?_)
 (repeat' first|refine Gu ?_|(with_reducible first|refine Gn fun b h=>?_|rintro px rfl|refine fun(h:H)=>?_|intro hb)|refine Gs ?_|refine Gt ?_|exact Gz rfl|fail)
 refine Tr.xCall (Hy6 (some ⟨b1,0,none⟩) 40 f) ?_; rintro _ h ⟨rfl,o⟩ <;> (refine (?_:Tr _ _ _ _) o; (try simp only[Nr,Nl,Nat.reduceAdd,Nat.reduceMul,Int.reduceToNat]); (repeat' first|refine Gu ?_|(with_reducible first|refine Gn fun b h=>?_|rintro px rfl|refine fun(h:H)=>?_|intro hb)|refine Gs ?_|refine Gt ?_|exact Gz rfl|fail))
 refine Tr.some fun o=>(?_:Tr _ _ _ _) o; (try simp only[Nr,Nl,Nat.reduceAdd,Nat.reduceMul,Int.reduceToNat])
 cases hk:okP f with
 | false =>
  (repeat' first|refine Gu ?_|(with_reducible first|refine Gn fun b h=>?_|apply Gx|apply Gy|rintro px rfl|refine fun(h:H)=>?_|intro hb)|refine Gs ?_|refine Gt ?_|exact Gz rfl|fail)
  refine Tr.some fun o=>?_
  exact .inr ⟨rfl,rfl,o.sub⟩
 | true =>
  (repeat' first|refine Gu ?_|(with_reducible first|refine Gn fun b h=>?_|apply Gx|apply Gy|rintro px rfl|refine fun(h:H)=>?_|intro hb)|refine Gs ?_|refine Gt ?_|exact Gz rfl|fail)
  refine Tr.some fun o=>?_
  simp only [if_true] at o
  exact .inl ⟨rfl,_,rfl,o.sub⟩
theorem Hw4:Ct A7 Al0 [int 40,.func (.func Bf8) ⟨[]⟩ ⟨[]⟩,.func (.func Be7) ⟨[]⟩ ⟨[]⟩] [] fun v own=>∃ k,v = P0 k ∧ own [Es7 k]:=by
 refine Ct.of D32 rfl fun h r=>Tr.eq (D49 ..) ?_; (try simp only[Nr,Nl,Nat.reduceAdd,Nat.reduceMul,Int.reduceToNat])
 rw [show mm2 false (mm2 true 40 0) 64 = 40 from rfl]
 (repeat' first|refine Gu ?_|(with_reducible first|refine Gn fun b h=>?_|apply Gx|apply Gy|rintro px rfl|refine fun(h:H)=>?_|intro hb)|refine Gs ?_|refine Gt ?_|exact Gz rfl|fail)
 refine Tr.some fun o=>?_
 exact ⟨_,rfl,o.sub⟩
theorem Ga9:Ct A7 Bb8 [] [] fun v own=>∃ k,v = P0 k ∧ own [Es7 k]:=by
 refine Ct.of Gu1 rfl fun h r=>Tr.eq (Gl8 ..) ?_; (try simp only[Nr,Nl,Nat.reduceAdd,Nat.reduceMul,Int.reduceToNat])
 refine Tr.xCall (Hw4) ?_; rintro _ h ⟨k,rfl,o⟩ <;> (refine (?_:Tr _ _ _ _) o; (try simp only[Nr,Nl,Nat.reduceAdd,Nat.reduceMul,Int.reduceToNat]); (repeat' first|refine Gu ?_|(with_reducible first|refine Gn fun b h=>?_|apply Gx|apply Gy|rintro px rfl|refine fun(h:H)=>?_|intro hb)|refine Gs ?_|refine Gt ?_|exact Gz rfl|fail))
 refine Tr.some fun o=>?_
 exact ⟨_,rfl,o.sub⟩
theorem G66 (f:PipeS):Ct A7 Bl4 [.agg ⟨P4 f⟩] [] fun v own=>(okP f = true ∧ ∃ a,v = .tuple ⟨[.slice a 40 40,.bool true]⟩ ∧ own [slC false A3 1 a 40 40 (A0 (O5 f))]) ∨ (okP f = false ∧ v = .tuple ⟨[.slice none 0 0,.bool false]⟩ ∧ own []):=by
 refine Ct.of Gh3 rfl fun h r=>Tr.eq (Gg3 ..) ?_; (try simp only[Nr,Nl,Nat.reduceAdd,Nat.reduceMul,Int.reduceToNat])
 refine Tr.nw fun b1 h=>?_
 (repeat' first|refine Gu ?_|(with_reducible first|refine Gn fun b h=>?_|apply Gx|apply Gy|rintro px rfl|refine fun(h:H)=>?_|intro hb)|refine Gs ?_|refine Gt ?_|exact Gz rfl|fail)
 refine Tr.xCall (Ga9) ?_; rintro _ h ⟨k,rfl,o⟩ <;> (refine (?_:Tr _ _ _ _) o; (try simp only[Nr,Nl,Nat.reduceAdd,Nat.reduceMul,Int.reduceToNat]); (repeat' first|refine Gu ?_|(with_reducible first|refine Gn fun b h=>?_|rintro px rfl|refine fun(h:H)=>?_|intro hb)|refine Gs ?_|refine Gt ?_|exact Gz rfl|fail))
 (repeat' first|refine Gu ?_|(with_reducible first|refine Gn fun b h=>?_|apply Gx|apply Gy|rintro px rfl|refine fun(h:H)=>?_|intro hb)|refine Gs ?_|refine Gt ?_|exact Gz rfl|fail)
 refine Tr.xCall (Gx2 k f) ?_
 rintro v h (⟨hk,a,rfl,o⟩ | ⟨hk,rfl,o⟩)
 ·refine (?_:Tr _ _ _ _) o
  (try simp only[Nr,Nl,Nat.reduceAdd,Nat.reduceMul,Int.reduceToNat])
  (repeat' first|refine Gu ?_|(with_reducible first|refine Gn fun b h=>?_|apply Gx|apply Gy|rintro px rfl|refine fun(h:H)=>?_|intro hb)|refine Gs ?_|refine Gt ?_|exact Gz rfl|fail)
  refine Tr.some fun o=>?_
  exact .inl ⟨hk,a,rfl,o.sub⟩
 ·refine (?_:Tr _ _ _ _) o
  (try simp only[Nr,Nl,Nat.reduceAdd,Nat.reduceMul,Int.reduceToNat])
  (repeat' first|refine Gu ?_|(with_reducible first|refine Gn fun b h=>?_|apply Gx|apply Gy|rintro px rfl|refine fun(h:H)=>?_|intro hb)|refine Gs ?_|refine Gt ?_|exact Gz rfl|fail)
  refine Tr.some fun o=>?_
  exact .inr ⟨hk,rfl,o.sub⟩
def Dn7 (l:List UInt8):List UInt8:=(l ++ List.replicate 32 0).take 32
theorem Hd7 (l:List UInt8):(Dn7 l).length = 32:=by simp [Dn7]
theorem Eu8 {l:List UInt8} (h:l.length = 32):Dn7 l = l:=by simp [Dn7,← h]
def Bg8 (l:List UInt8):PipeS:=⟨byI l 1,byI l 2,byI l 3,byI l 4,Dn7 (l.drop 8),Hd7 _⟩
def isP (l:List UInt8):Bool:=okP (Bg8 l) && decide (O5 (Bg8 l) = l)
theorem Hv5 (a:Option Addr) (c:Nat) (l:List UInt8) (hl:l.length = 40):Ct A7 Be7 [.slice a 40 c] [slC false A3 1 a 40 c (A0 l)] fun v own=>v = .tuple ⟨[.agg ⟨P4 (Bg8 l)⟩,.bool (isP l)]⟩ ∧ own [slC false A3 1 a 40 c (A0 l)]:=by
 have hd:=(Bg8 l).len
 have hp:Dn7 (l.drop 8) = l.drop 8:=Eu8 (by simp [hl])
 have key:∀ a1:Option Addr,CtP A7 B6 [.slice a1 40 40,.slice a 40 c] [slC false A3 1 a1 40 40 (A0 (O5 (Bg8 l))),slC false A3 1 a 40 c (A0 l)] (.bool (decide (O5 (Bg8 l) = l))):=fun a1=>by
  have e:=D00 hd
  have J:=Ec7 (slC false A3 1 a1 (O5 (Bg8 l)).length 40 (A0 (O5 (Bg8 l)))) (slC false A3 1 a l.length c (A0 l)) a1 false 40 a false c (O5 (Bg8 l)) l (by rw [e]; simp [A8])
  rwa [hl,e] at J
 refine Ct.of Ha6 rfl fun h r=>Tr.eq (G54 ..) ?_; (try simp only[Nr,Nl,Nat.reduceAdd,Nat.reduceMul,Int.reduceToNat])
 refine Tr.nw fun b1 h=>?_
 refine Z6 1 rfl fun hl2 hc2 _=>?_
 (repeat' first|refine Gu ?_|(with_reducible first|refine Gn fun b h=>?_|apply Gx|apply Gy|rintro px rfl|refine fun(h:H)=>?_|intro hb)|refine Gs ?_|refine Gt ?_|exact Gz rfl|fail)
 refine Tr.xIntS (v:=byI l 1) (Aa8 (by omega)) ?_
 (repeat' first|refine Gu ?_|(with_reducible first|refine Gn fun b h=>?_|apply Gx|apply Gy|rintro px rfl|refine fun(h:H)=>?_|intro hb)|refine Gs ?_|refine Gt ?_|exact Gz rfl|fail)
 refine Tr.xIntS (v:=byI l 2) (Aa8 (by omega)) ?_
 (repeat' first|refine Gu ?_|(with_reducible first|refine Gn fun b h=>?_|apply Gx|apply Gy|rintro px rfl|refine fun(h:H)=>?_|intro hb)|refine Gs ?_|refine Gt ?_|exact Gz rfl|fail)
 refine Tr.xIntS (v:=byI l 3) (Aa8 (by omega)) ?_
 (repeat' first|refine Gu ?_|(with_reducible first|refine Gn fun b h=>?_|apply Gx|apply Gy|rintro px rfl|refine fun(h:H)=>?_|intro hb)|refine Gs ?_|refine Gt ?_|exact Gz rfl|fail)
 refine Tr.xIntS (v:=byI l 4) (Aa8 (by omega)) ?_
 simp only [byI,Ak0]
 refine Tr.nw fun b2 h=>?_
 (repeat' first|refine Gu ?_|(with_reducible first|refine Gn fun b h=>?_|rintro px rfl|refine fun(h:H)=>?_|intro hb)|refine Gs ?_|refine Gt ?_|exact Gz rfl|fail)
 rw [E54 (show 8 < c by omega),Gl1]
 refine Tr.xAggS (xs:=A0 (l.drop 8)) ⟨by omega,by simp [Q1,hl],?_⟩ ?_
 ·rw [B10,List.take_of_length_le (by simp [Q1,hl])]
 rw [show pCells (some (⟨b2,4,none⟩:Addr)) = pAgg ⟨b2,4,none⟩ from rfl]
 refine Tr.xPAgg (cs':=P4 (Bg8 l)) ⟨by simp [Q1,hl],Ac9 _,by simp [P4,Bg8,byI,Q1,hl,hp]⟩ fun h=>?_
 (repeat' first|refine Gu ?_|(with_reducible first|refine Gn fun b h=>?_|apply Gx|apply Gy|rintro px rfl|refine fun(h:H)=>?_|intro hb)|refine Gs ?_|refine Gt ?_|exact Gz rfl|fail)
 refine Tr.xCall (G66 (Bg8 l)) ?_
 rintro v h (⟨hk,a1,rfl,o⟩ | ⟨hk,rfl,o⟩)
 ·refine (?_:Tr _ _ _ _) o
  (try simp only[Nr,Nl,Nat.reduceAdd,Nat.reduceMul,Int.reduceToNat])
  (repeat' first|refine Gu ?_|(with_reducible first|refine Gn fun b h=>?_|rintro px rfl|refine fun(h:H)=>?_|intro hb)|refine Gs ?_|refine Gt ?_|exact Gz rfl|fail)
  refine Tr.bnd (Tr.condT rfl ?_)
  refine Tr.pcall (key a1) ?_; (try simp only[Nr,Nl,Nat.reduceAdd,Nat.reduceMul,Int.reduceToNat]); (repeat' first|refine Gu ?_|(with_reducible first|refine Gn fun b h=>?_|rintro px rfl|refine fun(h:H)=>?_|intro hb)|refine Gs ?_|refine Gt ?_|exact Gz rfl|fail)
  refine Tr.some fun o=>(?_:Tr _ _ _ _) o; (try simp only[Nr,Nl,Nat.reduceAdd,Nat.reduceMul,Int.reduceToNat])
  (repeat' first|refine Gu ?_|(with_reducible first|refine Gn fun b h=>?_|apply Gx|apply Gy|rintro px rfl|refine fun(h:H)=>?_|intro hb)|refine Gs ?_|refine Gt ?_|exact Gz rfl|fail)
  refine Tr.some fun o=>?_
  exact ⟨by unfold isP; rw [hk,Bool.true_and],o.sub⟩
 ·refine (?_:Tr _ _ _ _) o
  (try simp only[Nr,Nl,Nat.reduceAdd,Nat.reduceMul,Int.reduceToNat])
  (repeat' first|refine Gu ?_|(with_reducible first|refine Gn fun b h=>?_|apply Gx|apply Gy|rintro px rfl|refine fun(h:H)=>?_|intro hb)|refine Gs ?_|refine Gt ?_|exact Gz rfl|fail)
  refine Tr.some fun o=>?_
  exact ⟨by unfold isP; rw [hk]; rfl,o.sub⟩
theorem Gw7 (k:Nat) (a:Option Addr) (c:Nat) (l:List UInt8) (hl:l.length = 40):Ct A7 S5 [P0 k,.slice a 40 c] [Es7 k,slC false A3 1 a 40 c (A0 l)] fun v own=>v = .tuple ⟨[.agg ⟨P4 (if isP l then Bg8 l else .zero)⟩,.bool (isP l)]⟩ ∧ own [Es7 k,slC false A3 1 a 40 c (A0 l)]:=by
 have hd:=(Bg8 l).len
 have hp:Dn7 (l.drop 8) = l.drop 8:=Eu8 (by simp [hl])
 refine Ct.of Bx3 rfl fun h r=>Tr.eq (Bw7 ..) ?_; (try simp only[Nr,Nl,Nat.reduceAdd,Nat.reduceMul,Int.reduceToNat])
 (repeat' first|refine Gu ?_|(with_reducible first|refine Gn fun b h=>?_|apply Gx|apply Gy|rintro px rfl|refine fun(h:H)=>?_|intro hb)|refine Gs ?_|refine Gt ?_|exact Gz rfl|fail)
 refine Tr.condF rfl ?_
 (repeat' first|refine Gu ?_|(with_reducible first|refine Gn fun b h=>?_|rintro px rfl|refine fun(h:H)=>?_|intro hb)|refine Gs ?_|refine Gt ?_|exact Gz rfl|fail)
 refine Tr.xCall (Ed1 40 a c l hl (by simp [A8])) ?_; rintro _ h ⟨a1,c1,rfl,o⟩ <;> (refine (?_:Tr _ _ _ _) o; (try simp only[Nr,Nl,Nat.reduceAdd,Nat.reduceMul,Int.reduceToNat]); (repeat' first|refine Gu ?_|(with_reducible first|refine Gn fun b h=>?_|rintro px rfl|refine fun(h:H)=>?_|intro hb)|refine Gs ?_|refine Gt ?_|exact Gz rfl|fail))
 refine Tr.xCall (Hv5 a1 c1 l hl) ?_; rintro _ h ⟨rfl,o⟩ <;> (refine (?_:Tr _ _ _ _) o; (try simp only[Nr,Nl,Nat.reduceAdd,Nat.reduceMul,Int.reduceToNat]); (repeat' first|refine Gu ?_|(with_reducible first|refine Gn fun b h=>?_|rintro px rfl|refine fun(h:H)=>?_|intro hb)|refine Gs ?_|refine Gt ?_|exact Gz rfl|fail))
 cases hk:isP l with
 | false =>
  (repeat' first|refine Gu ?_|(with_reducible first|refine Gn fun b h=>?_|apply Gx|apply Gy|rintro px rfl|refine fun(h:H)=>?_|intro hb)|refine Gs ?_|refine Gt ?_|exact Gz rfl|fail)
  refine Tr.some fun o=>?_
  exact ⟨rfl,o.sub⟩
 | true =>
  (repeat' first|refine Gu ?_|(with_reducible first|refine Gn fun b h=>?_|apply Gx|apply Gy|rintro px rfl|refine fun(h:H)=>?_|intro hb)|refine Gs ?_|refine Gt ?_|exact Gz rfl|fail)
  refine Tr.some fun o=>?_
  exact ⟨rfl,o.sub⟩
def Af1 (l:List UInt8):PipeS × Int:=if l.all (· == 0) then (.zero,0) else if isP l then (Bg8 l,1) else (.zero,2)
theorem G86 (a:Option Addr) (c:Nat) (l:List UInt8) (hl:l.length = 40):Ct A7 As6 [.slice a 40 c] [slC false A3 1 a 40 c (A0 l)] fun v own=>v = .tuple ⟨[.agg ⟨P4 (Af1 l).1⟩,int (Af1 l).2]⟩ ∧ own [slC false A3 1 a 40 c (A0 l)]:=by
 have hd:=(Bg8 l).len
 have hp:Dn7 (l.drop 8) = l.drop 8:=Eu8 (by simp [hl])
 refine Ct.of Gg7 rfl fun h r=>Tr.eq (Gf6 ..) ?_; (try simp only[Nr,Nl,Nat.reduceAdd,Nat.reduceMul,Int.reduceToNat])
 refine Tr.nw fun b1 h=>?_
 refine Tr.bnd (Tr.condT rfl ?_)
 refine Tr.pcall (Ec3 40 a c l hl (by simp [A8])) ?_; (try simp only[Nr,Nl,Nat.reduceAdd,Nat.reduceMul,Int.reduceToNat]); (repeat' first|refine Gu ?_|(with_reducible first|refine Gn fun b h=>?_|rintro px rfl|refine fun(h:H)=>?_|intro hb)|refine Gs ?_|refine Gt ?_|exact Gz rfl|fail)
 refine Tr.some fun o=>(?_:Tr _ _ _ _) o; (try simp only[Nr,Nl,Nat.reduceAdd,Nat.reduceMul,Int.reduceToNat])
 cases hb:l.all (· == 0) with
 | true =>
  (repeat' first|refine Gu ?_|(with_reducible first|refine Gn fun b h=>?_|apply Gx|apply Gy|rintro px rfl|refine fun(h:H)=>?_|intro hb)|refine Gs ?_|refine Gt ?_|exact Gz rfl|fail)
  refine Tr.some fun o=>?_
  exact ⟨by unfold Af1; rw [hb]; rfl,o.sub⟩
 | false =>
  (repeat' first|refine Gu ?_|(with_reducible first|refine Gn fun b h=>?_|rintro px rfl|refine fun(h:H)=>?_|intro hb)|refine Gs ?_|refine Gt ?_|exact Gz rfl|fail)
  refine Tr.xCall (Ga9) ?_; rintro _ h ⟨k,rfl,o⟩ <;> (refine (?_:Tr _ _ _ _) o; (try simp only[Nr,Nl,Nat.reduceAdd,Nat.reduceMul,Int.reduceToNat]); (repeat' first|refine Gu ?_|(with_reducible first|refine Gn fun b h=>?_|rintro px rfl|refine fun(h:H)=>?_|intro hb)|refine Gs ?_|refine Gt ?_|exact Gz rfl|fail))
  refine Tr.xCall (Gw7 k a c l hl) ?_; rintro _ h ⟨rfl,o⟩ <;> (refine (?_:Tr _ _ _ _) o; (try simp only[Nr,Nl,Nat.reduceAdd,Nat.reduceMul,Int.reduceToNat]); (repeat' first|refine Gu ?_|(with_reducible first|refine Gn fun b h=>?_|rintro px rfl|refine fun(h:H)=>?_|intro hb)|refine Gs ?_|refine Gt ?_|exact Gz rfl|fail))
  cases hk:isP l with
  | false =>
   (repeat' first|refine Gu ?_|(with_reducible first|refine Gn fun b h=>?_|apply Gx|apply Gy|rintro px rfl|refine fun(h:H)=>?_|intro hb)|refine Gs ?_|refine Gt ?_|exact Gz rfl|fail)
   refine Tr.some fun o=>?_
   exact ⟨by unfold Af1; rw [hb,hk]; rfl,o.sub⟩
  | true =>
   (repeat' first|refine Gu ?_|(with_reducible first|refine Gn fun b h=>?_|apply Gx|apply Gy|rintro px rfl|refine fun(h:H)=>?_|intro hb)|refine Gs ?_|refine Gt ?_|exact Gz rfl|fail)
   refine Tr.some fun o=>?_
   exact ⟨by unfold Af1; rw [hb,hk]; rfl,o.sub⟩
end Go.EQ

set_option maxRecDepth 10000
namespace Go.EQ
open Go Go.NN
structure ProcS where
 state:Int
 parent:Int
 group:Int
 code:Int
 pending:Int
 mask:Int
 ignored:Int
 caught:Int
 fds:List Int
 len:fds.length = 8
abbrev Gi4:List Int:=[0,0,0,0,0,0,0,0]
abbrev ProcS.zero:ProcS:=⟨0,0,0,0,0,0,0,0,Gi4,rfl⟩
abbrev D8 (p:ProcS):List Value:=int p.state :: int p.parent :: int p.group :: int p.code :: int p.pending :: int p.mask :: int p.ignored :: int p.caught :: p.fds.map int
theorem B39 (p:ProcS):(D8 p).length = 16:=by simp [D8,p.len]
theorem Hk1 (p:ProcS):(D8 p).all Value.oneCell = true:=by simp [D8,Value.oneCell]
instance {p:ProcS}:LenC (D8 p) 16:=⟨B39 p⟩
instance {p:ProcS}:PartC (D8 p) 0 16 (D8 p):=⟨Bq3 (B39 p)⟩
instance {p:ProcS}:PartC (D8 p) 8 8 (p.fds.map int):=⟨by
 have h:Nat.ble (8 + 8) (D8 p).length = true:=by rw [B39]; rfl
 have e:((D8 p).drop 8).take 8 = p.fds.map int:=by rw [show (D8 p).drop 8 = p.fds.map int from rfl,List.take_of_length_le (by simp [p.len])]
 rw [Db8,h,e]; rfl⟩
instance {p:ProcS} {cs:List Value} [k:LenC cs 16]:SetsC cs 0 (D8 p) (D8 p):=⟨Bq1 k.ok (B39 p) (Hk1 p)⟩
instance {p:ProcS}:SameC (.agg ⟨D8 p⟩):=⟨Dm5 (by simp [D8])⟩
def D02 (n w:Int):Bool:=Eb2 .i64 n 65534 == 0 && O4 .i64 n w == 0
def okS (p:ProcS):Bool :=
 !(decide (p.state < 1) || decide (p.state > 3) || decide (p.parent < 0) || decide (p.parent > 8) || decide (p.group < 0) || decide (p.group ≥ 8) || decide (p.code < 0) || decide (p.code > 255)) &&
 (!(!D02 p.pending 0 || !D02 p.mask 16896 || !D02 p.ignored 16896 || !D02 p.caught 16896 || O4 .i64 p.ignored p.caught != 0) &&
 (!(p.fds.any fun f=>decide (f < 0) || decide (f > 12)) &&
 (if p.state = 2 then p.pending == 0 && decide (p.fds = Gi4) else p.code == 0)))
def hi2 (n:Int):UInt8:=if 0 ≤ n ∧ n ≤ 65535 then b8 (n / 256) else 0
def lo2 (n:Int):UInt8:=if 0 ≤ n ∧ n ≤ 65535 then b8 n else 0
abbrev put2 (n:Int):List UInt8:=[hi2 n,lo2 n]
def Dz6 (p:ProcS):List UInt8:=[b8 p.state,b8 p.parent,b8 p.group,b8 p.code] ++ (put2 p.pending ++ (put2 p.mask ++ (put2 p.ignored ++ (put2 p.caught ++ (p.fds.map b8 ++ [167])))))
theorem Hr2 (n:Int):(put2 n).length = 2:=rfl
theorem Hg9 (p:ProcS):(Dz6 p).length = 21:=by simp [Dz6,Hr2,p.len]
def As0 (p:ProcS):List UInt8:=Dz6 p ++ [Bn3 (Dz6 p),0,0]
theorem D07 (p:ProcS):(As0 p).length = 24:=by simp [As0,Hg9]
theorem Hw1 (n w:Int):CtP A7 Ah6 [int n,int w] [] (.bool (D02 n w)):=by
 refine CtP.of Gp7 rfl fun h r=>Tr.eq (Gr7 ..) ?_; (try simp only[Nr,Nl,Nat.reduceAdd,Nat.reduceMul,Int.reduceToNat])
 (repeat' first|refine Gu ?_|(with_reducible first|refine Gn fun b h=>?_|apply Gx|apply Gy|rintro px rfl|refine fun(h:H)=>?_|intro hb)|refine Gs ?_|refine Gt ?_|exact Gz rfl|fail)
instance {n w:Int} {l:List HP}:PCi A7 Ah6 [.int .i64 n,.int .i64 w] l (.bool (D02 n w)):=PCi.of (Hw1 n w)
theorem Hx8 (f:Int):CtP A7 Bb9 [int f] [] (.bool (decide (f < 0) || decide (f > 12))):=by
 refine CtP.of Gi9 rfl fun h r=>Tr.eq (Gp0 ..) ?_; (try simp only[Nr,Nl,Nat.reduceAdd,Nat.reduceMul,Int.reduceToNat])
 (repeat' first|refine Gu ?_|(with_reducible first|refine Gn fun b h=>?_|apply Gx|apply Gy|rintro px rfl|refine fun(h:H)=>?_|intro hb)|refine Gs ?_|refine Gt ?_|exact Gz rfl|fail)
theorem Et0 (p:HP) (a:Option Addr) (ro:Bool) (c:Nat) (l:List Int) (g:FuncId) (f:Int → Bool) {e:TypeId} [ks:IsSl p a ro e 1 l.length c (l.map int)] (hl:l.length ≤ A8) (hf:∀ x,CtP A7 g [int x] [] (.bool (f x))):∀ (m i:Nat),l.length - i = m → i ≤ l.length →
  Q4 G1 D0 J7 [(0,.slice a l.length c),(1,.func (.func g) ⟨[]⟩ ⟨[]⟩),(7,int l.length),(8,int i)] [p] (int (Bl2 f i (l.drop i))):=by
 intro m
 induction m with
 | zero =>
  intro i hm hi
  refine Q4.of I6 fun h r=>Tr.eq (P3 ..) ?_; (try simp only[Nr,Nl,Nat.reduceAdd,Nat.reduceMul,Int.reduceToNat])
  refine Tr.condF (by simp; omega) ?_
  refine Tr.some fun o=>?_
  rw [List.drop_eq_nil_of_le (by omega)]; exact ⟨rfl,rfl⟩
 | succ m ih =>
  intro i hm hi
  have hlt:i < l.length:=by omega
  have hp:l[i]? = some l[i]:=List.getElem?_eq_getElem hlt
  have hd:l.drop i = l[i] :: l.drop (i + 1):=List.drop_eq_getElem_cons hlt
  generalize l[i] = x at hp hd
  have e1:IntKind.wrap .i64 ((i:Int) + 1) = ((i + 1:Nat):Int):=by rw [A6]; simp only [A8] at hl; omega
  refine Q4.of I6 fun h r=>Tr.eq (P3 ..) ?_; (try simp only[Nr,Nl,Nat.reduceAdd,Nat.reduceMul,Int.reduceToNat])
  refine Tr.condT (by simp; omega) ?_
  (repeat' first|refine Gu ?_|(with_reducible first|refine Gn fun b h=>?_|apply Gx|apply Gy|rintro px rfl|refine fun(h:H)=>?_|intro hb)|refine Gs ?_|refine Gt ?_|exact Gz rfl|fail)
  refine Tr.xIntS (v:=x) (by simp [hp]) ?_
  (repeat' first|refine Gu ?_|(with_reducible first|refine Gn fun b h=>?_|apply Gx|apply Gy|rintro px rfl|refine fun(h:H)=>?_|intro hb)|refine Gs ?_|refine Gt ?_|exact Gz rfl|fail)
  refine Tr.pcall (hf x) ?_
  cases hx:f x with
  | true =>
   (repeat' first|refine Gu ?_|(with_reducible first|refine Gn fun b h=>?_|apply Gx|apply Gy|rintro px rfl|refine fun(h:H)=>?_|intro hb)|refine Gs ?_|refine Gt ?_|exact Gz rfl|fail)
   refine Tr.some fun o=>?_
   rw [hd,Bl2,if_pos hx]; exact ⟨by first | rfl | trivial,by first | rfl | trivial⟩
  | false =>
   (repeat' first|refine Gu ?_|(with_reducible first|refine Gn fun b h=>?_|apply Gx|apply Gy|rintro px rfl|refine fun(h:H)=>?_|intro hb)|refine Gs ?_|refine Gt ?_|exact Gz rfl|fail)
   rw [e1]
   refine V3 (ih (i + 1) (by omega) (by omega)) (r:=r) (by simp) fun o=>?_
   rw [hd,Bl2,if_neg (by simp [hx])]; exact ⟨by first | rfl | trivial,by first | rfl | trivial⟩
theorem Er7 (p:HP) (a:Option Addr) (ro:Bool) (c:Nat) (l:List Int) (g:FuncId) (f:Int → Bool) {e:TypeId} [ks:IsSl p a ro e 1 l.length c (l.map int)] (hl:l.length ≤ A8) (hf:∀ x,CtP A7 g [int x] [] (.bool (f x))) :
  CtP A7 D6 [.slice a l.length c,.func (.func g) ⟨[]⟩ ⟨[]⟩] [p] (.bool (l.any f)):=by
 have j:CtP A7 D0 [.slice a l.length c,.func (.func g) ⟨[]⟩ ⟨[]⟩] [p] (int (Bl2 f 0 l)):=by
  refine CtP.of I6 rfl fun h r=>Tr.eq (A08 ..) ?_; (try simp only[Nr,Nl,Nat.reduceAdd,Nat.reduceMul,Int.reduceToNat])
  exact V3 (Et0 p a ro c l g f hl hf _ 0 rfl (by omega)) (r:=r) (by simp) fun o=>⟨rfl,rfl⟩
 refine CtP.of Ar4 rfl fun h r=>Tr.eq (Ar3 ..) ?_; (try simp only[Nr,Nl,Nat.reduceAdd,Nat.reduceMul,Int.reduceToNat])
 refine Bp5 j (r:=r) (by simp) ?_
 (repeat' first|refine Gu ?_|(with_reducible first|refine Gn fun b h=>?_|apply Gx|apply Gy|rintro px rfl|refine fun(h:H)=>?_|intro hb)|refine Gs ?_|refine Gt ?_|exact Gz rfl|fail)
 refine Tr.some fun o=>?_
 rw [Ef8]; exact ⟨by first | rfl | trivial,by first | rfl | trivial⟩
theorem Gk8:∀ (l m:List Int),l.length = m.length → eqs (l.map int) (m.map int) = some (decide (l = m))
 | [],[],_=>rfl
 | [],_ :: _,h=>by simp at h
 | _ :: _,[],h=>by simp at h
 | a :: l,b :: m,h=>by
  have ih:=Gk8 l m (by simpa using h)
  simp only [List.map_cons,eqs,eq1,decide_true,ih]
  by_cases h1:a = b <;> by_cases h2:l = m <;> simp [h1,h2]
theorem Eu9:∀ (l:List Int),E8 (List.replicate l.length (TypeDesc.int .i64)) (l.map int) = true
 | []=>rfl
 | a :: l=>by
  have:=Eu9 l
  simp only [List.length_cons,List.replicate_succ,List.map_cons,E8,decide_true,this,Bool.and_self]
theorem eq8 {α:Type} (l m:List Int) (hl:l.length = 8) (hm:m.length = 8) (k:Bool → Option α):B21 PR E99 (l.map int) (m.map int) k = k (decide (l = m)):=by
 have e:Ag8 PR 8 E99 = some (List.replicate 8 (TypeDesc.int .i64)):=by kernel_rfl
 have f1:=Eu9 l; have f2:=Eu9 m
 rw [hl] at f1; rw [hm] at f2
 rw [B21,e]
 simp only [f1,f2,Gk8 l m (by omega),Bool.and_self,ckB,cond_true,eqK]
theorem H19 (p:ProcS):Ct A7 Db1 [.agg ⟨D8 p⟩] [] fun v own=>v = .bool (okS p) ∧ own []:=by
 have h8:=p.len
 refine Ct.of G77 rfl fun h r=>Tr.eq (Hc7 ..) ?_; (try simp only[Nr,Nl,Nat.reduceAdd,Nat.reduceMul,Int.reduceToNat])
 (repeat' first|refine Gu ?_|(with_reducible first|refine Gn fun b h=>?_|apply Gx|apply Gy|rintro px rfl|refine fun(h:H)=>?_|intro hb)|refine Gs ?_|refine Gt ?_|exact Gz rfl|fail)
 refine Tr.cond (fun h1=>?_) fun h1=>?_
 ·refine Tr.some fun o=>?_
  refine ⟨?_,o.sub⟩
  unfold okS; rw [h1]; rfl
 (repeat' first|refine Gu ?_|(with_reducible first|refine Gn fun b h=>?_|apply Gx|apply Gy|rintro px rfl|refine fun(h:H)=>?_|intro hb)|refine Gs ?_|refine Gt ?_|exact Gz rfl|fail)
 refine Tr.cond (fun h2=>?_) fun h2=>?_
 ·refine Tr.some fun o=>?_
  refine ⟨?_,o.sub⟩
  unfold okS; rw [h1,h2]; rfl
 (repeat' first|refine Gu ?_|(with_reducible first|refine Gn fun b h=>?_|apply Gx|apply Gy|rintro px rfl|refine fun(h:H)=>?_|intro hb)|refine Gs ?_|refine Gt ?_|exact Gz rfl|fail)
 refine E70 0 rfl [int p.state,int p.parent,int p.group,int p.code,int p.pending,int p.mask,int p.ignored,int p.caught] (p.fds.map int) [] (by simp [D8]) 1 8 8 8 ⟨by simp [h8],by omega,by simp,by simp [D8],by omega,by omega⟩ ?_
 (try simp only[Nr,Nl,Nat.reduceAdd,Nat.reduceMul,Int.reduceToNat])
 have J:=Er7 (e:=B9) (slX false B9 1 (some ⟨b,8,none⟩) p.fds.length 8 ([int p.state,int p.parent,int p.group,int p.code,int p.pending,int p.mask,int p.ignored,int p.caught],[]) (p.fds.map int)) (some ⟨b,8,none⟩) false 8 p.fds Bb9 (fun f=>decide (f < 0) || decide (f > 12)) (by rw [h8]; simp [A8]) Hx8
 rw [h8] at J
 refine Tr.pcall (J) ?_; (try simp only[Nr,Nl,Nat.reduceAdd,Nat.reduceMul,Int.reduceToNat]); (repeat' first|refine Gu ?_|(with_reducible first|refine Gn fun b h=>?_|apply Gx|apply Gy|rintro px rfl|refine fun(h:H)=>?_|intro hb)|refine Gs ?_|refine Gt ?_|exact Gz rfl|fail)
 refine Ee3 0 rfl (D8 p) (by simp [D8]) ?_
 (try simp only[Nr,Nl,Nat.reduceAdd,Nat.reduceMul,Int.reduceToNat])
 cases h3:p.fds.any fun f=>decide (f < 0) || decide (f > 12) with
 | true =>
  (repeat' first|refine Gu ?_|(with_reducible first|refine Gn fun b h=>?_|apply Gx|apply Gy|rintro px rfl|refine fun(h:H)=>?_|intro hb)|refine Gs ?_|refine Gt ?_|exact Gz rfl|fail)
  refine Tr.some fun o=>?_
  refine ⟨?_,o.sub⟩
  unfold okS; rw [h1,h2,h3]; rfl
 | false =>
  (repeat' first|refine Gu ?_|(with_reducible first|refine Gn fun b h=>?_|apply Gx|apply Gy|rintro px rfl|refine fun(h:H)=>?_|intro hb)|refine Gs ?_|refine Gt ?_|exact Gz rfl|fail)
  have e:okS p = if p.state = 2 then p.pending == 0 && decide (p.fds = Gi4) else p.code == 0:=by unfold okS; rw [h1,h2,h3]; rfl
  rw [e]
  by_cases h4:p.state = 2
  ·refine Tr.condT (by simpa using h4) ?_
   rw [if_pos h4]
   (repeat' first|refine Gu ?_|(with_reducible first|refine Gn fun b h=>?_|apply Gx|apply Gy|rintro px rfl|refine fun(h:H)=>?_|intro hb)|refine Gs ?_|refine Gt ?_|exact Gz rfl|fail)
   rw [show ([int 0,int 0,int 0,int 0,int 0,int 0,int 0,int 0]:List Value) = Gi4.map int from rfl,eq8 _ _ h8 rfl]
   (repeat' first|refine Gu ?_|(with_reducible first|refine Gn fun b h=>?_|apply Gx|apply Gy|rintro px rfl|refine fun(h:H)=>?_|intro hb)|refine Gs ?_|refine Gt ?_|exact Gz rfl|fail)
   refine Tr.some fun o=>?_
   exact ⟨rfl,o.sub⟩
  ·refine Tr.condF (by simpa using h4) ?_
   rw [if_neg h4]
   (repeat' first|refine Gu ?_|(with_reducible first|refine Gn fun b h=>?_|apply Gx|apply Gy|rintro px rfl|refine fun(h:H)=>?_|intro hb)|refine Gs ?_|refine Gt ?_|exact Gz rfl|fail)
   refine Tr.some fun o=>?_
   exact ⟨rfl,o.sub⟩
theorem Hy5 (a:Option Addr) (c:Nat) (cs:List Value) (j:Nat) (n:Int) (hj:j + 2 ≤ cs.length) (hm:cs.length ≤ A8):Ct A7 Bb6 [.slice a cs.length c,int j,int n] [slC false A3 1 a cs.length c cs] fun v own =>
  (∃ ok,v = .bool ok) ∧ own [slC false A3 1 a cs.length c (if 0 ≤ n ∧ n ≤ 65535 then (cs.set j (.int .u8 ((b8 (n / 256)).toNat:Int))).set (j + 1) (.int .u8 ((b8 n).toNat:Int)) else cs)]:=by
 simp only [A8] at hm
 have e1:IntKind.wrap .i64 ((cs.length:Int) - 2) = (cs.length:Int) - 2:=by rw [A6]; omega
 have e2:IntKind.wrap .i64 ((j:Int) + 1) = ((j + 1:Nat):Int):=by rw [A6]; omega
 refine Ct.of Gk7 rfl fun h r=>Tr.eq (Gs3 ..) ?_; (try simp only[Nr,Nl,Nat.reduceAdd,Nat.reduceMul,Int.reduceToNat])
 rw [e1,e2]
 (repeat' first|refine Gu ?_|(with_reducible first|refine Gn fun b h=>?_|apply Gx|apply Gy|rintro px rfl|refine fun(h:H)=>?_|intro hb)|refine Gs ?_|refine Gt ?_|exact Gz rfl|fail)
 by_cases h:0 ≤ n ∧ n ≤ 65535
 ·refine Tr.condF (by simp; omega) ?_
  rw [if_pos h]
  (repeat' first|refine Gu ?_|(with_reducible first|refine Gn fun b h=>?_|apply Gx|apply Gy|rintro px rfl|refine fun(h:H)=>?_|intro hb)|refine Gs ?_|refine Gt ?_|exact Gz rfl|fail)
  rw [Int.toNat_natCast,show Int.fdiv n (2 ^ 8) = n / 256 by rw [Int.fdiv_eq_ediv_of_nonneg _ (by omega)]; rfl,Bc3,Bc3]
  (try simp only[Nr,Nl,Nat.reduceAdd,Nat.reduceMul,Int.reduceToNat])
  refine Tr.xVS (cs':=cs.set j (.int .u8 ((b8 (n / 256)).toNat:Int))) ⟨by omega,rfl,rfl⟩ fun h=>?_
  (repeat' first|refine Gu ?_|(with_reducible first|refine Gn fun b h=>?_|apply Gx|apply Gy|rintro px rfl|refine fun(h:H)=>?_|intro hb)|refine Gs ?_|refine Gt ?_|exact Gz rfl|fail)
  rw [Int.toNat_natCast]
  (try simp only[Nr,Nl,Nat.reduceAdd,Nat.reduceMul,Int.reduceToNat])
  refine Tr.xVS (cs':=(cs.set j (.int .u8 ((b8 (n / 256)).toNat:Int))).set (j + 1) (.int .u8 ((b8 n).toNat:Int))) ⟨by simp; omega,rfl,rfl⟩ fun h=>?_
  refine Tr.some fun o=>?_
  exact ⟨⟨_,rfl⟩,o.sub⟩
 ·refine Tr.condT (by simp; omega) ?_
  rw [if_neg h]
  refine Tr.some fun o=>?_
  exact ⟨⟨_,rfl⟩,o.sub⟩
theorem Dw2 (l:List UInt8) (j:Nat) (x:UInt8):(A0 l).set j (.int .u8 (x.toNat:Int)) = A0 (l.set j x):=by simp [A0,List.map_set]
theorem D46 (a:Option Addr) (c m:Nat) (l:List UInt8) (j:Nat) (n:Int) (hm:l.length = m) (hj:j + 2 ≤ m) (h1:l[j]? = some 0) (h2:l[j + 1]? = some 0) (hl:m ≤ A8):Ct A7 Bb6 [.slice a m c,int j,int n] [slC false A3 1 a m c (A0 l)] fun v own =>
  (∃ ok,v = .bool ok) ∧ own [slC false A3 1 a m c (A0 ((l.set j (hi2 n)).set (j + 1) (lo2 n)))]:=by
 subst hm
 have J:=Hy5 a c (A0 l) j n (by rw [Q1]; omega) (by rw [Q1]; omega)
 rw [Q1] at J
 have e:(if 0 ≤ n ∧ n ≤ 65535 then ((A0 l).set j (.int .u8 ((b8 (n / 256)).toNat:Int))).set (j + 1) (.int .u8 ((b8 n).toNat:Int)) else A0 l) = A0 ((l.set j (hi2 n)).set (j + 1) (lo2 n)):=by
  unfold hi2 lo2
  split
  ·rw [Dw2,Dw2]
  ·rw [D93 h1,D93 h2]
 rw [e] at J
 exact J
def two (l:List UInt8) (j:Nat):Int:=byI l j * 256 + byI l (j + 1)
theorem H22 (x y:UInt8):G65 .i64 (IntKind.wrap .i64 (IntKind.wrap .i64 (x.toNat:Int) * 2 ^ 8)) (IntKind.wrap .i64 (y.toNat:Int)) = (x.toNat:Int) * 256 + y.toNat:=by
 have hx:=x.toNat_lt; have hy:=y.toNat_lt
 have e1:IntKind.wrap .i64 (IntKind.wrap .i64 (x.toNat:Int) * 2 ^ 8) = ((x.toNat * 256:Nat):Int):=by rw [Ak0,A6]; omega
 rw [e1,Ak0]
 unfold G65
 have e0:IntKind.bits .i64 = 64:=rfl
 rw [e0,BitVec.ofInt_natCast,BitVec.ofInt_natCast,BitVec.toNat_or,BitVec.toNat_ofNat,BitVec.toNat_ofNat,Nat.mod_eq_of_lt (by omega),Nat.mod_eq_of_lt (by omega)]
 have e2:x.toNat * 256 ||| y.toNat = x.toNat * 256 + y.toNat:=by
  have:=Nat.two_pow_add_eq_or_of_lt (i:=8) (b:=y.toNat) (by omega) x.toNat
  rw [show 2 ^ 8 * x.toNat = x.toNat * 256 by omega] at this
  exact this.symm
 rw [e2,A6]; omega
theorem Ej1 (a:Option Addr) (c n:Nat) (l:List UInt8) (j:Nat) (hn:l.length = n) (hj:j + 2 ≤ n) (hm:n ≤ A8):CtP A7 Bu8 [.slice a n c,int j] [slC false A3 1 a n c (A0 l)] (.tuple ⟨[int (two l j),.bool true]⟩):=by
 simp only [A8] at hm
 have e1:IntKind.wrap .i64 ((n:Int) - 2) = (n:Int) - 2:=by rw [A6]; omega
 have e2:IntKind.wrap .i64 ((j:Int) + 1) = ((j + 1:Nat):Int):=by rw [A6]; omega
 refine CtP.of Gt1 rfl fun h r=>Tr.eq (Go4 ..) ?_; (try simp only[Nr,Nl,Nat.reduceAdd,Nat.reduceMul,Int.reduceToNat])
 rw [e1,e2]
 (repeat' first|refine Gu ?_|(with_reducible first|refine Gn fun b h=>?_|apply Gx|apply Gy|rintro px rfl|refine fun(h:H)=>?_|intro hb)|refine Gs ?_|refine Gt ?_|exact Gz rfl|fail)
 refine Tr.condF (by simp; omega) ?_
 (repeat' first|refine Gu ?_|(with_reducible first|refine Gn fun b h=>?_|apply Gx|apply Gy|rintro px rfl|refine fun(h:H)=>?_|intro hb)|refine Gs ?_|refine Gt ?_|exact Gz rfl|fail)
 rw [Int.toNat_natCast]
 (try simp only[Nr,Nl,Nat.reduceAdd,Nat.reduceMul,Int.reduceToNat])
 refine Tr.xIntS (v:=byI l j) (Aa8 (by omega)) ?_
 (repeat' first|refine Gu ?_|(with_reducible first|refine Gn fun b h=>?_|apply Gx|apply Gy|rintro px rfl|refine fun(h:H)=>?_|intro hb)|refine Gs ?_|refine Gt ?_|exact Gz rfl|fail)
 rw [Int.toNat_natCast]
 (try simp only[Nr,Nl,Nat.reduceAdd,Nat.reduceMul,Int.reduceToNat])
 refine Tr.xIntS (v:=byI l (j + 1)) (Aa8 (by omega)) ?_
 refine Tr.some fun o=>?_
 rw [H22]; exact ⟨rfl,rfl⟩
end Go.EQ

set_option maxRecDepth 10000
namespace Go.EQ
open Go Go.NN
theorem Hu7 (a:Option Addr) (c:Nat) (p:ProcS):Ct A7 L8 [.agg ⟨D8 p⟩,.slice a 24 c] [slC false A3 1 a 24 c (A0 (List.replicate 24 0))] fun v own=>v = .bool (okS p) ∧ own [slC false A3 1 a 24 c (A0 (if okS p then As0 p else List.replicate 24 0))]:=by
 refine Ct.of G6 rfl fun h r=>Tr.eq (Gx8 ..) ?_; (try simp only[Nr,Nl,Nat.reduceAdd,Nat.reduceMul,Int.reduceToNat])
 refine Tr.nw fun b1 h=>?_
 (repeat' first|refine Gu ?_|(with_reducible first|refine Gn fun b h=>?_|apply Gx|apply Gy|rintro px rfl|refine fun(h:H)=>?_|intro hb)|refine Gs ?_|refine Gt ?_|exact Gz rfl|fail)
 refine Tr.xCall (H19 p) ?_; rintro _ h ⟨rfl,o⟩ <;> (refine (?_:Tr _ _ _ _) o; (try simp only[Nr,Nl,Nat.reduceAdd,Nat.reduceMul,Int.reduceToNat]); (repeat' first|refine Gu ?_|(with_reducible first|refine Gn fun b h=>?_|apply Gx|apply Gy|rintro px rfl|refine fun(h:H)=>?_|intro hb)|refine Gs ?_|refine Gt ?_|exact Gz rfl|fail))
 cases hk:okS p with
 | false =>
  (repeat' first|refine Gu ?_|(with_reducible first|refine Gn fun b h=>?_|apply Gx|apply Gy|rintro px rfl|refine fun(h:H)=>?_|intro hb)|refine Gs ?_|refine Gt ?_|exact Gz rfl|fail)
  refine Tr.some fun o=>?_
  rw [if_neg (by simp)]
  exact ⟨rfl,o.sub⟩
 | true =>
  simp only [if_true]
  obtain ⟨st,pa,gr,co,pe,ma,ig,ca,fds,len⟩:=p
  match fds,len with
  | [f0,f1,f2,f3,f4,f5,f6,f7],len =>
  (repeat' first|refine Gu ?_|(with_reducible first|refine Gn fun b h=>?_|apply Gx|apply Gy|rintro px rfl|refine fun(h:H)=>?_|intro hb)|refine Gs ?_|refine Gt ?_|exact Gz rfl|fail)
  rename_i b2 h2
  refine Z6 2 rfl fun hl hc _=>?_
  simp only [List.map]
  refine Tr.jmp G6 (Tr.eq (A12 ..) ?_); (try simp only[Nr,Nl,wl,Nat.reduceAdd,Nat.reduceMul,Int.reduceToNat])
  (repeat' first|refine Gu ?_|(with_reducible first|refine Gn fun b h=>?_|apply Gx|apply Gy|rintro px rfl|refine fun(h:H)=>?_|intro hb)|refine Gs ?_|refine Gt ?_|exact Gz rfl|((with_reducible apply Gv);·rfl)|refine Tr.condT (by rfl) ?_|refine Tr.condF (by rfl) ?_|fail)
  refine Tr.jmp G6 (Tr.eq (A12 ..) ?_); (try simp only[Nr,Nl,wl,Nat.reduceAdd,Nat.reduceMul,Int.reduceToNat])
  (repeat' first|refine Gu ?_|(with_reducible first|refine Gn fun b h=>?_|apply Gx|apply Gy|rintro px rfl|refine fun(h:H)=>?_|intro hb)|refine Gs ?_|refine Gt ?_|exact Gz rfl|((with_reducible apply Gv);·rfl)|refine Tr.condT (by rfl) ?_|refine Tr.condF (by rfl) ?_|fail)
  refine Tr.jmp G6 (Tr.eq (A12 ..) ?_); (try simp only[Nr,Nl,wl,Nat.reduceAdd,Nat.reduceMul,Int.reduceToNat])
  (repeat' first|refine Gu ?_|(with_reducible first|refine Gn fun b h=>?_|apply Gx|apply Gy|rintro px rfl|refine fun(h:H)=>?_|intro hb)|refine Gs ?_|refine Gt ?_|exact Gz rfl|((with_reducible apply Gv);·rfl)|refine Tr.condT (by rfl) ?_|refine Tr.condF (by rfl) ?_|fail)
  refine Tr.jmp G6 (Tr.eq (A12 ..) ?_); (try simp only[Nr,Nl,wl,Nat.reduceAdd,Nat.reduceMul,Int.reduceToNat])
  (repeat' first|refine Gu ?_|(with_reducible first|refine Gn fun b h=>?_|apply Gx|apply Gy|rintro px rfl|refine fun(h:H)=>?_|intro hb)|refine Gs ?_|refine Gt ?_|exact Gz rfl|((with_reducible apply Gv);·rfl)|refine Tr.condT (by rfl) ?_|refine Tr.condF (by rfl) ?_|fail)
  refine Tr.jmp G6 (Tr.eq (A12 ..) ?_); (try simp only[Nr,Nl,wl,Nat.reduceAdd,Nat.reduceMul,Int.reduceToNat])
  (repeat' first|refine Gu ?_|(with_reducible first|refine Gn fun b h=>?_|apply Gx|apply Gy|rintro px rfl|refine fun(h:H)=>?_|intro hb)|refine Gs ?_|refine Gt ?_|exact Gz rfl|((with_reducible apply Gv);·rfl)|refine Tr.condT (by rfl) ?_|refine Tr.condF (by rfl) ?_|fail)
  simp only [Bc3,Dw2,List.replicate,List.set_cons_zero,List.set_cons_succ,Nat.mul_one]
  refine Tr.jmp G6 (Tr.eq (A06 ..) ?_); (try simp only[Nr,Nl,wl,Nat.reduceAdd,Nat.reduceMul,Int.reduceToNat])
  (repeat' first|refine Gu ?_|(with_reducible first|refine Gn fun b h=>?_|apply Gx|apply Gy|rintro px rfl|refine fun(h:H)=>?_|intro hb)|refine Gs ?_|refine Gt ?_|exact Gz rfl|((with_reducible apply Gv);·rfl)|refine Tr.condT (by rfl) ?_|refine Tr.condF (by rfl) ?_|fail)
  refine Tr.xCall (D46 (some px) c 24 [b8 st,b8 pa,b8 gr,b8 co,0,0,0,0,0,0,0,0,0,0,0,0,0,0,0,0,0,0,0,0] 4 pe rfl (by omega) rfl rfl (by simp [A8])) ?_; rintro _ h ⟨⟨_,rfl⟩,o⟩ <;> (refine (?_:Tr _ _ _ _) o; (try simp only[Nr,Nl,Nat.reduceAdd,Nat.reduceMul,Int.reduceToNat]); (repeat' first|refine Gu ?_|(with_reducible first|refine Gn fun b h=>?_|apply Gx|apply Gy|rintro px rfl|refine fun(h:H)=>?_|intro hb)|refine Gs ?_|refine Gt ?_|exact Gz rfl|fail))
  refine Tr.jmp G6 (Tr.eq (A06 ..) ?_); (try simp only[Nr,Nl,wl,Nat.reduceAdd,Nat.reduceMul,Int.reduceToNat])
  (repeat' first|refine Gu ?_|(with_reducible first|refine Gn fun b h=>?_|apply Gx|apply Gy|rintro px rfl|refine fun(h:H)=>?_|intro hb)|refine Gs ?_|refine Gt ?_|exact Gz rfl|((with_reducible apply Gv);·rfl)|refine Tr.condT (by rfl) ?_|refine Tr.condF (by rfl) ?_|fail)
  refine Tr.xCall (D46 (some px) c 24 [b8 st,b8 pa,b8 gr,b8 co,hi2 pe,lo2 pe,0,0,0,0,0,0,0,0,0,0,0,0,0,0,0,0,0,0] 6 ma rfl (by omega) rfl rfl (by simp [A8])) ?_; rintro _ h ⟨⟨_,rfl⟩,o⟩ <;> (refine (?_:Tr _ _ _ _) o; (try simp only[Nr,Nl,Nat.reduceAdd,Nat.reduceMul,Int.reduceToNat]); (repeat' first|refine Gu ?_|(with_reducible first|refine Gn fun b h=>?_|apply Gx|apply Gy|rintro px rfl|refine fun(h:H)=>?_|intro hb)|refine Gs ?_|refine Gt ?_|exact Gz rfl|fail))
  refine Tr.jmp G6 (Tr.eq (A06 ..) ?_); (try simp only[Nr,Nl,wl,Nat.reduceAdd,Nat.reduceMul,Int.reduceToNat])
  (repeat' first|refine Gu ?_|(with_reducible first|refine Gn fun b h=>?_|apply Gx|apply Gy|rintro px rfl|refine fun(h:H)=>?_|intro hb)|refine Gs ?_|refine Gt ?_|exact Gz rfl|((with_reducible apply Gv);·rfl)|refine Tr.condT (by rfl) ?_|refine Tr.condF (by rfl) ?_|fail)
  refine Tr.xCall (D46 (some px) c 24 [b8 st,b8 pa,b8 gr,b8 co,hi2 pe,lo2 pe,hi2 ma,lo2 ma,0,0,0,0,0,0,0,0,0,0,0,0,0,0,0,0] 8 ig rfl (by omega) rfl rfl (by simp [A8])) ?_; rintro _ h ⟨⟨_,rfl⟩,o⟩ <;> (refine (?_:Tr _ _ _ _) o; (try simp only[Nr,Nl,Nat.reduceAdd,Nat.reduceMul,Int.reduceToNat]); (repeat' first|refine Gu ?_|(with_reducible first|refine Gn fun b h=>?_|apply Gx|apply Gy|rintro px rfl|refine fun(h:H)=>?_|intro hb)|refine Gs ?_|refine Gt ?_|exact Gz rfl|fail))
  refine Tr.jmp G6 (Tr.eq (A06 ..) ?_); (try simp only[Nr,Nl,wl,Nat.reduceAdd,Nat.reduceMul,Int.reduceToNat])
  (repeat' first|refine Gu ?_|(with_reducible first|refine Gn fun b h=>?_|apply Gx|apply Gy|rintro px rfl|refine fun(h:H)=>?_|intro hb)|refine Gs ?_|refine Gt ?_|exact Gz rfl|((with_reducible apply Gv);·rfl)|refine Tr.condT (by rfl) ?_|refine Tr.condF (by rfl) ?_|fail)
  refine Tr.xCall (D46 (some px) c 24 [b8 st,b8 pa,b8 gr,b8 co,hi2 pe,lo2 pe,hi2 ma,lo2 ma,hi2 ig,lo2 ig,0,0,0,0,0,0,0,0,0,0,0,0,0,0] 10 ca rfl (by omega) rfl rfl (by simp [A8])) ?_; rintro _ h ⟨⟨_,rfl⟩,o⟩ <;> (refine (?_:Tr _ _ _ _) o; (try simp only[Nr,Nl,Nat.reduceAdd,Nat.reduceMul,Int.reduceToNat]); (repeat' first|refine Gu ?_|(with_reducible first|refine Gn fun b h=>?_|apply Gx|apply Gy|rintro px rfl|refine fun(h:H)=>?_|intro hb)|refine Gs ?_|refine Gt ?_|exact Gz rfl|fail))
  refine Tr.jmp G6 (Tr.eq (A06 ..) ?_); (try simp only[Nr,Nl,wl,Nat.reduceAdd,Nat.reduceMul,Int.reduceToNat])
  (repeat' first|refine Gu ?_|(with_reducible first|refine Gn fun b h=>?_|apply Gx|apply Gy|rintro px rfl|refine fun(h:H)=>?_|intro hb)|refine Gs ?_|refine Gt ?_|exact Gz rfl|((with_reducible apply Gv);·rfl)|refine Tr.condT (by rfl) ?_|refine Tr.condF (by rfl) ?_|fail)
  refine Tr.jmp G6 (Tr.eq (U8 ..) ?_); (try simp only[Nr,Nl,wl,Nat.reduceAdd,Nat.reduceMul,Int.reduceToNat])
  (repeat' first|refine Gu ?_|(with_reducible first|refine Gn fun b h=>?_|apply Gx|apply Gy|rintro px rfl|refine fun(h:H)=>?_|intro hb)|refine Gs ?_|refine Gt ?_|exact Gz rfl|((with_reducible apply Gv);·rfl)|refine Tr.condT (by rfl) ?_|refine Tr.condF (by rfl) ?_|fail)
  refine Tr.jmp G6 (Tr.eq (U8 ..) ?_); (try simp only[Nr,Nl,wl,Nat.reduceAdd,Nat.reduceMul,Int.reduceToNat])
  (repeat' first|refine Gu ?_|(with_reducible first|refine Gn fun b h=>?_|apply Gx|apply Gy|rintro px rfl|refine fun(h:H)=>?_|intro hb)|refine Gs ?_|refine Gt ?_|exact Gz rfl|((with_reducible apply Gv);·rfl)|refine Tr.condT (by rfl) ?_|refine Tr.condF (by rfl) ?_|fail)
  refine Tr.jmp G6 (Tr.eq (U8 ..) ?_); (try simp only[Nr,Nl,wl,Nat.reduceAdd,Nat.reduceMul,Int.reduceToNat])
  (repeat' first|refine Gu ?_|(with_reducible first|refine Gn fun b h=>?_|apply Gx|apply Gy|rintro px rfl|refine fun(h:H)=>?_|intro hb)|refine Gs ?_|refine Gt ?_|exact Gz rfl|((with_reducible apply Gv);·rfl)|refine Tr.condT (by rfl) ?_|refine Tr.condF (by rfl) ?_|fail)
  refine Tr.jmp G6 (Tr.eq (U8 ..) ?_); (try simp only[Nr,Nl,wl,Nat.reduceAdd,Nat.reduceMul,Int.reduceToNat])
  (repeat' first|refine Gu ?_|(with_reducible first|refine Gn fun b h=>?_|apply Gx|apply Gy|rintro px rfl|refine fun(h:H)=>?_|intro hb)|refine Gs ?_|refine Gt ?_|exact Gz rfl|((with_reducible apply Gv);·rfl)|refine Tr.condT (by rfl) ?_|refine Tr.condF (by rfl) ?_|fail)
  refine Tr.jmp G6 (Tr.eq (U8 ..) ?_); (try simp only[Nr,Nl,wl,Nat.reduceAdd,Nat.reduceMul,Int.reduceToNat])
  (repeat' first|refine Gu ?_|(with_reducible first|refine Gn fun b h=>?_|apply Gx|apply Gy|rintro px rfl|refine fun(h:H)=>?_|intro hb)|refine Gs ?_|refine Gt ?_|exact Gz rfl|((with_reducible apply Gv);·rfl)|refine Tr.condT (by rfl) ?_|refine Tr.condF (by rfl) ?_|fail)
  refine Tr.jmp G6 (Tr.eq (U8 ..) ?_); (try simp only[Nr,Nl,wl,Nat.reduceAdd,Nat.reduceMul,Int.reduceToNat])
  (repeat' first|refine Gu ?_|(with_reducible first|refine Gn fun b h=>?_|apply Gx|apply Gy|rintro px rfl|refine fun(h:H)=>?_|intro hb)|refine Gs ?_|refine Gt ?_|exact Gz rfl|((with_reducible apply Gv);·rfl)|refine Tr.condT (by rfl) ?_|refine Tr.condF (by rfl) ?_|fail)
  refine Tr.jmp G6 (Tr.eq (U8 ..) ?_); (try simp only[Nr,Nl,wl,Nat.reduceAdd,Nat.reduceMul,Int.reduceToNat])
  (repeat' first|refine Gu ?_|(with_reducible first|refine Gn fun b h=>?_|apply Gx|apply Gy|rintro px rfl|refine fun(h:H)=>?_|intro hb)|refine Gs ?_|refine Gt ?_|exact Gz rfl|((with_reducible apply Gv);·rfl)|refine Tr.condT (by rfl) ?_|refine Tr.condF (by rfl) ?_|fail)
  refine Tr.jmp G6 (Tr.eq (U8 ..) ?_); (try simp only[Nr,Nl,wl,Nat.reduceAdd,Nat.reduceMul,Int.reduceToNat])
  (repeat' first|refine Gu ?_|(with_reducible first|refine Gn fun b h=>?_|apply Gx|apply Gy|rintro px rfl|refine fun(h:H)=>?_|intro hb)|refine Gs ?_|refine Gt ?_|exact Gz rfl|((with_reducible apply Gv);·rfl)|refine Tr.condT (by rfl) ?_|refine Tr.condF (by rfl) ?_|fail)
  refine Tr.jmp G6 (Tr.eq (U8 ..) ?_); (try simp only[Nr,Nl,wl,Nat.reduceAdd,Nat.reduceMul,Int.reduceToNat])
  (repeat' first|refine Gu ?_|(with_reducible first|refine Gn fun b h=>?_|apply Gx|apply Gy|rintro px rfl|refine fun(h:H)=>?_|intro hb)|refine Gs ?_|refine Gt ?_|exact Gz rfl|((with_reducible apply Gv);·rfl)|refine Tr.condT (by rfl) ?_|refine Tr.condF (by rfl) ?_|fail)
  simp only [Bc3,Dw2,List.set_cons_zero,List.set_cons_succ,Nat.mul_one]
  rw [show (.int .u8 167:Value) = .int .u8 ((167:UInt8).toNat:Int) from rfl,Dw2]
  simp only [List.set_cons_zero,List.set_cons_succ]
  refine Tr.pcall (Ez0 (slC false A3 1 (some px) 24 c (A0 [b8 st,b8 pa,b8 gr,b8 co,hi2 pe,lo2 pe,hi2 ma,lo2 ma,hi2 ig,lo2 ig,hi2 ca,lo2 ca,b8 f0,b8 f1,b8 f2,b8 f3,b8 f4,b8 f5,b8 f6,b8 f7,167,0,0,0])) (some px) false 24 c c [b8 st,b8 pa,b8 gr,b8 co,hi2 pe,lo2 pe,hi2 ma,lo2 ma,hi2 ig,lo2 ig,hi2 ca,lo2 ca,b8 f0,b8 f1,b8 f2,b8 f3,b8 f4,b8 f5,b8 f6,b8 f7,167,0,0,0] 21 (by simp) (by simp [A8])) ?_
  (try simp only[Nr,Nl,Nat.reduceAdd,Nat.reduceMul,Int.reduceToNat])
  (repeat' first|refine Gu ?_|(with_reducible first|refine Gn fun b h=>?_|apply Gx|apply Gy|rintro px rfl|refine fun(h:H)=>?_|intro hb)|refine Gs ?_|refine Gt ?_|exact Gz rfl|fail)
  rw [Dg6]
  (repeat' first|refine Gu ?_|(with_reducible first|refine Gn fun b h=>?_|apply Gx|apply Gy|rintro px rfl|refine fun(h:H)=>?_|intro hb)|refine Gs ?_|refine Gt ?_|exact Gz rfl|((with_reducible apply Gv);·rfl)|refine Tr.condT (by rfl) ?_|refine Tr.condF (by rfl) ?_|fail)
  refine Tr.some fun o=>?_
  rw [Dw2] at o
  simp only [List.set_cons_zero,List.set_cons_succ] at o
  simp only [As0,Dz6,put2,List.map,List.cons_append,List.nil_append]
  exact ⟨trivial,o.sub⟩
abbrev Ew0 (k:Nat):HP:=pt k (.cells Bj2 false [int 24,.func (.func L8) ⟨[]⟩ ⟨[]⟩,.func (.func U2) ⟨[]⟩ ⟨[]⟩])
theorem Gz8 (k:Nat) (f:ProcS):Ct A7 S4 [P0 k,.agg ⟨D8 f⟩] [Ew0 k] fun v own=>(okS f = true ∧ ∃ a,v = .tuple ⟨[.slice a 24 24,.bool true]⟩ ∧ own [Ew0 k,slC false A3 1 a 24 24 (A0 (As0 f))]) ∨ (okS f = false ∧ v = .tuple ⟨[.slice none 0 0,.bool false]⟩ ∧ own [Ew0 k]):=by
 refine Ct.of Bw5 rfl fun h r=>Tr.eq (Bw6 ..) ?_; (try simp only[Nr,Nl,Nat.reduceAdd,Nat.reduceMul,Int.reduceToNat])
 (repeat' first|refine Gu ?_|(with_reducible first|refine Gn fun b h=>?_|apply Gx|apply Gy|rintro px rfl|refine fun(h:H)=>?_|intro hb)|refine Gs ?_|refine Gt ?_|exact Gz rfl|fail)
 refine Tr.ck ⟨by omega,by omega,by simp [A8]⟩ ?_
 refine Tr.nw fun b1 h=>?_
 rw [show G3 (Int.toNat 24) [.int .u8 0] = A0 (List.replicate 24 0) from rfl]
 refine Af9 0 rfl 1 24 rfl (by omega) ?_
 simp only [List.set_cons_zero]
 (try simp only[Nr,Nl,Nat.reduceAdd,Nat.reduceMul,Int.reduceToNat])
 (repeat' first|refine Gu ?_|(with_reducible first|refine Gn fun b h=>?_|rintro px rfl|refine fun(h:H)=>?_|intro hb)|refine Gs ?_|refine Gt ?_|exact Gz rfl|fail)
 refine Tr.bnd (Tr.condF rfl ?_)
 (repeat' first|refine Gu ?_|(with_reducible first|refine Gn fun b h=>?_|rintro px rfl|refine fun(h:H)=>?_|intro hb)|refine Gs ?_|refine Gt ?_|exact Gz rfl|fail)
 refine Tr.xCall (Hu7 (some ⟨b1,0,none⟩) 24 f) ?_; rintro _ h ⟨rfl,o⟩ <;> (refine (?_:Tr _ _ _ _) o; (try simp only[Nr,Nl,Nat.reduceAdd,Nat.reduceMul,Int.reduceToNat]); (repeat' first|refine Gu ?_|(with_reducible first|refine Gn fun b h=>?_|rintro px rfl|refine fun(h:H)=>?_|intro hb)|refine Gs ?_|refine Gt ?_|exact Gz rfl|fail))
 refine Tr.some fun o=>(?_:Tr _ _ _ _) o; (try simp only[Nr,Nl,Nat.reduceAdd,Nat.reduceMul,Int.reduceToNat])
 cases hk:okS f with
 | false =>
  (repeat' first|refine Gu ?_|(with_reducible first|refine Gn fun b h=>?_|apply Gx|apply Gy|rintro px rfl|refine fun(h:H)=>?_|intro hb)|refine Gs ?_|refine Gt ?_|exact Gz rfl|fail)
  refine Tr.some fun o=>?_
  exact .inr ⟨rfl,rfl,o.sub⟩
 | true =>
  (repeat' first|refine Gu ?_|(with_reducible first|refine Gn fun b h=>?_|apply Gx|apply Gy|rintro px rfl|refine fun(h:H)=>?_|intro hb)|refine Gs ?_|refine Gt ?_|exact Gz rfl|fail)
  refine Tr.some fun o=>?_
  simp only [if_true] at o
  exact .inl ⟨rfl,_,rfl,o.sub⟩
theorem Hw2:Ct A7 Al7 [int 24,.func (.func L8) ⟨[]⟩ ⟨[]⟩,.func (.func U2) ⟨[]⟩ ⟨[]⟩] [] fun v own=>∃ k,v = P0 k ∧ own [Ew0 k]:=by
 refine Ct.of D47 rfl fun h r=>Tr.eq (D42 ..) ?_; (try simp only[Nr,Nl,Nat.reduceAdd,Nat.reduceMul,Int.reduceToNat])
 rw [show mm2 false (mm2 true 24 0) 64 = 24 from rfl]
 (repeat' first|refine Gu ?_|(with_reducible first|refine Gn fun b h=>?_|apply Gx|apply Gy|rintro px rfl|refine fun(h:H)=>?_|intro hb)|refine Gs ?_|refine Gt ?_|exact Gz rfl|fail)
 refine Tr.some fun o=>?_
 exact ⟨_,rfl,o.sub⟩
theorem Gc2:Ct A7 A74 [] [] fun v own=>∃ k,v = P0 k ∧ own [Ew0 k]:=by
 refine Ct.of Gg5 rfl fun h r=>Tr.eq (Ge6 ..) ?_; (try simp only[Nr,Nl,Nat.reduceAdd,Nat.reduceMul,Int.reduceToNat])
 refine Tr.xCall (Hw2) ?_; rintro _ h ⟨k,rfl,o⟩ <;> (refine (?_:Tr _ _ _ _) o; (try simp only[Nr,Nl,Nat.reduceAdd,Nat.reduceMul,Int.reduceToNat]); (repeat' first|refine Gu ?_|(with_reducible first|refine Gn fun b h=>?_|apply Gx|apply Gy|rintro px rfl|refine fun(h:H)=>?_|intro hb)|refine Gs ?_|refine Gt ?_|exact Gz rfl|fail))
 refine Tr.some fun o=>?_
 exact ⟨_,rfl,o.sub⟩
theorem E12 (f:ProcS):Ct A7 A05 [.agg ⟨D8 f⟩] [] fun v own=>(okS f = true ∧ ∃ a,v = .tuple ⟨[.slice a 24 24,.bool true]⟩ ∧ own [slC false A3 1 a 24 24 (A0 (As0 f))]) ∨ (okS f = false ∧ v = .tuple ⟨[.slice none 0 0,.bool false]⟩ ∧ own []):=by
 refine Ct.of E47 rfl fun h r=>Tr.eq (E98 ..) ?_; (try simp only[Nr,Nl,Nat.reduceAdd,Nat.reduceMul,Int.reduceToNat])
 (repeat' first|refine Gu ?_|(with_reducible first|refine Gn fun b h=>?_|apply Gx|apply Gy|rintro px rfl|refine fun(h:H)=>?_|intro hb)|refine Gs ?_|refine Gt ?_|exact Gz rfl|fail)
 refine Tr.xCall (Gc2) ?_; rintro _ h ⟨k,rfl,o⟩ <;> (refine (?_:Tr _ _ _ _) o; (try simp only[Nr,Nl,Nat.reduceAdd,Nat.reduceMul,Int.reduceToNat]); (repeat' first|refine Gu ?_|(with_reducible first|refine Gn fun b h=>?_|rintro px rfl|refine fun(h:H)=>?_|intro hb)|refine Gs ?_|refine Gt ?_|exact Gz rfl|fail))
 refine Tr.xCall (Gz8 k f) ?_
 rintro v h (⟨hk,a,rfl,o⟩ | ⟨hk,rfl,o⟩)
 ·refine (?_:Tr _ _ _ _) o
  (try simp only[Nr,Nl,Nat.reduceAdd,Nat.reduceMul,Int.reduceToNat])
  (repeat' first|refine Gu ?_|(with_reducible first|refine Gn fun b h=>?_|apply Gx|apply Gy|rintro px rfl|refine fun(h:H)=>?_|intro hb)|refine Gs ?_|refine Gt ?_|exact Gz rfl|fail)
  refine Tr.some fun o=>?_
  exact .inl ⟨hk,a,rfl,o.sub⟩
 ·refine (?_:Tr _ _ _ _) o
  (try simp only[Nr,Nl,Nat.reduceAdd,Nat.reduceMul,Int.reduceToNat])
  (repeat' first|refine Gu ?_|(with_reducible first|refine Gn fun b h=>?_|apply Gx|apply Gy|rintro px rfl|refine fun(h:H)=>?_|intro hb)|refine Gs ?_|refine Gt ?_|exact Gz rfl|fail)
  refine Tr.some fun o=>?_
  exact .inr ⟨hk,rfl,o.sub⟩
def A85 (l:List UInt8):ProcS:=⟨byI l 0,byI l 1,byI l 2,byI l 3,two l 4,two l 6,two l 8,two l 10,[byI l 12,byI l 13,byI l 14,byI l 15,byI l 16,byI l 17,byI l 18,byI l 19],rfl⟩
def isS (l:List UInt8):Bool:=okS (A85 l) && decide (As0 (A85 l) = l)
theorem Hv9 (a:Option Addr) (c:Nat) (l:List UInt8) (hl:l.length = 24):Ct A7 U2 [.slice a 24 c] [slC false A3 1 a 24 c (A0 l)] fun v own=>v = .tuple ⟨[.agg ⟨D8 (A85 l)⟩,.bool (isS l)]⟩ ∧ own [slC false A3 1 a 24 c (A0 l)]:=by
 have key:∀ a1:Option Addr,CtP A7 B6 [.slice a1 24 24,.slice a 24 c] [slC false A3 1 a1 24 24 (A0 (As0 (A85 l))),slC false A3 1 a 24 c (A0 l)] (.bool (decide (As0 (A85 l) = l))):=fun a1=>by
  have e:=D07 (A85 l)
  have J:=Ec7 (slC false A3 1 a1 (As0 (A85 l)).length 24 (A0 (As0 (A85 l)))) (slC false A3 1 a l.length c (A0 l)) a1 false 24 a false c (As0 (A85 l)) l (by rw [e]; simp [A8])
  rwa [hl,e] at J
 refine Ct.of M0 rfl fun h r=>Tr.eq (G15 ..) ?_; (try simp only[Nr,Nl,Nat.reduceAdd,Nat.reduceMul,Int.reduceToNat])
 refine Tr.nw fun b1 h=>?_
 refine Z6 1 rfl fun hl2 hc2 _=>?_
 (repeat' first|refine Gu ?_|(with_reducible first|refine Gn fun b h=>?_|apply Gx|apply Gy|rintro px rfl|refine fun(h:H)=>?_|intro hb)|refine Gs ?_|refine Gt ?_|exact Gz rfl|fail)
 refine Tr.xIntS (v:=byI l 0) (Aa8 (by omega)) ?_
 (repeat' first|refine Gu ?_|(with_reducible first|refine Gn fun b h=>?_|apply Gx|apply Gy|rintro px rfl|refine fun(h:H)=>?_|intro hb)|refine Gs ?_|refine Gt ?_|exact Gz rfl|fail)
 refine Tr.xIntS (v:=byI l 1) (Aa8 (by omega)) ?_
 (repeat' first|refine Gu ?_|(with_reducible first|refine Gn fun b h=>?_|apply Gx|apply Gy|rintro px rfl|refine fun(h:H)=>?_|intro hb)|refine Gs ?_|refine Gt ?_|exact Gz rfl|fail)
 refine Tr.xIntS (v:=byI l 2) (Aa8 (by omega)) ?_
 (repeat' first|refine Gu ?_|(with_reducible first|refine Gn fun b h=>?_|apply Gx|apply Gy|rintro px rfl|refine fun(h:H)=>?_|intro hb)|refine Gs ?_|refine Gt ?_|exact Gz rfl|fail)
 refine Tr.xIntS (v:=byI l 3) (Aa8 (by omega)) ?_
 (repeat' first|refine Gu ?_|(with_reducible first|refine Gn fun b h=>?_|apply Gx|apply Gy|rintro px rfl|refine fun(h:H)=>?_|intro hb)|refine Gs ?_|refine Gt ?_|exact Gz rfl|fail)
 simp only [byI,Ak0]
 refine Tr.jmp M0 (Tr.eq (A10 ..) ?_); (try simp only[Nr,Nl,wl,Nat.reduceAdd,Nat.reduceMul,Int.reduceToNat])
 (repeat' first|refine Gu ?_|(with_reducible first|refine Gn fun b h=>?_|apply Gx|apply Gy|rintro px rfl|refine fun(h:H)=>?_|intro hb)|refine Gs ?_|refine Gt ?_|exact Gz rfl|((with_reducible apply Gv);·rfl)|refine Tr.condT (by rfl) ?_|refine Tr.condF (by rfl) ?_|fail)
 refine Tr.pcall (Ej1 (some px) c 24 l 4 hl (by omega) (by simp [A8])) ?_; (try simp only[Nr,Nl,Nat.reduceAdd,Nat.reduceMul,Int.reduceToNat]); (repeat' first|refine Gu ?_|(with_reducible first|refine Gn fun b h=>?_|apply Gx|apply Gy|rintro px rfl|refine fun(h:H)=>?_|intro hb)|refine Gs ?_|refine Gt ?_|exact Gz rfl|fail)
 refine Tr.jmp M0 (Tr.eq (A10 ..) ?_); (try simp only[Nr,Nl,wl,Nat.reduceAdd,Nat.reduceMul,Int.reduceToNat])
 (repeat' first|refine Gu ?_|(with_reducible first|refine Gn fun b h=>?_|apply Gx|apply Gy|rintro px rfl|refine fun(h:H)=>?_|intro hb)|refine Gs ?_|refine Gt ?_|exact Gz rfl|((with_reducible apply Gv);·rfl)|refine Tr.condT (by rfl) ?_|refine Tr.condF (by rfl) ?_|fail)
 refine Tr.pcall (Ej1 (some px) c 24 l 6 hl (by omega) (by simp [A8])) ?_; (try simp only[Nr,Nl,Nat.reduceAdd,Nat.reduceMul,Int.reduceToNat]); (repeat' first|refine Gu ?_|(with_reducible first|refine Gn fun b h=>?_|apply Gx|apply Gy|rintro px rfl|refine fun(h:H)=>?_|intro hb)|refine Gs ?_|refine Gt ?_|exact Gz rfl|fail)
 refine Tr.jmp M0 (Tr.eq (A10 ..) ?_); (try simp only[Nr,Nl,wl,Nat.reduceAdd,Nat.reduceMul,Int.reduceToNat])
 (repeat' first|refine Gu ?_|(with_reducible first|refine Gn fun b h=>?_|apply Gx|apply Gy|rintro px rfl|refine fun(h:H)=>?_|intro hb)|refine Gs ?_|refine Gt ?_|exact Gz rfl|((with_reducible apply Gv);·rfl)|refine Tr.condT (by rfl) ?_|refine Tr.condF (by rfl) ?_|fail)
 refine Tr.pcall (Ej1 (some px) c 24 l 8 hl (by omega) (by simp [A8])) ?_; (try simp only[Nr,Nl,Nat.reduceAdd,Nat.reduceMul,Int.reduceToNat]); (repeat' first|refine Gu ?_|(with_reducible first|refine Gn fun b h=>?_|apply Gx|apply Gy|rintro px rfl|refine fun(h:H)=>?_|intro hb)|refine Gs ?_|refine Gt ?_|exact Gz rfl|fail)
 refine Tr.jmp M0 (Tr.eq (A10 ..) ?_); (try simp only[Nr,Nl,wl,Nat.reduceAdd,Nat.reduceMul,Int.reduceToNat])
 (repeat' first|refine Gu ?_|(with_reducible first|refine Gn fun b h=>?_|apply Gx|apply Gy|rintro px rfl|refine fun(h:H)=>?_|intro hb)|refine Gs ?_|refine Gt ?_|exact Gz rfl|((with_reducible apply Gv);·rfl)|refine Tr.condT (by rfl) ?_|refine Tr.condF (by rfl) ?_|fail)
 refine Tr.pcall (Ej1 (some px) c 24 l 10 hl (by omega) (by simp [A8])) ?_; (try simp only[Nr,Nl,Nat.reduceAdd,Nat.reduceMul,Int.reduceToNat]); (repeat' first|refine Gu ?_|(with_reducible first|refine Gn fun b h=>?_|apply Gx|apply Gy|rintro px rfl|refine fun(h:H)=>?_|intro hb)|refine Gs ?_|refine Gt ?_|exact Gz rfl|fail)
 refine Tr.jmp M0 (Tr.eq (A10 ..) ?_); (try simp only[Nr,Nl,wl,Nat.reduceAdd,Nat.reduceMul,Int.reduceToNat])
 (repeat' first|refine Gu ?_|(with_reducible first|refine Gn fun b h=>?_|apply Gx|apply Gy|rintro px rfl|refine fun(h:H)=>?_|intro hb)|refine Gs ?_|refine Gt ?_|exact Gz rfl|((with_reducible apply Gv);·rfl)|refine Tr.condT (by rfl) ?_|refine Tr.condF (by rfl) ?_|fail)
 refine Tr.jmp M0 (Tr.eq (U4 ..) ?_); (try simp only[Nr,Nl,wl,Nat.reduceAdd,Nat.reduceMul,Int.reduceToNat])
 (repeat' first|refine Gu ?_|(with_reducible first|refine Gn fun b h=>?_|apply Gx|apply Gy|rintro px rfl|refine fun(h:H)=>?_|intro hb)|refine Gs ?_|refine Gt ?_|exact Gz rfl|((with_reducible apply Gv);·rfl)|refine Tr.condT (by rfl) ?_|refine Tr.condF (by rfl) ?_|fail)
 refine Tr.xIntS (v:=byI l 12) (Aa8 (by omega)) ?_
 (repeat' first|refine Gu ?_|(with_reducible first|refine Gn fun b h=>?_|apply Gx|apply Gy|rintro px rfl|refine fun(h:H)=>?_|intro hb)|refine Gs ?_|refine Gt ?_|exact Gz rfl|((with_reducible apply Gv);·rfl)|refine Tr.condT (by rfl) ?_|refine Tr.condF (by rfl) ?_|fail)
 simp only [byI,Ak0]
 refine Tr.jmp M0 (Tr.eq (U4 ..) ?_); (try simp only[Nr,Nl,wl,Nat.reduceAdd,Nat.reduceMul,Int.reduceToNat])
 (repeat' first|refine Gu ?_|(with_reducible first|refine Gn fun b h=>?_|apply Gx|apply Gy|rintro px rfl|refine fun(h:H)=>?_|intro hb)|refine Gs ?_|refine Gt ?_|exact Gz rfl|((with_reducible apply Gv);·rfl)|refine Tr.condT (by rfl) ?_|refine Tr.condF (by rfl) ?_|fail)
 refine Tr.xIntS (v:=byI l 13) (Aa8 (by omega)) ?_
 (repeat' first|refine Gu ?_|(with_reducible first|refine Gn fun b h=>?_|apply Gx|apply Gy|rintro px rfl|refine fun(h:H)=>?_|intro hb)|refine Gs ?_|refine Gt ?_|exact Gz rfl|((with_reducible apply Gv);·rfl)|refine Tr.condT (by rfl) ?_|refine Tr.condF (by rfl) ?_|fail)
 simp only [byI,Ak0]
 refine Tr.jmp M0 (Tr.eq (U4 ..) ?_); (try simp only[Nr,Nl,wl,Nat.reduceAdd,Nat.reduceMul,Int.reduceToNat])
 (repeat' first|refine Gu ?_|(with_reducible first|refine Gn fun b h=>?_|apply Gx|apply Gy|rintro px rfl|refine fun(h:H)=>?_|intro hb)|refine Gs ?_|refine Gt ?_|exact Gz rfl|((with_reducible apply Gv);·rfl)|refine Tr.condT (by rfl) ?_|refine Tr.condF (by rfl) ?_|fail)
 refine Tr.xIntS (v:=byI l 14) (Aa8 (by omega)) ?_
 (repeat' first|refine Gu ?_|(with_reducible first|refine Gn fun b h=>?_|apply Gx|apply Gy|rintro px rfl|refine fun(h:H)=>?_|intro hb)|refine Gs ?_|refine Gt ?_|exact Gz rfl|((with_reducible apply Gv);·rfl)|refine Tr.condT (by rfl) ?_|refine Tr.condF (by rfl) ?_|fail)
 simp only [byI,Ak0]
 refine Tr.jmp M0 (Tr.eq (U4 ..) ?_); (try simp only[Nr,Nl,wl,Nat.reduceAdd,Nat.reduceMul,Int.reduceToNat])
 (repeat' first|refine Gu ?_|(with_reducible first|refine Gn fun b h=>?_|apply Gx|apply Gy|rintro px rfl|refine fun(h:H)=>?_|intro hb)|refine Gs ?_|refine Gt ?_|exact Gz rfl|((with_reducible apply Gv);·rfl)|refine Tr.condT (by rfl) ?_|refine Tr.condF (by rfl) ?_|fail)
 refine Tr.xIntS (v:=byI l 15) (Aa8 (by omega)) ?_
 (repeat' first|refine Gu ?_|(with_reducible first|refine Gn fun b h=>?_|apply Gx|apply Gy|rintro px rfl|refine fun(h:H)=>?_|intro hb)|refine Gs ?_|refine Gt ?_|exact Gz rfl|((with_reducible apply Gv);·rfl)|refine Tr.condT (by rfl) ?_|refine Tr.condF (by rfl) ?_|fail)
 simp only [byI,Ak0]
 refine Tr.jmp M0 (Tr.eq (U4 ..) ?_); (try simp only[Nr,Nl,wl,Nat.reduceAdd,Nat.reduceMul,Int.reduceToNat])
 (repeat' first|refine Gu ?_|(with_reducible first|refine Gn fun b h=>?_|apply Gx|apply Gy|rintro px rfl|refine fun(h:H)=>?_|intro hb)|refine Gs ?_|refine Gt ?_|exact Gz rfl|((with_reducible apply Gv);·rfl)|refine Tr.condT (by rfl) ?_|refine Tr.condF (by rfl) ?_|fail)
 refine Tr.xIntS (v:=byI l 16) (Aa8 (by omega)) ?_
 (repeat' first|refine Gu ?_|(with_reducible first|refine Gn fun b h=>?_|apply Gx|apply Gy|rintro px rfl|refine fun(h:H)=>?_|intro hb)|refine Gs ?_|refine Gt ?_|exact Gz rfl|((with_reducible apply Gv);·rfl)|refine Tr.condT (by rfl) ?_|refine Tr.condF (by rfl) ?_|fail)
 simp only [byI,Ak0]
 refine Tr.jmp M0 (Tr.eq (U4 ..) ?_); (try simp only[Nr,Nl,wl,Nat.reduceAdd,Nat.reduceMul,Int.reduceToNat])
 (repeat' first|refine Gu ?_|(with_reducible first|refine Gn fun b h=>?_|apply Gx|apply Gy|rintro px rfl|refine fun(h:H)=>?_|intro hb)|refine Gs ?_|refine Gt ?_|exact Gz rfl|((with_reducible apply Gv);·rfl)|refine Tr.condT (by rfl) ?_|refine Tr.condF (by rfl) ?_|fail)
 refine Tr.xIntS (v:=byI l 17) (Aa8 (by omega)) ?_
 (repeat' first|refine Gu ?_|(with_reducible first|refine Gn fun b h=>?_|apply Gx|apply Gy|rintro px rfl|refine fun(h:H)=>?_|intro hb)|refine Gs ?_|refine Gt ?_|exact Gz rfl|((with_reducible apply Gv);·rfl)|refine Tr.condT (by rfl) ?_|refine Tr.condF (by rfl) ?_|fail)
 simp only [byI,Ak0]
 refine Tr.jmp M0 (Tr.eq (U4 ..) ?_); (try simp only[Nr,Nl,wl,Nat.reduceAdd,Nat.reduceMul,Int.reduceToNat])
 (repeat' first|refine Gu ?_|(with_reducible first|refine Gn fun b h=>?_|apply Gx|apply Gy|rintro px rfl|refine fun(h:H)=>?_|intro hb)|refine Gs ?_|refine Gt ?_|exact Gz rfl|((with_reducible apply Gv);·rfl)|refine Tr.condT (by rfl) ?_|refine Tr.condF (by rfl) ?_|fail)
 refine Tr.xIntS (v:=byI l 18) (Aa8 (by omega)) ?_
 (repeat' first|refine Gu ?_|(with_reducible first|refine Gn fun b h=>?_|apply Gx|apply Gy|rintro px rfl|refine fun(h:H)=>?_|intro hb)|refine Gs ?_|refine Gt ?_|exact Gz rfl|((with_reducible apply Gv);·rfl)|refine Tr.condT (by rfl) ?_|refine Tr.condF (by rfl) ?_|fail)
 simp only [byI,Ak0]
 refine Tr.jmp M0 (Tr.eq (U4 ..) ?_); (try simp only[Nr,Nl,wl,Nat.reduceAdd,Nat.reduceMul,Int.reduceToNat])
 (repeat' first|refine Gu ?_|(with_reducible first|refine Gn fun b h=>?_|apply Gx|apply Gy|rintro px rfl|refine fun(h:H)=>?_|intro hb)|refine Gs ?_|refine Gt ?_|exact Gz rfl|((with_reducible apply Gv);·rfl)|refine Tr.condT (by rfl) ?_|refine Tr.condF (by rfl) ?_|fail)
 refine Tr.xIntS (v:=byI l 19) (Aa8 (by omega)) ?_
 (repeat' first|refine Gu ?_|(with_reducible first|refine Gn fun b h=>?_|apply Gx|apply Gy|rintro px rfl|refine fun(h:H)=>?_|intro hb)|refine Gs ?_|refine Gt ?_|exact Gz rfl|((with_reducible apply Gv);·rfl)|refine Tr.condT (by rfl) ?_|refine Tr.condF (by rfl) ?_|fail)
 simp only [byI,Ak0]
 refine Tr.jmp M0 (Tr.eq (U4 ..) ?_); (try simp only[Nr,Nl,wl,Nat.reduceAdd,Nat.reduceMul,Int.reduceToNat])
 refine Tr.condF rfl ?_
 refine Tr.xAgg (xs:=D8 (A85 l)) ⟨Nat.le_of_ble_eq_true rfl,rfl⟩ ?_
 refine Tr.xCall (E12 (A85 l)) ?_
 rintro v h (⟨hk,a1,rfl,o⟩ | ⟨hk,rfl,o⟩)
 ·refine (?_:Tr _ _ _ _) o
  (try simp only[Nr,Nl,Nat.reduceAdd,Nat.reduceMul,Int.reduceToNat])
  refine Tr.dx ?_
  refine Tr.dx ?_
  refine Tr.dx ?_
  refine Tr.xAgg (xs:=D8 (A85 l)) ⟨Nat.le_of_ble_eq_true rfl,rfl⟩ ?_
  refine Tr.bnd (Tr.condT rfl ?_)
  refine Tr.pcall (key a1) ?_
  refine Tr.dx ?_
  refine Tr.xAgg (xs:=D8 (A85 l)) ⟨Nat.le_of_ble_eq_true rfl,rfl⟩ ?_
  (repeat' first|refine Gu ?_|(with_reducible first|refine Gn fun b h=>?_|apply Gx|apply Gy|rintro px rfl|refine fun(h:H)=>?_|intro hb)|refine Gs ?_|refine Gt ?_|exact Gz rfl|fail)
  refine Tr.some fun o=>(?_:Tr _ _ _ _) o; (try simp only[Nr,Nl,Nat.reduceAdd,Nat.reduceMul,Int.reduceToNat])
  (repeat' first|refine Gu ?_|(with_reducible first|refine Gn fun b h=>?_|apply Gx|apply Gy|rintro px rfl|refine fun(h:H)=>?_|intro hb)|refine Gs ?_|refine Gt ?_|exact Gz rfl|fail)
  refine Tr.some fun o=>?_
  exact ⟨by unfold isS; rw [hk,Bool.true_and],o.sub⟩
 ·refine (?_:Tr _ _ _ _) o
  (try simp only[Nr,Nl,Nat.reduceAdd,Nat.reduceMul,Int.reduceToNat])
  refine Tr.dx ?_
  refine Tr.dx ?_
  refine Tr.dx ?_
  refine Tr.xAgg (xs:=D8 (A85 l)) ⟨Nat.le_of_ble_eq_true rfl,rfl⟩ ?_
  (repeat' first|refine Gu ?_|(with_reducible first|refine Gn fun b h=>?_|apply Gx|apply Gy|rintro px rfl|refine fun(h:H)=>?_|intro hb)|refine Gs ?_|refine Gt ?_|exact Gz rfl|fail)
  refine Tr.some fun o=>?_
  exact ⟨by unfold isS; rw [hk]; rfl,o.sub⟩
theorem Gv8 (k:Nat) (a:Option Addr) (c:Nat) (l:List UInt8) (hl:l.length = 24):Ct A7 Q7 [P0 k,.slice a 24 c] [Ew0 k,slC false A3 1 a 24 c (A0 l)] fun v own=>v = .tuple ⟨[.agg ⟨D8 (if isS l then A85 l else .zero)⟩,.bool (isS l)]⟩ ∧ own [Ew0 k,slC false A3 1 a 24 c (A0 l)]:=by
 refine Ct.of Bw4 rfl fun h r=>Tr.eq (Bw3 ..) ?_; (try simp only[Nr,Nl,Nat.reduceAdd,Nat.reduceMul,Int.reduceToNat])
 (repeat' first|refine Gu ?_|(with_reducible first|refine Gn fun b h=>?_|apply Gx|apply Gy|rintro px rfl|refine fun(h:H)=>?_|intro hb)|refine Gs ?_|refine Gt ?_|exact Gz rfl|fail)
 refine Tr.condF rfl ?_
 (repeat' first|refine Gu ?_|(with_reducible first|refine Gn fun b h=>?_|rintro px rfl|refine fun(h:H)=>?_|intro hb)|refine Gs ?_|refine Gt ?_|exact Gz rfl|fail)
 refine Tr.xCall (Ed1 24 a c l hl (by simp [A8])) ?_; rintro _ h ⟨a1,c1,rfl,o⟩ <;> (refine (?_:Tr _ _ _ _) o; (try simp only[Nr,Nl,Nat.reduceAdd,Nat.reduceMul,Int.reduceToNat]); (repeat' first|refine Gu ?_|(with_reducible first|refine Gn fun b h=>?_|rintro px rfl|refine fun(h:H)=>?_|intro hb)|refine Gs ?_|refine Gt ?_|exact Gz rfl|fail))
 refine Tr.xCall (Hv9 a1 c1 l hl) ?_; rintro _ h ⟨rfl,o⟩ <;> (refine (?_:Tr _ _ _ _) o; (try simp only[Nr,Nl,Nat.reduceAdd,Nat.reduceMul,Int.reduceToNat]); (repeat' first|refine Gu ?_|(with_reducible first|refine Gn fun b h=>?_|rintro px rfl|refine fun(h:H)=>?_|intro hb)|refine Gs ?_|refine Gt ?_|exact Gz rfl|fail))
 cases hk:isS l with
 | false =>
  (repeat' first|refine Gu ?_|(with_reducible first|refine Gn fun b h=>?_|apply Gx|apply Gy|rintro px rfl|refine fun(h:H)=>?_|intro hb)|refine Gs ?_|refine Gt ?_|exact Gz rfl|fail)
  refine Tr.some fun o=>?_
  exact ⟨rfl,o.sub⟩
 | true =>
  (repeat' first|refine Gu ?_|(with_reducible first|refine Gn fun b h=>?_|apply Gx|apply Gy|rintro px rfl|refine fun(h:H)=>?_|intro hb)|refine Gs ?_|refine Gt ?_|exact Gz rfl|fail)
  refine Tr.some fun o=>?_
  exact ⟨rfl,o.sub⟩
def W9 (l:List UInt8):ProcS × Int:=if l.all (· == 0) then (.zero,0) else if isS l then (A85 l,1) else (.zero,2)
theorem Hb0 (a:Option Addr) (c:Nat) (l:List UInt8) (hl:l.length = 24):Ct A7 A16 [.slice a 24 c] [slC false A3 1 a 24 c (A0 l)] fun v own=>v = .tuple ⟨[.agg ⟨D8 (W9 l).1⟩,int (W9 l).2]⟩ ∧ own [slC false A3 1 a 24 c (A0 l)]:=by
 refine Ct.of E97 rfl fun h r=>Tr.eq (E80 ..) ?_; (try simp only[Nr,Nl,Nat.reduceAdd,Nat.reduceMul,Int.reduceToNat])
 refine Tr.nw fun b1 h=>?_
 refine Tr.bnd (Tr.condT rfl ?_)
 refine Tr.pcall (Ec3 24 a c l hl (by simp [A8])) ?_; (try simp only[Nr,Nl,Nat.reduceAdd,Nat.reduceMul,Int.reduceToNat]); (repeat' first|refine Gu ?_|(with_reducible first|refine Gn fun b h=>?_|rintro px rfl|refine fun(h:H)=>?_|intro hb)|refine Gs ?_|refine Gt ?_|exact Gz rfl|fail)
 refine Tr.some fun o=>(?_:Tr _ _ _ _) o; (try simp only[Nr,Nl,Nat.reduceAdd,Nat.reduceMul,Int.reduceToNat])
 cases hb:l.all (· == 0) with
 | true =>
  (repeat' first|refine Gu ?_|(with_reducible first|refine Gn fun b h=>?_|apply Gx|apply Gy|rintro px rfl|refine fun(h:H)=>?_|intro hb)|refine Gs ?_|refine Gt ?_|exact Gz rfl|fail)
  refine Tr.some fun o=>?_
  exact ⟨by unfold W9; rw [hb]; rfl,o.sub⟩
 | false =>
  (repeat' first|refine Gu ?_|(with_reducible first|refine Gn fun b h=>?_|rintro px rfl|refine fun(h:H)=>?_|intro hb)|refine Gs ?_|refine Gt ?_|exact Gz rfl|fail)
  refine Tr.xCall (Gc2) ?_; rintro _ h ⟨k,rfl,o⟩ <;> (refine (?_:Tr _ _ _ _) o; (try simp only[Nr,Nl,Nat.reduceAdd,Nat.reduceMul,Int.reduceToNat]); (repeat' first|refine Gu ?_|(with_reducible first|refine Gn fun b h=>?_|rintro px rfl|refine fun(h:H)=>?_|intro hb)|refine Gs ?_|refine Gt ?_|exact Gz rfl|fail))
  refine Tr.xCall (Gv8 k a c l hl) ?_; rintro _ h ⟨rfl,o⟩ <;> (refine (?_:Tr _ _ _ _) o; (try simp only[Nr,Nl,Nat.reduceAdd,Nat.reduceMul,Int.reduceToNat]); (repeat' first|refine Gu ?_|(with_reducible first|refine Gn fun b h=>?_|rintro px rfl|refine fun(h:H)=>?_|intro hb)|refine Gs ?_|refine Gt ?_|exact Gz rfl|fail))
  cases hk:isS l with
  | false =>
   (repeat' first|refine Gu ?_|(with_reducible first|refine Gn fun b h=>?_|apply Gx|apply Gy|rintro px rfl|refine fun(h:H)=>?_|intro hb)|refine Gs ?_|refine Gt ?_|exact Gz rfl|fail)
   refine Tr.some fun o=>?_
   exact ⟨by unfold W9; rw [hb,hk]; rfl,o.sub⟩
  | true =>
   (repeat' first|refine Gu ?_|(with_reducible first|refine Gn fun b h=>?_|apply Gx|apply Gy|rintro px rfl|refine fun(h:H)=>?_|intro hb)|refine Gs ?_|refine Gt ?_|exact Gz rfl|fail)
   refine Tr.some fun o=>?_
   exact ⟨by unfold W9; rw [hb,hk]; rfl,o.sub⟩
end Go.EQ

set_option maxRecDepth 10000
namespace Go.EQ
open Go Go.NN
def I4 (l:List UInt8) (a:Nat) (b:List UInt8):List UInt8:=l.take a ++ b ++ l.drop (a + b.length)
theorem Ac7 {l b:List UInt8} {a:Nat} (h:a + b.length ≤ l.length):(I4 l a b).length = l.length:=by simp [I4]; omega
theorem Bf1 {l b:List UInt8} {a:Nat} (h:a + b.length ≤ l.length) (i:Nat):(I4 l a b)[i]? = if a ≤ i ∧ i < a + b.length then b[i - a]? else l[i]?:=by
 unfold I4
 by_cases h1:i < a
 ·rw [if_neg (by omega),List.append_assoc,List.getElem?_append_left (by simp; omega),List.getElem?_take,if_pos h1]
 ·rw [List.append_assoc,List.getElem?_append_right (by simp; omega),List.length_take,Nat.min_eq_left (by omega)]
  by_cases h2:i < a + b.length
  ·rw [if_pos ⟨by omega,h2⟩,List.getElem?_append_left (by omega)]
  ·rw [if_neg (by omega),List.getElem?_append_right (by omega),List.getElem?_drop]; congr 1; omega
def slice (l:List UInt8) (a n:Nat):List UInt8:=(l.drop a).take n
theorem Bq0 (l:List UInt8) (a n i:Nat):(slice l a n)[i]? = if i < n then l[a + i]? else none:=by
 unfold slice; rw [List.getElem?_take]; split
 ·rw [List.getElem?_drop]
 ·rfl
theorem Ef7 {l:List UInt8} {a n:Nat} (h:a + n ≤ l.length):(slice l a n).length = n:=by simp [slice]; omega
abbrev Rg:=List (Nat × Nat)
def Ap0:List UInt8 → Rg → List (List UInt8) → List UInt8
 | l,(lo,_) :: rg,x :: m=>Ap0 (I4 l lo x) rg m
 | l,_,_=>l
structure Fit (size:Nat) (rg:Rg) (m:List (List UInt8)):Prop where
 len:m.length = rg.length
 each:∀ (j lo n:Nat),rg[j]? = some (lo,n) → lo + n ≤ size ∧ ∃ x,m[j]? = some x ∧ x.length = n
def RgOk (rg:Rg):Prop:=∀ (i j lo n lo' n':Nat),i ≠ j → rg[i]? = some (lo,n) → rg[j]? = some (lo',n') → lo + n ≤ lo' ∨ lo' + n' ≤ lo
theorem Fit.tail {size:Nat} {p:Nat × Nat} {rg:Rg} {x:List UInt8} {m:List (List UInt8)} (f:Fit size (p :: rg) (x :: m)):Fit size rg m:=⟨by simpa using f.len,fun j lo n h=>by simpa using f.each (j + 1) lo n (by simpa using h)⟩
theorem Fit.head {size lo n:Nat} {rg:Rg} {x:List UInt8} {m:List (List UInt8)} (f:Fit size ((lo,n) :: rg) (x :: m)):lo + n ≤ size ∧ x.length = n:=by
 obtain ⟨h,y,hy,hl⟩:=f.each 0 lo n rfl
 simp at hy; subst hy; exact ⟨h,hl⟩
theorem RgOk.tail {p:Nat × Nat} {rg:Rg} (k:RgOk (p :: rg)):RgOk rg:=fun i j lo n lo' n' hij hi hj=>k (i + 1) (j + 1) lo n lo' n' (by omega) (by simpa using hi) (by simpa using hj)
theorem Bz4:∀ {rg:Rg} {m:List (List UInt8)} {l:List UInt8},Fit l.length rg m → (Ap0 l rg m).length = l.length
 | [],m,l,f=>by simp [Ap0]
 | (lo,n) :: rg,[],l,f=>by simp [Ap0]
 | (lo,n) :: rg,x :: m,l,f=>by
  have h:=f.head
  have e:=Ac7 (l:=l) (b:=x) (a:=lo) (by omega)
  unfold Ap0
  rw [Bz4 (by rw [e]; exact f.tail),e]
theorem Dg7:∀ {rg:Rg} {m:List (List UInt8)} {l:List UInt8},Fit l.length rg m → ∀ i,(∀ (j lo n:Nat),rg[j]? = some (lo,n) → i < lo ∨ lo + n ≤ i) → (Ap0 l rg m)[i]? = l[i]?
 | [],m,l,f,i,h=>by simp [Ap0]
 | (lo,n) :: rg,[],l,f,i,h=>by simp [Ap0]
 | (lo,n) :: rg,x :: m,l,f,i,h=>by
  have h0:=f.head
  have e:=Ac7 (l:=l) (b:=x) (a:=lo) (by omega)
  unfold Ap0
  rw [Dg7 (by rw [e]; exact f.tail) i (fun j lo' n' hj=>h (j + 1) lo' n' (by simpa using hj)),Bf1 (by omega),if_neg]
  have:=h 0 lo n rfl; omega
theorem Bz6:∀ {rg:Rg} {m:List (List UInt8)} {l:List UInt8},Fit l.length rg m → RgOk rg → ∀ (j lo n:Nat) (x:List UInt8),rg[j]? = some (lo,n) → m[j]? = some x → ∀ i,i < n → (Ap0 l rg m)[lo + i]? = x[i]?
 | [],m,l,f,k,j,lo,n,x,h,hx,i,hi=>by simp at h
 | (lo0,n0) :: rg,[],l,f,k,j,lo,n,x,h,hx,i,hi=>by simp at hx
 | (lo0,n0) :: rg,x0 :: m,l,f,k,j,lo,n,x,h,hx,i,hi=>by
  have h0:=f.head
  have e:=Ac7 (l:=l) (b:=x0) (a:=lo0) (by omega)
  unfold Ap0
  cases j with
  | zero =>
   simp at h hx
   obtain ⟨rfl,rfl⟩:=h; subst hx
   rw [Dg7 (by rw [e]; exact f.tail) (lo0 + i) (fun j lo' n' hj=>by
    have:=k 0 (j + 1) lo0 n0 lo' n' (by omega) rfl (by simpa using hj)
    omega),Bf1 (by omega),if_pos (by omega)]
   congr 1; omega
  | succ j=>exact Bz6 (by rw [e]; exact f.tail) k.tail j lo n x (by simpa using h) (by simpa using hx) i hi
theorem Ex9 {rg:Rg} {m:List (List UInt8)} {l:List UInt8} (f:Fit l.length rg m) (k:RgOk rg) {j lo n:Nat} {x:List UInt8} (h:rg[j]? = some (lo,n)) (hx:m[j]? = some x) {a c:Nat} (hc:a + c ≤ n):slice (Ap0 l rg m) (lo + a) c = slice x a c:=by
 refine List.ext_getElem? fun i=>?_
 rw [Bq0,Bq0]
 split
 ·rw [Nat.add_assoc,Bz6 f k j lo n x h hx (a + i) (by omega)]
 ·rfl
theorem Fit.set {size:Nat} {rg:Rg} {m:List (List UInt8)} (f:Fit size rg m) {j lo n:Nat} (h:rg[j]? = some (lo,n)) {y:List UInt8} (hy:y.length = n):Fit size rg (m.set j y):=⟨by simpa using f.len,fun i lo' n' hi=>by
 obtain ⟨h1,z,hz,hl⟩:=f.each i lo' n' hi
 refine ⟨h1,?_⟩
 by_cases hij:j = i
 ·subst hij
  rw [h] at hi; cases hi
  exact ⟨y,by simp [(List.getElem?_eq_some_iff.1 hz).1],hy⟩
 ·exact ⟨z,by rw [List.getElem?_set_ne hij]; exact hz,hl⟩⟩
theorem Gz1 {rg:Rg} {m:List (List UInt8)} {l:List UInt8} (f:Fit l.length rg m) (k:RgOk rg) {j lo n:Nat} {x:List UInt8} (h:rg[j]? = some (lo,n)) (hx:m[j]? = some x) {a:Nat} {b:List UInt8} (hc:a + b.length ≤ n):I4 (Ap0 l rg m) (lo + a) b = Ap0 l rg (m.set j (I4 x a b)):=by
 obtain ⟨h1,y,hy,hl⟩:=f.each j lo n h
 rw [hx] at hy; cases hy
 have e:=Ac7 (l:=x) (b:=b) (a:=a) (by omega)
 have f2:=f.set h (y:=I4 x a b) (by omega)
 have lp:=Bz4 f
 refine List.ext_getElem? fun i=>?_
 rw [Bf1 (by omega)]
 by_cases hi:lo ≤ i ∧ i < lo + n
 ·obtain ⟨i',rfl⟩:∃ i',i = lo + i':=⟨i - lo,by omega⟩
  rw [Bz6 f2 k j lo n (I4 x a b) h (by simp [(List.getElem?_eq_some_iff.1 hx).1]) i' (by omega),Bf1 (by omega),Bz6 f k j lo n x h hx i' (by omega)]
  by_cases h2:a ≤ i' ∧ i' < a + b.length
  ·rw [if_pos (by omega),if_pos h2]; congr 1; omega
  ·rw [if_neg (by omega),if_neg h2]
 ·rw [if_neg (by omega)]
  by_cases ho:∃ (j' lo' n':Nat),rg[j']? = some (lo',n') ∧ lo' ≤ i ∧ i < lo' + n'
  ·obtain ⟨j',lo',n',hj',h3,h4⟩:=ho
   have hne:j ≠ j':=fun e=>by subst e; rw [h] at hj'; cases hj'; omega
   obtain ⟨_,z,hz,_⟩:=f.each j' lo' n' hj'
   obtain ⟨i',rfl⟩:∃ i',i = lo' + i':=⟨i - lo',by omega⟩
   rw [Bz6 f k j' lo' n' z hj' hz i' (by omega),Bz6 f2 k j' lo' n' z hj' (by rw [List.getElem?_set_ne hne]; exact hz) i' (by omega)]
  ·have hall:∀ (j' lo' n':Nat),rg[j']? = some (lo',n') → i < lo' ∨ lo' + n' ≤ i:=fun j' lo' n' hj'=>by
    by_cases hh:lo' ≤ i ∧ i < lo' + n'
    ·exact absurd ⟨j',lo',n',hj',hh.1,hh.2⟩ ho
    ·omega
   rw [Dg7 f i hall,Dg7 f2 i hall]
end Go.EQ

set_option maxRecDepth 10000
namespace Go.EQ
open Go Go.NN
structure RecS where
 kind:Int
 index:Int
deriving DecidableEq
abbrev V4 (r:RecS):List Value:=[int r.kind,int r.index]
structure Fr where
 S:KS
 N:Nat
 env:Int
 caps:List Int
 rg:Rg
structure FrOk (F:Fr):Prop where
 ok:KOk F.N F.S
 hN:F.N + 1 < 1000000000
 ne:0 < F.caps.length
 small:F.caps.length ≤ 40
 len:F.rg.length = F.caps.length
 env:¬ (F.env < 0 ∨ F.env ≥ (F.S.envs.length:Int))
 pl:∀ (j:Nat) (cap:Int) (lo n:Nat),F.caps[j]? = some cap → F.rg[j]? = some (lo,n) → ∀ (a m:Nat) (right:Int),right = 1 ∨ right = 2 → a + m ≤ n → N9 F.S.tabs F.S.regs F.env cap right a m = (((lo + a:Nat):Int),0)
 dj:RgOk F.rg
 own:∃ lo,F.rg[0]? = some (lo,492)
 brs:∀ (j lo n:Nat),0 < j → F.rg[j]? = some (lo,n) → n = 40
def Fr.at (F:Fr) (m:List (List UInt8)):KS:=Bk5 F.S (Ap0 F.S.mem F.rg m)
structure CX where
 m:List (List UInt8)
 bad:List RecS
def Ad9:Nat → List RecS → List MapEntry
 | _,[]=>[]
 | i,r :: l=>{ key:=.agg ⟨V4 r⟩,val:=int 1,born:=i } :: Ad9 (i + 1) l
abbrev H30 (c k:Nat) (env:Int) (caps:List Int) (bad:List RecS) (x:Option Addr × Nat × Nat):List HP :=
 [pt c (.cells B90 false [P0 k,int env,.slice x.1 caps.length x.2.1,.map (some x.2.2)]),slC false B2 1 x.1 caps.length x.2.1 (caps.map int),pt x.2.2 (.map (Ad9 0 bad) bad.length)]
def S8 (c k:Nat) (env:Int) (caps:List Int) (bad:List RecS):HP:=hex fun x=>sl (H30 c k env caps bad x)
instance {c k:Nat} {env:Int} {caps:List Int} {bad:List RecS}:Chk (S8 c k env caps bad) (H30 c k env caps bad):=⟨rfl⟩
abbrev cmF (c k:Nat) (F:Fr) (x:CX):List HP:=[B8 k (F.at x.m),S8 c k F.env F.caps x.bad,pu (Fit F.S.mem.length F.rg x.m)]
def cmC (c k:Nat) (F:Fr) (x:CX):HP:=hex fun _:Unit=>sl (cmF c k F x)
instance {c k:Nat} {F:Fr} {x:CX}:Chk (cmC c k F x) (fun _:Unit=>cmF c k F x):=⟨rfl⟩
def W2 (nc:Nat) (kind:Int):Int:=if kind = 1 then 8 else if kind = 2 then 12 else if kind = 3 then 3 + nc else 1
def G5 (nc:Nat) (r:RecS):Option (Nat × Nat × Nat) :=
 if r.index < 0 ∨ r.index ≥ W2 nc r.kind then none
 else if r.kind = 1 then some (0,24 * r.index.toNat,24)
 else if r.kind = 2 then some (0,192 + 8 * r.index.toNat,8)
 else if r.kind = 3 then if r.index < 4 then some (0,288 + 40 * r.index.toNat,40) else some (r.index.toNat - 3,0,40)
 else if r.kind = 4 then some (0,448,40)
 else some (0,488,4)
def Gt4 (caps:List Int):Option (Nat × Nat × Nat) → List Value
 | some (j,a,n)=>[int (caps.getD j 0),int a,int n]
 | none=>[int 0,int 0,int 0]
theorem Gr2 (c k:Nat) (env:Int) (caps:List Int) (bad:List RecS) (kind:Int) (hs:caps.length ≤ 40):CtP A7 W6 [P0 c,int kind] [S8 c k env caps bad] (int (W2 caps.length kind)):=by
 have e:IntKind.wrap .i64 (IntKind.wrap .i64 (4 + (caps.length:Int)) - 1) = 3 + (caps.length:Int):=by rw [A6,A6]; omega
 refine CtP.of Dq6 rfl fun h r=>Tr.eq (Dp4 ..) ?_; (try simp only[Nr,Nl,Nat.reduceAdd,Nat.reduceMul,Int.reduceToNat])
 refine B1 (S8 c k env caps bad) fun ⟨a,n,mb⟩=>?_; (try simp only[Nr,Nl,Nat.reduceAdd,Nat.reduceMul,Int.reduceToNat])
 unfold W2
 by_cases h1:kind = 1
 ·refine Tr.condT (by simpa using h1) ?_
  rw [if_pos h1]; (repeat' first|refine Gu ?_|(with_reducible first|refine Gn fun b h=>?_|apply Gx|apply Gy|rintro px rfl|refine fun(h:H)=>?_|intro hb)|refine Gs ?_|refine Gt ?_|exact Gz rfl|fail)
 refine Tr.condF (by simpa using h1) ?_
 rw [if_neg h1]
 by_cases h2:kind = 2
 ·refine Tr.condT (by simpa using h2) ?_
  rw [if_pos h2]; (repeat' first|refine Gu ?_|(with_reducible first|refine Gn fun b h=>?_|apply Gx|apply Gy|rintro px rfl|refine fun(h:H)=>?_|intro hb)|refine Gs ?_|refine Gt ?_|exact Gz rfl|fail)
 refine Tr.condF (by simpa using h2) ?_
 rw [if_neg h2]
 by_cases h3:kind = 3
 ·refine Tr.condT (by simpa using h3) ?_
  rw [if_pos h3]; (repeat' first|refine Gu ?_|(with_reducible first|refine Gn fun b h=>?_|apply Gx|apply Gy|rintro px rfl|refine fun(h:H)=>?_|intro hb)|refine Gs ?_|refine Gt ?_|exact Gz rfl|fail)
  refine Tr.some fun o=>?_
  rw [e]; exact ⟨by first | rfl | trivial,by first | rfl | trivial⟩
 refine Tr.condF (by simpa using h3) ?_
 rw [if_neg h3]; (repeat' first|refine Gu ?_|(with_reducible first|refine Gn fun b h=>?_|apply Gx|apply Gy|rintro px rfl|refine fun(h:H)=>?_|intro hb)|refine Gs ?_|refine Gt ?_|exact Gz rfl|fail)
theorem Ei4 (c k:Nat) (env:Int) (caps:List Int) (bad:List RecS) (rc:RecS) (hs:caps.length ≤ 40) (hn:0 < caps.length):Ct A7 O6 [P0 c,.agg ⟨V4 rc⟩] [S8 c k env caps bad] fun v own =>
  v = .tuple ⟨[.agg ⟨Gt4 caps (G5 caps.length rc)⟩,.bool (G5 caps.length rc).isSome]⟩ ∧ own [S8 c k env caps bad]:=by
 have hg:∀ j,j < caps.length → (caps.map int)[j]? = some (int (caps.getD j 0)):=fun j hj=>by rw [List.getElem?_map,L6 0 hj]; rfl
 refine Ct.of Dj9 rfl fun h r=>Tr.eq (Dj6 ..) ?_; (try simp only[Nr,Nl,Nat.reduceAdd,Nat.reduceMul,Int.reduceToNat])
 (repeat' first|refine Gu ?_|(with_reducible first|refine Gn fun b h=>?_|rintro px rfl|refine fun(h:H)=>?_|intro hb)|refine Gs ?_|refine Gt ?_|exact Gz rfl|fail)
 refine Tr.orG (c:=decide (rc.index ≥ W2 caps.length rc.kind)) (fun hb=>?_) ?_
 ·(repeat' first|refine Gu ?_|(with_reducible first|refine Gn fun b h=>?_|apply Gx|apply Gy|rintro px rfl|refine fun(h:H)=>?_|intro hb)|refine Gs ?_|refine Gt ?_|exact Gz rfl|fail)
  refine Tr.pcall (Gr2 c k env caps bad rc.kind hs) ?_; (try simp only[Nr,Nl,Nat.reduceAdd,Nat.reduceMul,Int.reduceToNat]); (repeat' first|refine Gu ?_|(with_reducible first|refine Gn fun b h=>?_|apply Gx|apply Gy|rintro px rfl|refine fun(h:H)=>?_|intro hb)|refine Gs ?_|refine Gt ?_|exact Gz rfl|fail)
 by_cases hi:rc.index < 0 ∨ rc.index ≥ W2 caps.length rc.kind
 ·refine Tr.condT (by simp only [Bool.or_eq_true,decide_eq_true_eq]; exact hi) ?_
  have e:G5 caps.length rc = none:=by unfold G5; rw [if_pos hi]
  rw [e]
  (repeat' first|refine Gu ?_|(with_reducible first|refine Gn fun b h=>?_|apply Gx|apply Gy|rintro px rfl|refine fun(h:H)=>?_|intro hb)|refine Gs ?_|refine Gt ?_|exact Gz rfl|fail)
  refine Tr.some fun o=>?_
  exact ⟨rfl,o.sub⟩
 refine Tr.condF (by simp only [Bool.or_eq_false_iff,decide_eq_false_iff_not]; omega) ?_
 refine B1 (S8 c k env caps bad) fun ⟨a,n,mb⟩=>?_; (try simp only[Nr,Nl,Nat.reduceAdd,Nat.reduceMul,Int.reduceToNat])
 (repeat' first|refine Gu ?_|(with_reducible first|refine Gn fun b h=>?_|apply Gx|apply Gy|rintro px rfl|refine fun(h:H)=>?_|intro hb)|refine Gs ?_|refine Gt ?_|exact Gz rfl|fail)
 refine Tr.xIntS (v:=caps.getD 0 0) (hg 0 hn) ?_
 (repeat' first|refine Gu ?_|(with_reducible first|refine Gn fun b h=>?_|apply Gx|apply Gy|rintro px rfl|refine fun(h:H)=>?_|intro hb)|refine Gs ?_|refine Gt ?_|exact Gz rfl|fail)
 by_cases h1:rc.kind = 1
 ·refine Tr.condT (by simpa using h1) ?_
  have e:G5 caps.length rc = some (0,24 * rc.index.toNat,24):=by unfold G5; rw [if_neg hi,if_pos h1]
  have hm:W2 caps.length rc.kind = 8:=by unfold W2; rw [if_pos h1]
  have e1:IntKind.wrap .i64 (24 * rc.index) = ((24 * rc.index.toNat:Nat):Int):=by rw [A6]; omega
  rw [e,e1]
  (repeat' first|refine Gu ?_|(with_reducible first|refine Gn fun b h=>?_|apply Gx|apply Gy|rintro px rfl|refine fun(h:H)=>?_|intro hb)|refine Gs ?_|refine Gt ?_|exact Gz rfl|fail)
  refine A9 (S8 c k env caps bad) ⟨some px,n,mb⟩ ?_; (try simp only[Nr,Nl,Nat.reduceAdd,Nat.reduceMul,Int.reduceToNat])
  refine Tr.some fun o=>?_
  exact ⟨rfl,o.sub⟩
 refine Tr.condF (by simpa using h1) ?_
 by_cases h2:rc.kind = 2
 ·(repeat' first|refine Gu ?_|(with_reducible first|refine Gn fun b h=>?_|apply Gx|apply Gy|rintro px rfl|refine fun(h:H)=>?_|intro hb)|refine Gs ?_|refine Gt ?_|exact Gz rfl|fail)
  refine Tr.condT (by simpa using h2) ?_
  have e:G5 caps.length rc = some (0,192 + 8 * rc.index.toNat,8):=by unfold G5; rw [if_neg hi,if_neg h1,if_pos h2]
  have hm:W2 caps.length rc.kind = 12:=by unfold W2; rw [if_neg h1,if_pos h2]
  have e1:IntKind.wrap .i64 (192 + IntKind.wrap .i64 (8 * rc.index)) = ((192 + 8 * rc.index.toNat:Nat):Int):=by rw [A6,A6]; omega
  rw [e,e1]
  (repeat' first|refine Gu ?_|(with_reducible first|refine Gn fun b h=>?_|apply Gx|apply Gy|rintro px rfl|refine fun(h:H)=>?_|intro hb)|refine Gs ?_|refine Gt ?_|exact Gz rfl|fail)
  refine A9 (S8 c k env caps bad) ⟨some px,n,mb⟩ ?_; (try simp only[Nr,Nl,Nat.reduceAdd,Nat.reduceMul,Int.reduceToNat])
  refine Tr.some fun o=>?_
  exact ⟨rfl,o.sub⟩
 (repeat' first|refine Gu ?_|(with_reducible first|refine Gn fun b h=>?_|apply Gx|apply Gy|rintro px rfl|refine fun(h:H)=>?_|intro hb)|refine Gs ?_|refine Gt ?_|exact Gz rfl|fail)
 refine Tr.condF (by simpa using h2) ?_
 (repeat' first|refine Gu ?_|(with_reducible first|refine Gn fun b h=>?_|rintro px rfl|refine fun(h:H)=>?_|intro hb)|refine Gs ?_|refine Gt ?_|exact Gz rfl|fail)
 refine Tr.andG (c:=decide (rc.index < 4)) (fun hb=>?_) ?_
 ·(repeat' first|refine Gu ?_|(with_reducible first|refine Gn fun b h=>?_|apply Gx|apply Gy|rintro px rfl|refine fun(h:H)=>?_|intro hb)|refine Gs ?_|refine Gt ?_|exact Gz rfl|fail)
 by_cases h3:rc.kind = 3
 ·have hm:W2 caps.length rc.kind = 3 + caps.length:=by unfold W2; rw [if_neg h1,if_neg h2,if_pos h3]
  by_cases h4:rc.index < 4
  ·refine Tr.condT (by simp [h3,h4]) ?_
   have e:G5 caps.length rc = some (0,288 + 40 * rc.index.toNat,40):=by unfold G5; rw [if_neg hi,if_neg h1,if_neg h2,if_pos h3,if_pos h4]
   have e1:IntKind.wrap .i64 (288 + IntKind.wrap .i64 (40 * rc.index)) = ((288 + 40 * rc.index.toNat:Nat):Int):=by rw [A6,A6]; omega
   rw [e,e1]
   (repeat' first|refine Gu ?_|(with_reducible first|refine Gn fun b h=>?_|apply Gx|apply Gy|rintro px rfl|refine fun(h:H)=>?_|intro hb)|refine Gs ?_|refine Gt ?_|exact Gz rfl|fail)
   refine A9 (S8 c k env caps bad) ⟨some px,n,mb⟩ ?_; (try simp only[Nr,Nl,Nat.reduceAdd,Nat.reduceMul,Int.reduceToNat])
   refine Tr.some fun o=>?_
   exact ⟨rfl,o.sub⟩
  ·refine Tr.condF (by simp [h4]) ?_
   have e:G5 caps.length rc = some (rc.index.toNat - 3,0,40):=by unfold G5; rw [if_neg hi,if_neg h1,if_neg h2,if_pos h3,if_neg h4]
   have e1:IntKind.wrap .i64 (IntKind.wrap .i64 (rc.index - 4) + 1) = ((rc.index.toNat - 3:Nat):Int):=by rw [A6,A6]; omega
   rw [e,e1]
   (repeat' first|refine Gu ?_|(with_reducible first|refine Gn fun b h=>?_|apply Gx|apply Gy|rintro px rfl|refine fun(h:H)=>?_|intro hb)|refine Gs ?_|refine Gt ?_|exact Gz rfl|fail)
   refine Tr.condT (by simpa using h3) ?_
   (repeat' first|refine Gu ?_|(with_reducible first|refine Gn fun b h=>?_|apply Gx|apply Gy|rintro px rfl|refine fun(h:H)=>?_|intro hb)|refine Gs ?_|refine Gt ?_|exact Gz rfl|fail)
   rw [Int.toNat_natCast]
   (try simp only[Nr,Nl,Nat.reduceAdd,Nat.reduceMul,Int.reduceToNat])
   refine Tr.xIntS (v:=caps.getD (rc.index.toNat - 3) 0) (hg _ (by omega)) ?_
   (repeat' first|refine Gu ?_|(with_reducible first|refine Gn fun b h=>?_|apply Gx|apply Gy|rintro px rfl|refine fun(h:H)=>?_|intro hb)|refine Gs ?_|refine Gt ?_|exact Gz rfl|fail)
   refine A9 (S8 c k env caps bad) ⟨some px,n,mb⟩ ?_; (try simp only[Nr,Nl,Nat.reduceAdd,Nat.reduceMul,Int.reduceToNat])
   refine Tr.some fun o=>?_
   exact ⟨rfl,o.sub⟩
 refine Tr.condF (by simp [h3]) ?_
 (repeat' first|refine Gu ?_|(with_reducible first|refine Gn fun b h=>?_|apply Gx|apply Gy|rintro px rfl|refine fun(h:H)=>?_|intro hb)|refine Gs ?_|refine Gt ?_|exact Gz rfl|fail)
 refine Tr.condF (by simpa using h3) ?_
 (repeat' first|refine Gu ?_|(with_reducible first|refine Gn fun b h=>?_|apply Gx|apply Gy|rintro px rfl|refine fun(h:H)=>?_|intro hb)|refine Gs ?_|refine Gt ?_|exact Gz rfl|fail)
 by_cases h4:rc.kind = 4
 ·refine Tr.condT (by simpa using h4) ?_
  have e:G5 caps.length rc = some (0,448,40):=by unfold G5; rw [if_neg hi,if_neg h1,if_neg h2,if_neg h3,if_pos h4]
  rw [e]
  (repeat' first|refine Gu ?_|(with_reducible first|refine Gn fun b h=>?_|apply Gx|apply Gy|rintro px rfl|refine fun(h:H)=>?_|intro hb)|refine Gs ?_|refine Gt ?_|exact Gz rfl|fail)
  refine A9 (S8 c k env caps bad) ⟨some px,n,mb⟩ ?_; (try simp only[Nr,Nl,Nat.reduceAdd,Nat.reduceMul,Int.reduceToNat])
  refine Tr.some fun o=>?_
  exact ⟨rfl,o.sub⟩
 refine Tr.condF (by simpa using h4) ?_
 have e:G5 caps.length rc = some (0,488,4):=by unfold G5; rw [if_neg hi,if_neg h1,if_neg h2,if_neg h3,if_neg h4]
 rw [e]
 (repeat' first|refine Gu ?_|(with_reducible first|refine Gn fun b h=>?_|apply Gx|apply Gy|rintro px rfl|refine fun(h:H)=>?_|intro hb)|refine Gs ?_|refine Gt ?_|exact Gz rfl|fail)
 refine A9 (S8 c k env caps bad) ⟨some px,n,mb⟩ ?_; (try simp only[Nr,Nl,Nat.reduceAdd,Nat.reduceMul,Int.reduceToNat])
 refine Tr.some fun o=>?_
 exact ⟨rfl,o.sub⟩
end Go.EQ

set_option maxRecDepth 10000
namespace Go.EQ
open Go Go.NN
theorem Hh1:Ag8 PR 8 D1 = some [TypeDesc.int .i64,TypeDesc.int .i64]:=by kernel_rfl
theorem Hx7:D21 PR D1 = some true:=by kernel_rfl
instance {a b:Int}:KeyC PR D1 (.agg ⟨[.int .i64 a,.int .i64 b]⟩):=⟨fun x=>by
 unfold NN.keyN; rw [Hh1,Hx7]; rfl⟩
theorem Ec6 (r:RecS):∀ (l:List RecS) (i j:Nat),Ae3 (.agg ⟨V4 r⟩) (Ad9 j l) i = some (if r ∈ l then some (i + l.idxOf r) else none)
 | [],i,j=>by simp [Ad9,Ae3]
 | q :: l,i,j=>by
  have ih:=Ec6 r l (i + 1) (j + 1)
  obtain ⟨qk,qi⟩:=q
  obtain ⟨rk,ri⟩:=r
  simp only [Ad9,Ae3,Ba4,V4,eqs,eq1,decide_true,List.mem_cons] at ih ⊢
  by_cases h:rk = qk ∧ ri = qi
  ·obtain ⟨rfl,rfl⟩:=h
   simp
  ·have e:(rk == qk && (ri == qi && true)) = false:=by
    rw [Bool.and_eq_false_iff]
    by_cases h1:rk = qk
    ·right; simp; intro h2; exact h ⟨h1,h2⟩
    ·left; simpa using h1
   have hne:¬ (({ kind:=rk,index:=ri }:RecS) = { kind:=qk,index:=qi }):=fun e=>by
    rw [RecS.mk.injEq] at e; exact h e
   rw [e]
   simp only [hne,false_or]
   rw [ih,List.idxOf_cons]
   have:(({ kind:=qk,index:=qi }:RecS) == { kind:=rk,index:=ri }) = false:=by
    rw [beq_eq_false_iff_ne]; exact fun e=>hne e.symm
   rw [this,cond_false]
   split <;> simp; omega
theorem De0:∀ (l:List RecS) (j:Nat),(Ad9 j l).length = l.length
 | [],_=>rfl
 | _ :: l,j=>by simp [Ad9,De0 l]
theorem Gl2:∀ (l:List RecS) (j i:Nat) (r:RecS),l[i]? = some r → (Ad9 j l)[i]? = some { key:=.agg ⟨V4 r⟩,val:=int 1,born:=j + i }
 | [],_,i,r,h=>by simp at h
 | q :: l,j,0,r,h=>by simp at h; subst h; rfl
 | q :: l,j,i + 1,r,h=>by
  have:=Gl2 l (j + 1) i r (by simpa using h)
  rw [Ad9,List.getElem?_cons_succ,this]; congr 2; omega
theorem Bp9 (r:RecS) (l:List RecS):Ai5 (int 0) (.agg ⟨V4 r⟩) (Ad9 0 l) = some (if r ∈ l then (int 1,true) else (int 0,false)):=by
 unfold Ai5
 rw [Ec6]
 by_cases h:r ∈ l
 ·rw [if_pos h,if_pos h]
  have hi:=List.idxOf_lt_length_of_mem h
  have hg:l[l.idxOf r]? = some r:=by rw [List.getElem?_eq_getElem hi,List.getElem_idxOf]
  simp only [Nat.zero_add]
  rw [Gl2 l 0 _ r hg]
 ·rw [if_neg h,if_neg h]
theorem Gl0:∀ (l m:List RecS) (j:Nat),Ad9 j (l ++ m) = Ad9 j l ++ Ad9 (j + l.length) m
 | [],m,j=>by simp [Ad9]
 | q :: l,m,j=>by simp only [List.cons_append,Ad9,Gl0 l m (j + 1),List.length_cons]; congr 2; congr 1; omega
theorem Dx0 {r:RecS} {l:List RecS} (h:¬ r ∈ l):Do6 (int 0) (.agg ⟨V4 r⟩) (Ad9 0 l) l.length = some (int 0,l.length,.map (Ad9 0 l ++ [{ key:=.agg ⟨V4 r⟩,val:=int 0,born:=l.length }]) (l.length + 1)):=by
 unfold Do6; rw [Ec6,if_neg h]
theorem Gb6 (r:RecS) (e:MapEntry):∀ (l:List RecS) (i j:Nat),¬ r ∈ l → Ae3 (.agg ⟨V4 r⟩) (Ad9 j l ++ [e]) i = Ae3 (.agg ⟨V4 r⟩) [e] (i + l.length)
 | [],i,j,h=>by simp [Ad9]
 | q :: l,i,j,h=>by
  have ih:=Gb6 r e l (i + 1) (j + 1) (fun hm=>h (List.mem_cons_of_mem _ hm))
  have hq:Ba4 (.agg ⟨V4 r⟩) (.agg ⟨V4 q⟩) = some false:=by
   obtain ⟨qk,qi⟩:=q
   obtain ⟨rk,ri⟩:=r
   simp only [Ba4,V4,eqs,eq1,decide_true]
   congr 1
   rw [Bool.and_eq_false_iff]
   by_cases h1:rk = qk
   ·right; simp; intro h2; exact h (by subst h1 h2; exact List.mem_cons_self ..)
   ·left; simpa using h1
  show (match Ba4 (.agg ⟨V4 r⟩) (.agg ⟨V4 q⟩) with
   | some true=>some (some i)
   | some false=>Ae3 (.agg ⟨V4 r⟩) (Ad9 (j + 1) l ++ [e]) (i + 1)
   | none=>none) = _
  rw [hq]
  simp only
  rw [ih]; congr 1; simp; omega
theorem Dn5 {r:RecS} {l:List RecS} (h:¬ r ∈ l):Ai5 (int 0) (.agg ⟨V4 r⟩) (Ad9 0 l ++ [{ key:=.agg ⟨V4 r⟩,val:=int 0,born:=l.length }]) = some (int 0,true):=by
 unfold Ai5
 rw [Gb6 r _ l 0 0 h]
 obtain ⟨rk,ri⟩:=r
 simp only [Ae3,Ba4,V4,eqs,eq1,decide_true,BEq.rfl,Bool.and_self,Nat.zero_add]
 rw [List.getElem?_append_right (by rw [De0]; exact Nat.le_refl _),De0]; simp
theorem B49:∀ (l:List RecS) (j:Nat) (n:Nat) (e:MapEntry) (i:Nat),e.born = n → j + l.length ≤ n → Be3 (n:Int) (Ad9 j l ++ [e]) i = some (i + l.length)
 | [],j,n,e,i,h,hl=>by simp [Ad9,Be3,h]
 | q :: l,j,n,e,i,h,hl=>by
  have ih:=B49 l (j + 1) n e (i + 1) h (by simp at hl; omega)
  simp only [Ad9,List.cons_append,Be3]
  have:(((j:Nat):Int) == (n:Int)) = false:=by simp at hl ⊢; omega
  rw [this,cond_false,ih]; congr 1; simp; omega
theorem Gc9 (f:MapEntry → MapEntry) (e:MapEntry):∀ (l:List MapEntry),modN f l.length (l ++ [e]) = l ++ [f e]
 | []=>rfl
 | q :: l=>by simp [modN,Gc9 f e l]
theorem D18 (r:RecS) (l:List RecS):modN (fun e=>{ e with val:=int (IntKind.wrap .i64 (0 + 1)) }) l.length (Ad9 0 l ++ [{ key:=.agg ⟨V4 r⟩,val:=int 0,born:=l.length }]) = Ad9 0 (l ++ [r]):=by
 rw [show l.length = (Ad9 0 l).length from (De0 l 0).symm,Gc9,Gl0]
 simp [Ad9,De0]; decide
end Go.EQ

set_option maxRecDepth 10000
namespace Go.EQ
open Go Go.NN
theorem Fr.mem_at (F:Fr) (m:List (List UInt8)):(F.at m).mem = Ap0 F.S.mem F.rg m:=rfl
theorem Fr.at_ok {F:Fr} (k:FrOk F) {m:List (List UInt8)} (f:Fit F.S.mem.length F.rg m):KOk F.N (F.at m):=by
 have:=k.ok
 exact ⟨this.envs,this.tabs,this.space,this.quota,by rw [Fr.mem_at,Bz4 f]; exact this.mem,this.regs,this.may,this.mayl,this.nsect,this.sects,this.now⟩
theorem Hm0 {F:Fr} (k:FrOk F) {r:RecS} {j a n:Nat} (h:G5 F.caps.length r = some (j,a,n)):∃ lo z,F.rg[j]? = some (lo,z) ∧ a + n ≤ z ∧ j < F.caps.length:=by
 obtain ⟨lo0,h0⟩:=k.own
 have hl:=k.len; have hn:=k.ne
 unfold G5 at h
 split at h; · cases h
 rename_i hi
 split at h
 ·rename_i h1
  have hm:W2 F.caps.length r.kind = 8:=by unfold W2; rw [if_pos h1]
  cases h; exact ⟨lo0,492,h0,by omega,hn⟩
 rename_i h1
 split at h
 ·rename_i h2
  have hm:W2 F.caps.length r.kind = 12:=by unfold W2; rw [if_neg h1,if_pos h2]
  cases h; exact ⟨lo0,492,h0,by omega,hn⟩
 rename_i h2
 split at h
 ·rename_i h3
  have hm:W2 F.caps.length r.kind = 3 + F.caps.length:=by unfold W2; rw [if_neg h1,if_neg h2,if_pos h3]
  split at h
  ·cases h; exact ⟨lo0,492,h0,by omega,hn⟩
  ·cases h
   have hlt:r.index.toNat - 3 < F.rg.length:=by omega
   have hg:=List.getElem?_eq_getElem hlt
   generalize hx:F.rg[r.index.toNat - 3] = x at hg
   obtain ⟨lo,z⟩:=x
   have:=k.brs _ lo z (by omega) hg
   exact ⟨lo,z,hg,by omega,by omega⟩
 split at h <;> (cases h; exact ⟨lo0,492,h0,by omega,hn⟩)
def Q8 (kind:Int):Nat:=if kind = 1 then 24 else if kind = 2 then 8 else if kind = 3 then 40 else if kind = 4 then 40 else 4
theorem B96 {nc:Nat} {r:RecS} {j a n:Nat} (h:G5 nc r = some (j,a,n)):n = Q8 r.kind:=by
 unfold G5 at h; unfold Q8
 split at h; · cases h
 split at h
 ·rename_i h1; cases h; rw [if_pos h1]
 rename_i h1
 rw [if_neg h1]
 split at h
 ·rename_i h2; cases h; rw [if_pos h2]
 rename_i h2
 rw [if_neg h2]
 split at h
 ·rename_i h3; rw [if_pos h3]; split at h <;> (cases h; rfl)
 rename_i h3
 rw [if_neg h3]
 split at h
 ·rename_i h4; cases h; rw [if_pos h4]
 ·rename_i h4; cases h; rw [if_neg h4]
def rdX (X:CX) (r:RecS):Option (List UInt8) :=
 match G5 X.m.length r with
 | some (j,a,n)=>if r ∈ X.bad then none else some (slice (X.m.getD j []) a n)
 | none=>none
def wrX (X:CX) (r:RecS) (b:List UInt8) (ok:Bool):Bool × CX :=
 match G5 X.m.length r with
 | some (j,a,n)=>if ok = true ∧ ¬ r ∈ X.bad then (true,{ X with m:=X.m.set j (I4 (X.m.getD j []) a b) }) else (false,X)
 | none=>(false,X)
theorem Fit.mlen {F:Fr} (k:FrOk F) {m:List (List UInt8)} (f:Fit F.S.mem.length F.rg m):m.length = F.caps.length:=by rw [f.len,k.len]
theorem D41 {F:Fr} (k:FrOk F) {m:List (List UInt8)} (f:Fit F.S.mem.length F.rg m) {r:RecS} {j a n:Nat} (h:G5 F.caps.length r = some (j,a,n)) :
  ∃ lo z cap,F.caps[j]? = some cap ∧ F.rg[j]? = some (lo,z) ∧ a + n ≤ z ∧ m[j]? = some (m.getD j []) ∧ (m.getD j []).length = z ∧ lo + z ≤ F.S.mem.length ∧ cap = F.caps.getD j 0:=by
 obtain ⟨lo,z,hr,ha,hj⟩:=Hm0 k h
 obtain ⟨h1,x,hx,hl⟩:=f.each j lo z hr
 have e:m.getD j [] = x:=by rw [List.getD_eq_getElem?_getD,hx]; rfl
 exact ⟨lo,z,F.caps.getD j 0,L6 0 hj,hr,ha,by rw [e]; exact hx,by rw [e]; exact hl,h1,rfl⟩
theorem Hy7 {F:Fr} (k:FrOk F) {X:CX} (f:Fit F.S.mem.length F.rg X.m) {r:RecS} {l:List UInt8} (h:rdX X r = some l):l.length = Q8 r.kind:=by
 unfold rdX at h
 rw [f.mlen k] at h
 cases hp:G5 F.caps.length r with
 | none=>rw [hp] at h; cases h
 | some p =>
  obtain ⟨j,a,n⟩:=p
  rw [hp] at h
  obtain ⟨lo,z,cap,_,_,ha,hx,hl,_⟩:=D41 k f hp
  simp only at h
  split at h
  ·cases h
  ·cases h; rw [Ef7 (by omega),B96 hp]
theorem H32 {F:Fr} (k:FrOk F) {m:List (List UInt8)} (f:Fit F.S.mem.length F.rg m) {r:RecS} {j a n:Nat} (h:G5 F.caps.length r = some (j,a,n)) :
  V5 (F.at m) F.env ⟨1,F.caps.getD j 0,(a:Int),(n:Int),0,0,[]⟩ = ((0,0,slice (m.getD j []) a n),F.at m):=by
 obtain ⟨lo,z,cap,hc,hr,ha,hx,hl,hz,rfl⟩:=D41 k f h
 have hp:=k.pl j _ lo z hc hr a n 1 (.inl rfl) ha
 have lp:=Bz4 f
 have hb:B20 (Ap0 F.S.mem F.rg m) ((lo + a:Nat):Int) (n:Int) = some (slice (m.getD j []) a n):=by
  unfold B20
  rw [if_pos (by rw [lp]; omega),Int.toNat_natCast,Int.toNat_natCast]
  rw [← Ex9 f k.dj hr hx ha]; rfl
 have e:Am2 (F.at m).tabs (F.at m).regs (F.at m).mem F.env (F.caps.getD j 0) (a:Int) (n:Int) = (slice (m.getD j []) a n,0):=by
  unfold Am2
  rw [show N9 (F.at m).tabs (F.at m).regs F.env (F.caps.getD j 0) 1 (a:Int) (n:Int) = (((lo + a:Nat):Int),0) from hp]
  rw [if_neg (by simp),show B20 (F.at m).mem _ _ = _ from hb]
 unfold V5
 rw [if_neg (show ¬ (F.env < 0 ∨ F.env ≥ ((F.at m).envs.length:Int)) from k.env)]
 unfold kDo
 rw [if_pos rfl,e]
theorem H13 {F:Fr} (k:FrOk F) {m:List (List UInt8)} (f:Fit F.S.mem.length F.rg m) {r:RecS} {j a n:Nat} (h:G5 F.caps.length r = some (j,a,n)) {b:List UInt8} (hb:b.length = n) :
  V5 (F.at m) F.env ⟨2,F.caps.getD j 0,(a:Int),0,0,0,b⟩ = ((0,0,[]),F.at (m.set j (I4 (m.getD j []) a b))):=by
 obtain ⟨lo,z,cap,hc,hr,ha,hx,hl,hz,rfl⟩:=D41 k f h
 have hp:=k.pl j _ lo z hc hr a n 2 (.inr rfl) ha
 have lp:=Bz4 f
 have hs:A62 (Ap0 F.S.mem F.rg m) ((lo + a:Nat):Int) b = some (Ap0 F.S.mem F.rg (m.set j (I4 (m.getD j []) a b))):=by
  unfold A62
  rw [if_pos (by rw [lp]; omega),Int.toNat_natCast]
  rw [← Gz1 f k.dj hr hx (by omega)]; rfl
 have e:Ah9 (F.at m).tabs (F.at m).regs (F.at m).mem F.env (F.caps.getD j 0) (a:Int) b = (0,Ap0 F.S.mem F.rg (m.set j (I4 (m.getD j []) a b))):=by
  unfold Ah9
  rw [hb,show N9 (F.at m).tabs (F.at m).regs F.env (F.caps.getD j 0) 2 (a:Int) (n:Int) = (((lo + a:Nat):Int),0) from hp]
  rw [if_neg (by simp),show A62 (F.at m).mem _ _ = _ from hs]
 unfold V5
 rw [if_neg (show ¬ (F.env < 0 ∨ F.env ≥ ((F.at m).envs.length:Int)) from k.env)]
 unfold kDo
 rw [if_neg (show ¬ ((2:Int) = 1) by decide),if_pos rfl,e]; rfl
theorem Hy9 {F:Fr} (k:FrOk F) {X:CX} (f:Fit F.S.mem.length F.rg X.m) {r:RecS} {b:List UInt8} {ok:Bool} (hb:ok = true → b.length = Q8 r.kind):Fit F.S.mem.length F.rg (wrX X r b ok).2.m:=by
 unfold wrX
 rw [f.mlen k]
 cases hp:G5 F.caps.length r with
 | none=>exact f
 | some p =>
  obtain ⟨j,a,n⟩:=p
  obtain ⟨lo,z,cap,hc,hr,ha,hx,hl,hz,_⟩:=D41 k f hp
  simp only
  split
  ·rename_i hk
   exact f.set hr (by rw [Ac7 (by rw [hb hk.1,← B96 hp]; omega)]; exact hl)
  ·exact f
instance {caps:List Int} {o:Option (Nat × Nat × Nat)}:LenC (Gt4 caps o) 3:=⟨by cases o <;> rfl⟩
theorem Hq6 (caps:List Int) (o:Option (Nat × Nat × Nat)):(Gt4 caps o).all Value.oneCell = true:=by cases o <;> rfl
instance {caps:List Int} {o:Option (Nat × Nat × Nat)} {cs:List Value} [k:LenC cs 3]:SetsC cs 0 (Gt4 caps o) (Gt4 caps o):=⟨Bq1 k.ok LenC.ok (Hq6 caps o)⟩
instance {rc:RecS}:PartC (V4 rc) 0 2 (V4 rc):=⟨rfl⟩
theorem G44 (r:RecS) (l:List RecS):(if r ∈ l then (int 1,true) else (int 0,false)) = (int (if r ∈ l then 1 else 0),decide (r ∈ l)):=by split <;> simp [*]
theorem G46 (r:RecS) (l:List RecS):decide ((if r ∈ l then (1:Int) else 0) > 0) = decide (r ∈ l):=by split <;> simp [*]
theorem Dt8 (k:Nat) (S:KS) (N:Nat) (ok:KOk N S) (hN:N + 1 < 1000000000) (env:Int) (c:CallS) (ba:Option Addr) (bc:Nat) (ro:Bool) (h5:c.op ≠ 5) :
  Ct A7 P5 [P0 k,int env,.agg ⟨Be6 c ba bc⟩] [B8 k S,slC ro A3 1 ba c.b.length bc (A0 c.b)] fun v own=>∃ x d,v = .agg ⟨[int (V5 S env c).1.1,int (V5 S env c).1.2.1,.slice x (V5 S env c).1.2.2.length d]⟩ ∧
    own [slC false A3 1 x (V5 S env c).1.2.2.length d (A0 (V5 S env c).1.2.2),B8 k (V5 S env c).2,slC ro A3 1 ba c.b.length bc (A0 c.b)]:=by
 intro h r o
 obtain ⟨pq,o1⟩:=Own.ex (f:=fun pq=>slX ro A3 1 ba c.b.length bc pq (A0 c.b)) (o.perm (.swap _ _ _))
 obtain ⟨v,h',e,x,d,rfl,o2⟩:=Hk6 k S N ok hN env c ba bc ro pq h5 h r (o1.perm (.swap _ _ _))
 refine ⟨_,h',e,x,d,rfl,?_⟩
 have o3:=o2.picks [2] rfl
 exact (Own.inex (f:=fun pq=>slX ro A3 1 ba c.b.length bc pq (A0 c.b)) pq o3).picks [1,1,0] rfl
theorem D04 (c k:Nat) (F:Fr) (X:CX) (rc:RecS) (ok:FrOk F):Ct A7 M8 [P0 c,.agg ⟨V4 rc⟩] [cmC c k F X] fun v own =>
  (∃ l a cp,rdX X rc = some l ∧ l.length = Q8 rc.kind ∧ v = .tuple ⟨[.slice a l.length cp,.bool true]⟩ ∧ own [slC false A3 1 a l.length cp (A0 l),cmC c k F X]) ∨
  (rdX X rc = none ∧ v = .tuple ⟨[.slice none 0 0,.bool false]⟩ ∧ own [cmC c k F X]):=by
 refine Ct.of Dp0 rfl fun h r=>Tr.eq (Dq4 ..) ?_; (try simp only[Nr,Nl,Nat.reduceAdd,Nat.reduceMul,Int.reduceToNat])
 refine B1 (cmC c k F X) fun u=>?_; (try simp only[Nr,Nl,Nat.reduceAdd,Nat.reduceMul,Int.reduceToNat])
 refine J5 2 rfl fun f=>?_
 (repeat' first|refine Gu ?_|(with_reducible first|refine Gn fun b h=>?_|apply Gx|apply Gy|rintro px rfl|refine fun(h:H)=>?_|intro hb)|refine Gs ?_|refine Gt ?_|exact Gz rfl|fail)
 refine Tr.xCall (Ei4 c k F.env F.caps X.bad rc ok.small ok.ne) ?_; rintro _ h ⟨rfl,o⟩ <;> (refine (?_:Tr _ _ _ _) o; (try simp only[Nr,Nl,Nat.reduceAdd,Nat.reduceMul,Int.reduceToNat]); (repeat' first|refine Gu ?_|(with_reducible first|refine Gn fun b h=>?_|rintro px rfl|refine fun(h:H)=>?_|intro hb)|refine Gs ?_|refine Gt ?_|exact Gz rfl|fail))
 have em:=f.mlen ok
 cases hp:G5 F.caps.length rc with
 | none =>
  (repeat' first|refine Gu ?_|(with_reducible first|refine Gn fun b h=>?_|rintro px rfl|refine fun(h:H)=>?_|intro hb)|refine Gs ?_|refine Gt ?_|exact Gz rfl|fail)
  refine Tr.bnd (Tr.condT rfl ?_)
  refine Tr.some fun o=>(?_:Tr _ _ _ _) o; (try simp only[Nr,Nl,Nat.reduceAdd,Nat.reduceMul,Int.reduceToNat])
  (repeat' first|refine Gu ?_|(with_reducible first|refine Gn fun b h=>?_|apply Gx|apply Gy|rintro px rfl|refine fun(h:H)=>?_|intro hb)|refine Gs ?_|refine Gt ?_|exact Gz rfl|fail)
  refine A9 (cmC c k F X) () ?_; (try simp only[Nr,Nl,Nat.reduceAdd,Nat.reduceMul,Int.reduceToNat])
  refine Tr.some fun o=>?_
  exact .inr ⟨by unfold rdX; rw [em,hp],rfl,o.sub⟩
 | some p =>
  obtain ⟨j,a,n⟩:=p
  refine B1 (S8 c k F.env F.caps X.bad) fun ⟨ca,cn,mb⟩=>?_; (try simp only[Nr,Nl,Nat.reduceAdd,Nat.reduceMul,Int.reduceToNat])
  (repeat' first|refine Gu ?_|(with_reducible first|refine Gn fun b h=>?_|rintro px rfl|refine fun(h:H)=>?_|intro hb)|refine Gs ?_|refine Gt ?_|exact Gz rfl|fail)
  refine Tr.orG (c:=decide (rc ∈ X.bad)) (fun _=>?_) ?_
  ·(repeat' first|refine Gu ?_|(with_reducible first|refine Gn fun b h=>?_|apply Gx|apply Gy|rintro px rfl|refine fun(h:H)=>?_|intro hb)|refine Gs ?_|refine Gt ?_|exact Gz rfl|fail)
   rw [Bp9,G44]
   (repeat' first|refine Gu ?_|(with_reducible first|refine Gn fun b h=>?_|apply Gx|apply Gy|rintro px rfl|refine fun(h:H)=>?_|intro hb)|refine Gs ?_|refine Gt ?_|exact Gz rfl|fail)
   refine Tr.some fun o=>?_
   rw [G46]; exact ⟨by first | rfl | trivial,by first | rfl | trivial⟩
  by_cases hb:rc ∈ X.bad
  ·rw [decide_eq_true hb]
   (repeat' first|refine Gu ?_|(with_reducible first|refine Gn fun b h=>?_|apply Gx|apply Gy|rintro px rfl|refine fun(h:H)=>?_|intro hb)|refine Gs ?_|refine Gt ?_|exact Gz rfl|fail)
   refine A9 (S8 c k F.env F.caps X.bad) ⟨ca,cn,mb⟩ ?_; (try simp only[Nr,Nl,Nat.reduceAdd,Nat.reduceMul,Int.reduceToNat])
   refine A9 (cmC c k F X) () ?_; (try simp only[Nr,Nl,Nat.reduceAdd,Nat.reduceMul,Int.reduceToNat])
   refine Tr.some fun o=>?_
   exact .inr ⟨by unfold rdX; rw [em,hp]; exact if_pos hb,rfl,o.sub⟩
  ·rw [decide_eq_false hb]
   refine Tr.condF rfl ?_
   (repeat' first|refine Gu ?_|(with_reducible first|refine Gn fun b h=>?_|apply Gx|apply Gy|rintro px rfl|refine fun(h:H)=>?_|intro hb)|refine Gs ?_|refine Gt ?_|exact Gz rfl|fail)
   refine A9 (S8 c k F.env F.caps X.bad) ⟨ca,cn,mb⟩ ?_; (try simp only[Nr,Nl,Nat.reduceAdd,Nat.reduceMul,Int.reduceToNat])
   have J:=Hw9 k (F.at X.m) F.N (F.at_ok ok f) ok.hN F.env 1 (F.caps.getD j 0) (a:Int) (n:Int) 0 0 (by decide)
   rw [H32 ok f hp] at J
   refine Tr.xCall (J) ?_; rintro _ h ⟨y,d,rfl,o⟩ <;> (refine (?_:Tr _ _ _ _) o; (try simp only[Nr,Nl,Nat.reduceAdd,Nat.reduceMul,Int.reduceToNat]); (repeat' first|refine Gu ?_|(with_reducible first|refine Gn fun b h=>?_|apply Gx|apply Gy|rintro px rfl|refine fun(h:H)=>?_|intro hb)|refine Gs ?_|refine Gt ?_|exact Gz rfl|fail))
   refine Tr.condF rfl ?_
   (repeat' first|refine Gu ?_|(with_reducible first|refine Gn fun b h=>?_|apply Gx|apply Gy|rintro px rfl|refine fun(h:H)=>?_|intro hb)|refine Gs ?_|refine Gt ?_|exact Gz rfl|fail)
   refine A9 (cmC c k F X) () ?_; (try simp only[Nr,Nl,Nat.reduceAdd,Nat.reduceMul,Int.reduceToNat])
   refine Tr.some fun o=>?_
   have e:rdX X rc = some (slice (X.m.getD j []) a n):=by unfold rdX; rw [em,hp]; exact if_neg hb
   exact .inl ⟨_,y,d,e,Hy7 ok f e,rfl,o.sub⟩
theorem B58 (c k:Nat) (F:Fr) (X:CX) (rc:RecS) (ok:FrOk F) (bs:List UInt8) (g:Bool) (ba:Option Addr) (bc:Nat) (hb:g = true → bs.length = Q8 rc.kind) :
  Ct A7 J9 [P0 c,.agg ⟨V4 rc⟩,.slice ba bs.length bc,.bool g] [cmC c k F X,slC false A3 1 ba bs.length bc (A0 bs)] fun v own =>
   v = .bool (wrX X rc bs g).1 ∧ own [cmC c k F (wrX X rc bs g).2,slC false A3 1 ba bs.length bc (A0 bs)]:=by
 refine Ct.of Dj7 rfl fun h r=>Tr.eq (Dk0 ..) ?_; (try simp only[Nr,Nl,Nat.reduceAdd,Nat.reduceMul,Int.reduceToNat])
 refine B1 (cmC c k F X) fun u=>?_; (try simp only[Nr,Nl,Nat.reduceAdd,Nat.reduceMul,Int.reduceToNat])
 refine J5 2 rfl fun f=>?_
 (repeat' first|refine Gu ?_|(with_reducible first|refine Gn fun b h=>?_|apply Gx|apply Gy|rintro px rfl|refine fun(h:H)=>?_|intro hb)|refine Gs ?_|refine Gt ?_|exact Gz rfl|fail)
 refine Tr.xCall (Ei4 c k F.env F.caps X.bad rc ok.small ok.ne) ?_; rintro _ h ⟨rfl,o⟩ <;> (refine (?_:Tr _ _ _ _) o; (try simp only[Nr,Nl,Nat.reduceAdd,Nat.reduceMul,Int.reduceToNat]); (repeat' first|refine Gu ?_|(with_reducible first|refine Gn fun b h=>?_|rintro px rfl|refine fun(h:H)=>?_|intro hb)|refine Gs ?_|refine Gt ?_|exact Gz rfl|fail))
 have em:=f.mlen ok
 cases hp:G5 F.caps.length rc with
 | none =>
  (repeat' first|refine Gu ?_|(with_reducible first|refine Gn fun b h=>?_|rintro px rfl|refine fun(h:H)=>?_|intro hb)|refine Gs ?_|refine Gt ?_|exact Gz rfl|fail)
  refine Tr.bnd (Tr.condT rfl ?_)
  refine Tr.some fun o=>(?_:Tr _ _ _ _) o; (try simp only[Nr,Nl,Nat.reduceAdd,Nat.reduceMul,Int.reduceToNat])
  refine Tr.bnd (Tr.condT rfl ?_)
  refine Tr.some fun o=>(?_:Tr _ _ _ _) o; (try simp only[Nr,Nl,Nat.reduceAdd,Nat.reduceMul,Int.reduceToNat])
  (repeat' first|refine Gu ?_|(with_reducible first|refine Gn fun b h=>?_|apply Gx|apply Gy|rintro px rfl|refine fun(h:H)=>?_|intro hb)|refine Gs ?_|refine Gt ?_|exact Gz rfl|fail)
  refine A9 (cmC c k F X) () ?_; (try simp only[Nr,Nl,Nat.reduceAdd,Nat.reduceMul,Int.reduceToNat])
  refine Tr.some fun o=>?_
  have e:wrX X rc bs g = (false,X):=by unfold wrX; rw [em,hp]
  rw [e]
  exact ⟨by first | rfl | trivial,o.sub⟩
 | some p =>
  obtain ⟨j,a,n⟩:=p
  refine B1 (S8 c k F.env F.caps X.bad) fun ⟨ca,cn,mb⟩=>?_; (try simp only[Nr,Nl,Nat.reduceAdd,Nat.reduceMul,Int.reduceToNat])
  (repeat' first|refine Gu ?_|(with_reducible first|refine Gn fun b h=>?_|rintro px rfl|refine fun(h:H)=>?_|intro hb)|refine Gs ?_|refine Gt ?_|exact Gz rfl|fail)
  refine Tr.bnd (Tr.condF rfl ?_)
  refine Tr.some fun o=>(?_:Tr _ _ _ _) o; (try simp only[Nr,Nl,Nat.reduceAdd,Nat.reduceMul,Int.reduceToNat])
  (repeat' first|refine Gu ?_|(with_reducible first|refine Gn fun b h=>?_|rintro px rfl|refine fun(h:H)=>?_|intro hb)|refine Gs ?_|refine Gt ?_|exact Gz rfl|fail)
  refine Tr.orG (c:=decide (rc ∈ X.bad)) (fun _=>?_) ?_
  ·(repeat' first|refine Gu ?_|(with_reducible first|refine Gn fun b h=>?_|apply Gx|apply Gy|rintro px rfl|refine fun(h:H)=>?_|intro hb)|refine Gs ?_|refine Gt ?_|exact Gz rfl|fail)
   rw [Bp9,G44]
   (repeat' first|refine Gu ?_|(with_reducible first|refine Gn fun b h=>?_|apply Gx|apply Gy|rintro px rfl|refine fun(h:H)=>?_|intro hb)|refine Gs ?_|refine Gt ?_|exact Gz rfl|fail)
   refine Tr.some fun o=>?_
   rw [G46]; exact ⟨by first | rfl | trivial,by first | rfl | trivial⟩
  by_cases hg:g = true ∧ ¬ rc ∈ X.bad
  ·have e:wrX X rc bs g = (true,{ X with m:=X.m.set j (I4 (X.m.getD j []) a bs) }):=by unfold wrX; rw [em,hp]; exact if_pos hg
   have f2:=Hy9 (r:=rc) (b:=bs) (ok:=g) ok f hb
   rw [e] at f2
   obtain ⟨rfl,hg2⟩:=hg
   rw [e,decide_eq_false hg2]
   refine Tr.condF rfl ?_
   (repeat' first|refine Gu ?_|(with_reducible first|refine Gn fun b h=>?_|apply Gx|apply Gy|rintro px rfl|refine fun(h:H)=>?_|intro hb)|refine Gs ?_|refine Gt ?_|exact Gz rfl|fail)
   refine A9 (S8 c k F.env F.caps X.bad) ⟨ca,cn,mb⟩ ?_; (try simp only[Nr,Nl,Nat.reduceAdd,Nat.reduceMul,Int.reduceToNat])
   have hl:bs.length = n:=by rw [hb rfl,B96 hp]
   have J:=Dt8 k (F.at X.m) F.N (F.at_ok ok f) ok.hN F.env ⟨2,F.caps.getD j 0,(a:Int),0,0,0,bs⟩ ba bc false (show ((2:Int) ≠ 5) by decide)
   rw [H13 ok f hp hl] at J
   refine Tr.xCall (J) ?_; rintro _ h ⟨y,d,rfl,o⟩ <;> (refine (?_:Tr _ _ _ _) o; (try simp only[Nr,Nl,Nat.reduceAdd,Nat.reduceMul,Int.reduceToNat]); (repeat' first|refine Gu ?_|(with_reducible first|refine Gn fun b h=>?_|apply Gx|apply Gy|rintro px rfl|refine fun(h:H)=>?_|intro hb)|refine Gs ?_|refine Gt ?_|exact Gz rfl|fail))
   refine Al2 (show Fit F.S.mem.length F.rg (X.m.set j (I4 (X.m.getD j []) a bs)) from f2) ?_
   refine A9 (cmC c k F { X with m:=X.m.set j (I4 (X.m.getD j []) a bs) }) () ?_; (try simp only[Nr,Nl,Nat.reduceAdd,Nat.reduceMul,Int.reduceToNat])
   refine Tr.some fun o=>?_
   exact ⟨rfl,o.sub⟩
  ·have e:wrX X rc bs g = (false,X):=by unfold wrX; rw [em,hp]; exact if_neg hg
   rw [e]
   refine Tr.condT ?_ ?_
   ·cases g with
    | false=>rfl
    | true=>simpa using hg
   refine A9 (S8 c k F.env F.caps X.bad) ⟨ca,cn,mb⟩ ?_; (try simp only[Nr,Nl,Nat.reduceAdd,Nat.reduceMul,Int.reduceToNat])
   refine A9 (cmC c k F X) () ?_; (try simp only[Nr,Nl,Nat.reduceAdd,Nat.reduceMul,Int.reduceToNat])
   refine Tr.some fun o=>?_
   exact ⟨by first | rfl | trivial,o.sub⟩
end Go.EQ

set_option maxRecDepth 10000
namespace Go.EQ
open Go Go.NN
def S6 {α:Type} (dec:List UInt8 → α × Int) (z:α) (X:CX) (rc:RecS):(α × Int) × CX :=
 match rdX X rc with
 | some l=>(dec l,if (dec l).2 = 2 then { X with bad:=X.bad ++ [rc] } else X)
 | none=>((z,2),X)
theorem Dy2 {X:CX} {rc:RecS} {l:List UInt8} (h:rdX X rc = some l):¬ rc ∈ X.bad:=by
 unfold rdX at h
 split at h
 ·split at h
  ·cases h
  ·assumption
 ·cases h
theorem Hg2 (l:List UInt8) (h:(W9 l).2 ≠ 1):(W9 l).1 = .zero:=by
 unfold W9 at *; split <;> first | rfl | (split <;> first | rfl | (simp_all; done))
theorem Hd0 (l:List UInt8) (h:(Ae0 l).2 ≠ 1):(Ae0 l).1 = .zero:=by
 unfold Ae0 at *; split <;> first | rfl | (split <;> first | rfl | (simp_all; done))
theorem Hi4 (l:List UInt8) (h:(Af1 l).2 ≠ 1):(Af1 l).1 = .zero:=by
 unfold Af1 at *; split <;> first | rfl | (split <;> first | rfl | (simp_all; done))
theorem Hw6 (c k:Nat) (F:Fr) (X:CX) (rc:RecS) (ok:FrOk F) (hk:Q8 rc.kind = 24):Ct A7 I3 [P0 c,.agg ⟨V4 rc⟩,.func (.func A16) ⟨[]⟩ ⟨[]⟩] [cmC c k F X] fun v own =>
  v = .tuple ⟨[.agg ⟨D8 (S6 W9 .zero X rc).1.1⟩,int (S6 W9 .zero X rc).1.2]⟩ ∧ own [cmC c k F (S6 W9 .zero X rc).2]:=by
 refine Ct.of Am5 rfl fun h r=>Tr.eq (Da4 ..) ?_; (try simp only[Nr,Nl,Nat.reduceAdd,Nat.reduceMul,Int.reduceToNat])
 (repeat' first|refine Gu ?_|(with_reducible first|refine Gn fun b h=>?_|apply Gx|apply Gy|rintro px rfl|refine fun(h:H)=>?_|intro hb)|refine Gs ?_|refine Gt ?_|exact Gz rfl|fail)
 refine Tr.xCall (D04 c k F X rc ok) ?_
 rintro v h (⟨l,a,cp,hr,hl,rfl,o⟩ | ⟨hr,rfl,o⟩)
 ·refine (?_:Tr _ _ _ _) o
  (try simp only[Nr,Nl,Nat.reduceAdd,Nat.reduceMul,Int.reduceToNat])
  have e:S6 W9 .zero X rc = (W9 l,if (W9 l).2 = 2 then { X with bad:=X.bad ++ [rc] } else X):=by unfold S6; rw [hr]
  have hb:=Dy2 hr
  rw [e]
  rw [hk] at hl
  rw [hl]
  (repeat' first|refine Gu ?_|(with_reducible first|refine Gn fun b h=>?_|apply Gx|apply Gy|rintro px rfl|refine fun(h:H)=>?_|intro hb)|refine Gs ?_|refine Gt ?_|exact Gz rfl|fail)
  refine Tr.xCall (Hb0 a cp l hl) ?_; rintro _ h ⟨rfl,o⟩ <;> (refine (?_:Tr _ _ _ _) o; (try simp only[Nr,Nl,Nat.reduceAdd,Nat.reduceMul,Int.reduceToNat]); (repeat' first|refine Gu ?_|(with_reducible first|refine Gn fun b h=>?_|apply Gx|apply Gy|rintro px rfl|refine fun(h:H)=>?_|intro hb)|refine Gs ?_|refine Gt ?_|exact Gz rfl|fail))
  by_cases h2:(W9 l).2 = 2
  ·refine Tr.condT (by simpa using h2) ?_
   have hz:=Hg2 l (by omega)
   simp only [if_pos h2]
   refine B1 (cmC c k F X) fun u=>?_; (try simp only[Nr,Nl,Nat.reduceAdd,Nat.reduceMul,Int.reduceToNat])
   refine B1 (S8 c k F.env F.caps X.bad) fun ⟨ca,cn,mb⟩=>?_; (try simp only[Nr,Nl,Nat.reduceAdd,Nat.reduceMul,Int.reduceToNat])
   (repeat' first|refine Gu ?_|(with_reducible first|refine Gn fun b h=>?_|apply Gx|apply Gy|rintro px rfl|refine fun(h:H)=>?_|intro hb)|refine Gs ?_|refine Gt ?_|exact Gz rfl|fail)
   rw [Bp9,if_neg hb]
   (repeat' first|refine Gu ?_|(with_reducible first|refine Gn fun b h=>?_|apply Gx|apply Gy|rintro px rfl|refine fun(h:H)=>?_|intro hb)|refine Gs ?_|refine Gt ?_|exact Gz rfl|fail)
   rw [Dx0 hb]
   (repeat' first|refine Gu ?_|(with_reducible first|refine Gn fun b h=>?_|apply Gx|apply Gy|rintro px rfl|refine fun(h:H)=>?_|intro hb)|refine Gs ?_|refine Gt ?_|exact Gz rfl|fail)
   rw [Dn5 hb]
   (repeat' first|refine Gu ?_|(with_reducible first|refine Gn fun b h=>?_|apply Gx|apply Gy|rintro px rfl|refine fun(h:H)=>?_|intro hb)|refine Gs ?_|refine Gt ?_|exact Gz rfl|fail)
   rw [B49 X.bad 0 X.bad.length _ 0 rfl (by omega),Nat.zero_add]
   (repeat' first|refine Gu ?_|(with_reducible first|refine Gn fun b h=>?_|apply Gx|apply Gy|rintro px rfl|refine fun(h:H)=>?_|intro hb)|refine Gs ?_|refine Gt ?_|exact Gz rfl|fail)
   rw [D18]
   refine Tr.jmp Am5 (Tr.eq (Az3 ..) ?_); (try simp only[Nr,Nl,wl,Nat.reduceAdd,Nat.reduceMul,Int.reduceToNat])
   refine Tr.condT (by rw [bne_iff_ne]; omega) ?_
   (repeat' first|refine Gu ?_|(with_reducible first|refine Gn fun b h=>?_|apply Gx|apply Gy|rintro px rfl|refine fun(h:H)=>?_|intro hb)|refine Gs ?_|refine Gt ?_|exact Gz rfl|fail)
   rw [show X.bad.length + 1 = (X.bad ++ [rc]).length by simp]
   refine A9 (S8 c k F.env F.caps (X.bad ++ [rc])) ⟨ca,cn,mb⟩ ?_; (try simp only[Nr,Nl,Nat.reduceAdd,Nat.reduceMul,Int.reduceToNat])
   refine A9 (cmC c k F { X with bad:=X.bad ++ [rc] }) () ?_; (try simp only[Nr,Nl,Nat.reduceAdd,Nat.reduceMul,Int.reduceToNat])
   refine Tr.some fun o=>?_
   exact ⟨by rw [hz] <;> rfl,o.sub⟩
  ·refine Tr.condF (by simpa using h2) ?_
   simp only [if_neg h2]
   refine Tr.jmp Am5 (Tr.eq (Az3 ..) ?_); (try simp only[Nr,Nl,wl,Nat.reduceAdd,Nat.reduceMul,Int.reduceToNat])
   by_cases h1:(W9 l).2 = 1
   ·refine Tr.condF (by simpa using h1) ?_
    (repeat' first|refine Gu ?_|(with_reducible first|refine Gn fun b h=>?_|apply Gx|apply Gy|rintro px rfl|refine fun(h:H)=>?_|intro hb)|refine Gs ?_|refine Gt ?_|exact Gz rfl|fail)
    refine Tr.some fun o=>?_
    exact ⟨rfl,o.sub⟩
   ·refine Tr.condT (by simpa using h1) ?_
    (repeat' first|refine Gu ?_|(with_reducible first|refine Gn fun b h=>?_|apply Gx|apply Gy|rintro px rfl|refine fun(h:H)=>?_|intro hb)|refine Gs ?_|refine Gt ?_|exact Gz rfl|fail)
    refine Tr.some fun o=>?_
    exact ⟨by rw [Hg2 l h1] <;> rfl,o.sub⟩
 ·refine (?_:Tr _ _ _ _) o
  (try simp only[Nr,Nl,Nat.reduceAdd,Nat.reduceMul,Int.reduceToNat])
  have e:S6 W9 .zero X rc = ((.zero,2),X):=by unfold S6; rw [hr]
  rw [e]
  (repeat' first|refine Gu ?_|(with_reducible first|refine Gn fun b h=>?_|apply Gx|apply Gy|rintro px rfl|refine fun(h:H)=>?_|intro hb)|refine Gs ?_|refine Gt ?_|exact Gz rfl|fail)
  refine Tr.some fun o=>?_
  exact ⟨rfl,o.sub⟩
theorem Hx1 (c k:Nat) (F:Fr) (X:CX) (rc:RecS) (ok:FrOk F) (hk:Q8 rc.kind = 8):Ct A7 I0 [P0 c,.agg ⟨V4 rc⟩,.func (.func A13) ⟨[]⟩ ⟨[]⟩] [cmC c k F X] fun v own =>
  v = .tuple ⟨[.agg ⟨Bu5 (S6 Ae0 .zero X rc).1.1⟩,int (S6 Ae0 .zero X rc).1.2]⟩ ∧ own [cmC c k F (S6 Ae0 .zero X rc).2]:=by
 refine Ct.of Am0 rfl fun h r=>Tr.eq (Db0 ..) ?_; (try simp only[Nr,Nl,Nat.reduceAdd,Nat.reduceMul,Int.reduceToNat])
 (repeat' first|refine Gu ?_|(with_reducible first|refine Gn fun b h=>?_|apply Gx|apply Gy|rintro px rfl|refine fun(h:H)=>?_|intro hb)|refine Gs ?_|refine Gt ?_|exact Gz rfl|fail)
 refine Tr.xCall (D04 c k F X rc ok) ?_
 rintro v h (⟨l,a,cp,hr,hl,rfl,o⟩ | ⟨hr,rfl,o⟩)
 ·refine (?_:Tr _ _ _ _) o
  (try simp only[Nr,Nl,Nat.reduceAdd,Nat.reduceMul,Int.reduceToNat])
  have e:S6 Ae0 .zero X rc = (Ae0 l,if (Ae0 l).2 = 2 then { X with bad:=X.bad ++ [rc] } else X):=by unfold S6; rw [hr]
  have hb:=Dy2 hr
  rw [e]
  rw [hk] at hl
  rw [hl]
  (repeat' first|refine Gu ?_|(with_reducible first|refine Gn fun b h=>?_|apply Gx|apply Gy|rintro px rfl|refine fun(h:H)=>?_|intro hb)|refine Gs ?_|refine Gt ?_|exact Gz rfl|fail)
  refine Tr.xCall (G75 a cp l hl) ?_; rintro _ h ⟨rfl,o⟩ <;> (refine (?_:Tr _ _ _ _) o; (try simp only[Nr,Nl,Nat.reduceAdd,Nat.reduceMul,Int.reduceToNat]); (repeat' first|refine Gu ?_|(with_reducible first|refine Gn fun b h=>?_|apply Gx|apply Gy|rintro px rfl|refine fun(h:H)=>?_|intro hb)|refine Gs ?_|refine Gt ?_|exact Gz rfl|fail))
  by_cases h2:(Ae0 l).2 = 2
  ·refine Tr.condT (by simpa using h2) ?_
   have hz:=Hd0 l (by omega)
   simp only [if_pos h2]
   refine B1 (cmC c k F X) fun u=>?_; (try simp only[Nr,Nl,Nat.reduceAdd,Nat.reduceMul,Int.reduceToNat])
   refine B1 (S8 c k F.env F.caps X.bad) fun ⟨ca,cn,mb⟩=>?_; (try simp only[Nr,Nl,Nat.reduceAdd,Nat.reduceMul,Int.reduceToNat])
   (repeat' first|refine Gu ?_|(with_reducible first|refine Gn fun b h=>?_|apply Gx|apply Gy|rintro px rfl|refine fun(h:H)=>?_|intro hb)|refine Gs ?_|refine Gt ?_|exact Gz rfl|fail)
   rw [Bp9,if_neg hb]
   (repeat' first|refine Gu ?_|(with_reducible first|refine Gn fun b h=>?_|apply Gx|apply Gy|rintro px rfl|refine fun(h:H)=>?_|intro hb)|refine Gs ?_|refine Gt ?_|exact Gz rfl|fail)
   rw [Dx0 hb]
   (repeat' first|refine Gu ?_|(with_reducible first|refine Gn fun b h=>?_|apply Gx|apply Gy|rintro px rfl|refine fun(h:H)=>?_|intro hb)|refine Gs ?_|refine Gt ?_|exact Gz rfl|fail)
   rw [Dn5 hb]
   (repeat' first|refine Gu ?_|(with_reducible first|refine Gn fun b h=>?_|apply Gx|apply Gy|rintro px rfl|refine fun(h:H)=>?_|intro hb)|refine Gs ?_|refine Gt ?_|exact Gz rfl|fail)
   rw [B49 X.bad 0 X.bad.length _ 0 rfl (by omega),Nat.zero_add]
   (repeat' first|refine Gu ?_|(with_reducible first|refine Gn fun b h=>?_|apply Gx|apply Gy|rintro px rfl|refine fun(h:H)=>?_|intro hb)|refine Gs ?_|refine Gt ?_|exact Gz rfl|fail)
   rw [D18]
   refine Tr.jmp Am0 (Tr.eq (A17 ..) ?_); (try simp only[Nr,Nl,wl,Nat.reduceAdd,Nat.reduceMul,Int.reduceToNat])
   refine Tr.condT (by rw [bne_iff_ne]; omega) ?_
   (repeat' first|refine Gu ?_|(with_reducible first|refine Gn fun b h=>?_|apply Gx|apply Gy|rintro px rfl|refine fun(h:H)=>?_|intro hb)|refine Gs ?_|refine Gt ?_|exact Gz rfl|fail)
   rw [show X.bad.length + 1 = (X.bad ++ [rc]).length by simp]
   refine A9 (S8 c k F.env F.caps (X.bad ++ [rc])) ⟨ca,cn,mb⟩ ?_; (try simp only[Nr,Nl,Nat.reduceAdd,Nat.reduceMul,Int.reduceToNat])
   refine A9 (cmC c k F { X with bad:=X.bad ++ [rc] }) () ?_; (try simp only[Nr,Nl,Nat.reduceAdd,Nat.reduceMul,Int.reduceToNat])
   refine Tr.some fun o=>?_
   exact ⟨by rw [hz] <;> rfl,o.sub⟩
  ·refine Tr.condF (by simpa using h2) ?_
   simp only [if_neg h2]
   refine Tr.jmp Am0 (Tr.eq (A17 ..) ?_); (try simp only[Nr,Nl,wl,Nat.reduceAdd,Nat.reduceMul,Int.reduceToNat])
   by_cases h1:(Ae0 l).2 = 1
   ·refine Tr.condF (by simpa using h1) ?_
    (repeat' first|refine Gu ?_|(with_reducible first|refine Gn fun b h=>?_|apply Gx|apply Gy|rintro px rfl|refine fun(h:H)=>?_|intro hb)|refine Gs ?_|refine Gt ?_|exact Gz rfl|fail)
    refine Tr.some fun o=>?_
    exact ⟨rfl,o.sub⟩
   ·refine Tr.condT (by simpa using h1) ?_
    (repeat' first|refine Gu ?_|(with_reducible first|refine Gn fun b h=>?_|apply Gx|apply Gy|rintro px rfl|refine fun(h:H)=>?_|intro hb)|refine Gs ?_|refine Gt ?_|exact Gz rfl|fail)
    refine Tr.some fun o=>?_
    exact ⟨by rw [Hd0 l h1] <;> rfl,o.sub⟩
 ·refine (?_:Tr _ _ _ _) o
  (try simp only[Nr,Nl,Nat.reduceAdd,Nat.reduceMul,Int.reduceToNat])
  have e:S6 Ae0 .zero X rc = ((.zero,2),X):=by unfold S6; rw [hr]
  rw [e]
  (repeat' first|refine Gu ?_|(with_reducible first|refine Gn fun b h=>?_|apply Gx|apply Gy|rintro px rfl|refine fun(h:H)=>?_|intro hb)|refine Gs ?_|refine Gt ?_|exact Gz rfl|fail)
  refine Tr.some fun o=>?_
  exact ⟨rfl,o.sub⟩
theorem G43 (c k:Nat) (F:Fr) (X:CX) (rc:RecS) (ok:FrOk F) (hk:Q8 rc.kind = 40):Ct A7 H1 [P0 c,.agg ⟨V4 rc⟩,.func (.func As6) ⟨[]⟩ ⟨[]⟩] [cmC c k F X] fun v own =>
  v = .tuple ⟨[.agg ⟨P4 (S6 Af1 .zero X rc).1.1⟩,int (S6 Af1 .zero X rc).1.2]⟩ ∧ own [cmC c k F (S6 Af1 .zero X rc).2]:=by
 refine Ct.of Am6 rfl fun h r=>Tr.eq (Db2 ..) ?_; (try simp only[Nr,Nl,Nat.reduceAdd,Nat.reduceMul,Int.reduceToNat])
 (repeat' first|refine Gu ?_|(with_reducible first|refine Gn fun b h=>?_|apply Gx|apply Gy|rintro px rfl|refine fun(h:H)=>?_|intro hb)|refine Gs ?_|refine Gt ?_|exact Gz rfl|fail)
 refine Tr.xCall (D04 c k F X rc ok) ?_
 rintro v h (⟨l,a,cp,hr,hl,rfl,o⟩ | ⟨hr,rfl,o⟩)
 ·refine (?_:Tr _ _ _ _) o
  (try simp only[Nr,Nl,Nat.reduceAdd,Nat.reduceMul,Int.reduceToNat])
  have e:S6 Af1 .zero X rc = (Af1 l,if (Af1 l).2 = 2 then { X with bad:=X.bad ++ [rc] } else X):=by unfold S6; rw [hr]
  have hb:=Dy2 hr
  rw [e]
  rw [hk] at hl
  rw [hl]
  (repeat' first|refine Gu ?_|(with_reducible first|refine Gn fun b h=>?_|apply Gx|apply Gy|rintro px rfl|refine fun(h:H)=>?_|intro hb)|refine Gs ?_|refine Gt ?_|exact Gz rfl|fail)
  refine Tr.xCall (G86 a cp l hl) ?_; rintro _ h ⟨rfl,o⟩ <;> (refine (?_:Tr _ _ _ _) o; (try simp only[Nr,Nl,Nat.reduceAdd,Nat.reduceMul,Int.reduceToNat]); (repeat' first|refine Gu ?_|(with_reducible first|refine Gn fun b h=>?_|apply Gx|apply Gy|rintro px rfl|refine fun(h:H)=>?_|intro hb)|refine Gs ?_|refine Gt ?_|exact Gz rfl|fail))
  by_cases h2:(Af1 l).2 = 2
  ·refine Tr.condT (by simpa using h2) ?_
   have hz:=Hi4 l (by omega)
   simp only [if_pos h2]
   refine B1 (cmC c k F X) fun u=>?_; (try simp only[Nr,Nl,Nat.reduceAdd,Nat.reduceMul,Int.reduceToNat])
   refine B1 (S8 c k F.env F.caps X.bad) fun ⟨ca,cn,mb⟩=>?_; (try simp only[Nr,Nl,Nat.reduceAdd,Nat.reduceMul,Int.reduceToNat])
   (repeat' first|refine Gu ?_|(with_reducible first|refine Gn fun b h=>?_|apply Gx|apply Gy|rintro px rfl|refine fun(h:H)=>?_|intro hb)|refine Gs ?_|refine Gt ?_|exact Gz rfl|fail)
   rw [Bp9,if_neg hb]
   (repeat' first|refine Gu ?_|(with_reducible first|refine Gn fun b h=>?_|apply Gx|apply Gy|rintro px rfl|refine fun(h:H)=>?_|intro hb)|refine Gs ?_|refine Gt ?_|exact Gz rfl|fail)
   rw [Dx0 hb]
   (repeat' first|refine Gu ?_|(with_reducible first|refine Gn fun b h=>?_|apply Gx|apply Gy|rintro px rfl|refine fun(h:H)=>?_|intro hb)|refine Gs ?_|refine Gt ?_|exact Gz rfl|fail)
   rw [Dn5 hb]
   (repeat' first|refine Gu ?_|(with_reducible first|refine Gn fun b h=>?_|apply Gx|apply Gy|rintro px rfl|refine fun(h:H)=>?_|intro hb)|refine Gs ?_|refine Gt ?_|exact Gz rfl|fail)
   rw [B49 X.bad 0 X.bad.length _ 0 rfl (by omega),Nat.zero_add]
   (repeat' first|refine Gu ?_|(with_reducible first|refine Gn fun b h=>?_|apply Gx|apply Gy|rintro px rfl|refine fun(h:H)=>?_|intro hb)|refine Gs ?_|refine Gt ?_|exact Gz rfl|fail)
   rw [D18]
   refine Tr.jmp Am6 (Tr.eq (A14 ..) ?_); (try simp only[Nr,Nl,wl,Nat.reduceAdd,Nat.reduceMul,Int.reduceToNat])
   refine Tr.condT (by rw [bne_iff_ne]; omega) ?_
   (repeat' first|refine Gu ?_|(with_reducible first|refine Gn fun b h=>?_|apply Gx|apply Gy|rintro px rfl|refine fun(h:H)=>?_|intro hb)|refine Gs ?_|refine Gt ?_|exact Gz rfl|fail)
   rw [show X.bad.length + 1 = (X.bad ++ [rc]).length by simp]
   refine A9 (S8 c k F.env F.caps (X.bad ++ [rc])) ⟨ca,cn,mb⟩ ?_; (try simp only[Nr,Nl,Nat.reduceAdd,Nat.reduceMul,Int.reduceToNat])
   refine A9 (cmC c k F { X with bad:=X.bad ++ [rc] }) () ?_; (try simp only[Nr,Nl,Nat.reduceAdd,Nat.reduceMul,Int.reduceToNat])
   refine Tr.some fun o=>?_
   exact ⟨by rw [hz] <;> rfl,o.sub⟩
  ·refine Tr.condF (by simpa using h2) ?_
   simp only [if_neg h2]
   refine Tr.jmp Am6 (Tr.eq (A14 ..) ?_); (try simp only[Nr,Nl,wl,Nat.reduceAdd,Nat.reduceMul,Int.reduceToNat])
   by_cases h1:(Af1 l).2 = 1
   ·refine Tr.condF (by simpa using h1) ?_
    (repeat' first|refine Gu ?_|(with_reducible first|refine Gn fun b h=>?_|apply Gx|apply Gy|rintro px rfl|refine fun(h:H)=>?_|intro hb)|refine Gs ?_|refine Gt ?_|exact Gz rfl|fail)
    refine Tr.some fun o=>?_
    exact ⟨rfl,o.sub⟩
   ·refine Tr.condT (by simpa using h1) ?_
    (repeat' first|refine Gu ?_|(with_reducible first|refine Gn fun b h=>?_|apply Gx|apply Gy|rintro px rfl|refine fun(h:H)=>?_|intro hb)|refine Gs ?_|refine Gt ?_|exact Gz rfl|fail)
    refine Tr.some fun o=>?_
    exact ⟨by rw [Hi4 l h1] <;> rfl,o.sub⟩
 ·refine (?_:Tr _ _ _ _) o
  (try simp only[Nr,Nl,Nat.reduceAdd,Nat.reduceMul,Int.reduceToNat])
  have e:S6 Af1 .zero X rc = ((.zero,2),X):=by unfold S6; rw [hr]
  rw [e]
  (repeat' first|refine Gu ?_|(with_reducible first|refine Gn fun b h=>?_|apply Gx|apply Gy|rintro px rfl|refine fun(h:H)=>?_|intro hb)|refine Gs ?_|refine Gt ?_|exact Gz rfl|fail)
  refine Tr.some fun o=>?_
  exact ⟨rfl,o.sub⟩
def E23 (g:Int):List UInt8:=[b8 g,211,Bn3 [b8 g,211],0]
def Ap6 (l:List UInt8):Int × Int:=if byI l 0 < 8 ∧ E23 (byI l 0) = l then (byI l 0,1) else (0,2)
theorem Gf8 (g:Int):Ct A7 Ak8 [int g] [] fun v own =>
  (0 ≤ g ∧ g < 8 ∧ ∃ a c,v = .tuple ⟨[.slice a 4 c,.bool true]⟩ ∧ own [slC false A3 1 a 4 c (A0 (E23 g))]) ∨ (¬ (0 ≤ g ∧ g < 8) ∧ v = .tuple ⟨[.slice none 0 0,.bool false]⟩ ∧ own []):=by
 refine Ct.of D43 rfl fun h r=>Tr.eq (Dy4 ..) ?_; (try simp only[Nr,Nl,Nat.reduceAdd,Nat.reduceMul,Int.reduceToNat])
 (repeat' first|refine Gu ?_|(with_reducible first|refine Gn fun b h=>?_|apply Gx|apply Gy|rintro px rfl|refine fun(h:H)=>?_|intro hb)|refine Gs ?_|refine Gt ?_|exact Gz rfl|fail)
 by_cases hg:0 ≤ g ∧ g < 8
 ·refine Tr.condF (by simp; omega) ?_
  rw [Bc3]
  refine Tr.nw fun b h=>?_
  rw [show ([.int .u8 ((b8 g).toNat:Int),.int .u8 211]:List Value) = A0 [b8 g,211] from rfl]
  refine Af9 0 rfl 1 2 rfl (by omega) ?_
  (try simp only[Nr,Nl,Nat.reduceAdd,Nat.reduceMul,Int.reduceToNat])
  refine Tr.pcall (Ez0 (slC false A3 1 (some ⟨b,0,none⟩) 2 2 (A0 [b8 g,211])) (some ⟨b,0,none⟩) false 2 2 2 [b8 g,211] 2 (by simp) (by simp [A8])) ?_
  (repeat' first|refine Gu ?_|(with_reducible first|refine Gn fun b h=>?_|apply Gx|apply Gy|rintro px rfl|refine fun(h:H)=>?_|intro hb)|refine Gs ?_|refine Gt ?_|exact Gz rfl|fail)
  rw [show List.take 2 [b8 g,211] = [b8 g,211] from rfl,Dg6]
  refine Tr.xApd ⟨rfl,rfl,by simp [A8]⟩ fun a' c' h'=>?_
  (try simp only[Nr,Nl,Nat.reduceAdd,Nat.reduceMul,Int.reduceToNat])
  refine Tr.some fun o=>?_
  exact .inl ⟨hg.1,hg.2,a',c',rfl,(show Own h' (_ :: slC false A3 1 a' 4 c' (A0 (E23 g)) :: _) from o).sub⟩
 ·refine Tr.condT (by simp; omega) ?_
  refine Tr.some fun o=>?_
  exact .inr ⟨hg,rfl,o.sub⟩
theorem Hv4 (l:List UInt8):∀ (m i:Nat) (r:List UInt8),l.length - i = m → ByteArray.toList.loop ⟨⟨l⟩⟩ i r = r.reverse ++ l.drop i:=by
 intro m
 induction m with
 | zero =>
  intro i r hm
  unfold ByteArray.toList.loop
  rw [if_neg (show ¬ i < (ByteArray.mk ⟨l⟩).size by show ¬ i < l.length; omega),List.drop_eq_nil_of_le (by omega)]; simp
 | succ m ih =>
  intro i r hm
  have hlt:i < l.length:=by omega
  unfold ByteArray.toList.loop
  rw [if_pos (show i < (ByteArray.mk ⟨l⟩).size from hlt),ih (i + 1) _ (by omega),List.drop_eq_getElem_cons hlt]
  have:(ByteArray.mk ⟨l⟩).get! i = l[i]:=by
   show (Array.mk l)[i]! = l[i]
   simp [hlt]
  rw [this]; simp
theorem Ge0 (l:List UInt8):(ByteArray.mk ⟨l⟩).toList = l:=by
 unfold ByteArray.toList
 rw [Hv4 l _ 0 [] rfl]; simp
theorem G70 (a:Option Addr) (c:Nat) (l:List UInt8) (hl:l.length = 4):Ct A7 Aj7 [.slice a 4 c] [slC false A3 1 a 4 c (A0 l)] fun v own=>v = .tuple ⟨[int (Ap6 l).1,int (Ap6 l).2]⟩ ∧ own [slC false A3 1 a 4 c (A0 l)]:=by
 refine Ct.of Em4 rfl fun h r=>Tr.eq (Em6 ..) ?_; (try simp only[Nr,Nl,Nat.reduceAdd,Nat.reduceMul,Int.reduceToNat])
 refine Tr.condF rfl ?_
 (repeat' first|refine Gu ?_|(with_reducible first|refine Gn fun b h=>?_|apply Gx|apply Gy|rintro px rfl|refine fun(h:H)=>?_|intro hb)|refine Gs ?_|refine Gt ?_|exact Gz rfl|fail)
 refine Tr.xIntS (v:=byI l 0) (Aa8 (by omega)) ?_
 simp only [byI,Ak0]
 refine Tr.xCall (Gf8 (byI l 0)) ?_
 rintro v h (⟨h1,h2,a1,c1,rfl,o⟩ | ⟨hn,rfl,o⟩)
 ·refine (?_:Tr _ _ _ _) o
  (try simp only[Nr,Nl,Nat.reduceAdd,Nat.reduceMul,Int.reduceToNat])
  (repeat' first|refine Gu ?_|(with_reducible first|refine Gn fun b h=>?_|apply Gx|apply Gy|rintro px rfl|refine fun(h:H)=>?_|intro hb)|refine Gs ?_|refine Gt ?_|exact Gz rfl|fail)
  rw [Ge0,Ge0]
  by_cases he:E23 (byI l 0) = l
  ·have e:Ap6 l = (byI l 0,1):=by unfold Ap6; rw [if_pos ⟨h2,he⟩]
   refine Tr.condF (by simp [he]) ?_
   (repeat' first|refine Gu ?_|(with_reducible first|refine Gn fun b h=>?_|apply Gx|apply Gy|rintro px rfl|refine fun(h:H)=>?_|intro hb)|refine Gs ?_|refine Gt ?_|exact Gz rfl|fail)
   refine Tr.xIntS (v:=byI l 0) (Aa8 (by omega)) ?_
   refine Tr.some fun o=>?_
   rw [e]; exact ⟨by simp only [byI,Ak0],o.sub⟩
  ·have e:Ap6 l = (0,2):=by unfold Ap6; rw [if_neg (fun hh=>he hh.2)]
   refine Tr.condT (by simp [he]) ?_
   refine Tr.some fun o=>?_
   rw [e]; exact ⟨rfl,o.sub⟩
 ·refine (?_:Tr _ _ _ _) o
  (try simp only[Nr,Nl,Nat.reduceAdd,Nat.reduceMul,Int.reduceToNat])
  (repeat' first|refine Gu ?_|(with_reducible first|refine Gn fun b h=>?_|rintro px rfl|refine fun(h:H)=>?_|intro hb)|refine Gs ?_|refine Gt ?_|exact Gz rfl|fail)
  refine Tr.bnd (Tr.condT rfl ?_)
  refine Tr.some fun o=>(?_:Tr _ _ _ _) o; (try simp only[Nr,Nl,Nat.reduceAdd,Nat.reduceMul,Int.reduceToNat])
  (repeat' first|refine Gu ?_|(with_reducible first|refine Gn fun b h=>?_|apply Gx|apply Gy|rintro px rfl|refine fun(h:H)=>?_|intro hb)|refine Gs ?_|refine Gt ?_|exact Gz rfl|fail)
  refine Tr.some fun o=>?_
  exact ⟨by unfold Ap6; rw [if_neg (by simp only [byI] at *; omega)],o.sub⟩
theorem Hk5 (l:List UInt8) (h:(Ap6 l).2 ≠ 1):(Ap6 l).1 = 0:=by
 unfold Ap6 at *; split <;> simp_all
theorem Hu9 (c k:Nat) (F:Fr) (X:CX) (rc:RecS) (ok:FrOk F) (hk:Q8 rc.kind = 4):Ct A7 O8 [P0 c,.agg ⟨V4 rc⟩,.func (.func Aj7) ⟨[]⟩ ⟨[]⟩] [cmC c k F X] fun v own =>
  v = .tuple ⟨[int (S6 Ap6 0 X rc).1.1,int (S6 Ap6 0 X rc).1.2]⟩ ∧ own [cmC c k F (S6 Ap6 0 X rc).2]:=by
 refine Ct.of A32 rfl fun h r=>Tr.eq (Dy8 ..) ?_; (try simp only[Nr,Nl,Nat.reduceAdd,Nat.reduceMul,Int.reduceToNat])
 (repeat' first|refine Gu ?_|(with_reducible first|refine Gn fun b h=>?_|apply Gx|apply Gy|rintro px rfl|refine fun(h:H)=>?_|intro hb)|refine Gs ?_|refine Gt ?_|exact Gz rfl|fail)
 refine Tr.xCall (D04 c k F X rc ok) ?_
 rintro v h (⟨l,a,cp,hr,hl,rfl,o⟩ | ⟨hr,rfl,o⟩)
 ·refine (?_:Tr _ _ _ _) o
  (try simp only[Nr,Nl,Nat.reduceAdd,Nat.reduceMul,Int.reduceToNat])
  have e:S6 Ap6 0 X rc = (Ap6 l,if (Ap6 l).2 = 2 then { X with bad:=X.bad ++ [rc] } else X):=by unfold S6; rw [hr]
  have hb:=Dy2 hr
  rw [e]
  rw [hk] at hl
  rw [hl]
  (repeat' first|refine Gu ?_|(with_reducible first|refine Gn fun b h=>?_|apply Gx|apply Gy|rintro px rfl|refine fun(h:H)=>?_|intro hb)|refine Gs ?_|refine Gt ?_|exact Gz rfl|fail)
  refine Tr.xCall (G70 a cp l hl) ?_; rintro _ h ⟨rfl,o⟩ <;> (refine (?_:Tr _ _ _ _) o; (try simp only[Nr,Nl,Nat.reduceAdd,Nat.reduceMul,Int.reduceToNat]); (repeat' first|refine Gu ?_|(with_reducible first|refine Gn fun b h=>?_|apply Gx|apply Gy|rintro px rfl|refine fun(h:H)=>?_|intro hb)|refine Gs ?_|refine Gt ?_|exact Gz rfl|fail))
  by_cases h2:(Ap6 l).2 = 2
  ·refine Tr.condT (by simpa using h2) ?_
   have hz:=Hk5 l (by omega)
   simp only [if_pos h2]
   refine B1 (cmC c k F X) fun u=>?_; (try simp only[Nr,Nl,Nat.reduceAdd,Nat.reduceMul,Int.reduceToNat])
   refine B1 (S8 c k F.env F.caps X.bad) fun ⟨ca,cn,mb⟩=>?_; (try simp only[Nr,Nl,Nat.reduceAdd,Nat.reduceMul,Int.reduceToNat])
   (repeat' first|refine Gu ?_|(with_reducible first|refine Gn fun b h=>?_|apply Gx|apply Gy|rintro px rfl|refine fun(h:H)=>?_|intro hb)|refine Gs ?_|refine Gt ?_|exact Gz rfl|fail)
   rw [Bp9,if_neg hb]
   (repeat' first|refine Gu ?_|(with_reducible first|refine Gn fun b h=>?_|apply Gx|apply Gy|rintro px rfl|refine fun(h:H)=>?_|intro hb)|refine Gs ?_|refine Gt ?_|exact Gz rfl|fail)
   rw [Dx0 hb]
   (repeat' first|refine Gu ?_|(with_reducible first|refine Gn fun b h=>?_|apply Gx|apply Gy|rintro px rfl|refine fun(h:H)=>?_|intro hb)|refine Gs ?_|refine Gt ?_|exact Gz rfl|fail)
   rw [Dn5 hb]
   (repeat' first|refine Gu ?_|(with_reducible first|refine Gn fun b h=>?_|apply Gx|apply Gy|rintro px rfl|refine fun(h:H)=>?_|intro hb)|refine Gs ?_|refine Gt ?_|exact Gz rfl|fail)
   rw [B49 X.bad 0 X.bad.length _ 0 rfl (by omega),Nat.zero_add]
   (repeat' first|refine Gu ?_|(with_reducible first|refine Gn fun b h=>?_|apply Gx|apply Gy|rintro px rfl|refine fun(h:H)=>?_|intro hb)|refine Gs ?_|refine Gt ?_|exact Gz rfl|fail)
   rw [D18]
   refine Tr.jmp A32 (Tr.eq (Bg0 ..) ?_); (try simp only[Nr,Nl,wl,Nat.reduceAdd,Nat.reduceMul,Int.reduceToNat])
   refine Tr.condT (by rw [bne_iff_ne]; omega) ?_
   rw [show X.bad.length + 1 = (X.bad ++ [rc]).length by simp]
   refine A9 (S8 c k F.env F.caps (X.bad ++ [rc])) ⟨ca,cn,mb⟩ ?_; (try simp only[Nr,Nl,Nat.reduceAdd,Nat.reduceMul,Int.reduceToNat])
   refine A9 (cmC c k F { X with bad:=X.bad ++ [rc] }) () ?_; (try simp only[Nr,Nl,Nat.reduceAdd,Nat.reduceMul,Int.reduceToNat])
   refine Tr.some fun o=>?_
   exact ⟨by rw [hz],o.sub⟩
  ·refine Tr.condF (by simpa using h2) ?_
   simp only [if_neg h2]
   refine Tr.jmp A32 (Tr.eq (Bg0 ..) ?_); (try simp only[Nr,Nl,wl,Nat.reduceAdd,Nat.reduceMul,Int.reduceToNat])
   by_cases h1:(Ap6 l).2 = 1
   ·refine Tr.condF (by simpa using h1) ?_
    refine Tr.some fun o=>?_
    exact ⟨rfl,o.sub⟩
   ·refine Tr.condT (by simpa using h1) ?_
    refine Tr.some fun o=>?_
    exact ⟨by rw [Hk5 l h1],o.sub⟩
 ·refine (?_:Tr _ _ _ _) o
  (try simp only[Nr,Nl,Nat.reduceAdd,Nat.reduceMul,Int.reduceToNat])
  have e:S6 Ap6 0 X rc = ((0,2),X):=by unfold S6; rw [hr]
  rw [e]
  (repeat' first|refine Gu ?_|(with_reducible first|refine Gn fun b h=>?_|apply Gx|apply Gy|rintro px rfl|refine fun(h:H)=>?_|intro hb)|refine Gs ?_|refine Gt ?_|exact Gz rfl|fail)
  refine Tr.some fun o=>?_
  exact ⟨rfl,o.sub⟩
end Go.EQ

set_option maxRecDepth 10000
namespace Go.EQ
open Go Go.NN
abbrev Dw9 (X:CX) (i:Int):(ProcS × Int) × CX:=S6 W9 .zero X ⟨1,i⟩
abbrev Dz1 (X:CX) (i:Int):(FileS × Int) × CX:=S6 Ae0 .zero X ⟨2,i⟩
abbrev Dw4 (X:CX) (i:Int):(PipeS × Int) × CX:=S6 Af1 .zero X ⟨3,i⟩
abbrev Ei6 (X:CX):(PipeS × Int) × CX:=S6 Af1 .zero X ⟨4,0⟩
abbrev Eb1 (X:CX):(Int × Int) × CX:=S6 Ap6 0 X ⟨5,0⟩
abbrev B00 (X:CX) (i:Int) (p:ProcS):Bool × CX:=wrX X ⟨1,i⟩ (As0 p) (okS p)
abbrev B14 (X:CX) (i:Int) (p:FileS):Bool × CX:=wrX X ⟨2,i⟩ (Af7 p) (okF p)
abbrev Dz3 (X:CX) (rc:RecS):Bool × CX:=wrX X rc (List.replicate (Q8 rc.kind) 0) true
theorem D92 (X:CX) (rc:RecS) (b:List UInt8):wrX X rc b false = (false,X):=by
 unfold wrX; split <;> simp
theorem Hh6 (c k:Nat) (F:Fr) (X:CX) (rc:RecS) (ok:FrOk F):Ct A7 Ae5 [P0 c,.agg ⟨V4 rc⟩] [cmC c k F X] fun v own =>
  v = .bool (Dz3 X rc).1 ∧ own [cmC c k F (Dz3 X rc).2]:=by
 refine Ct.of Dk2 rfl fun h r=>Tr.eq (Dj8 ..) ?_; (try simp only[Nr,Nl,Nat.reduceAdd,Nat.reduceMul,Int.reduceToNat])
 refine B1 (cmC c k F X) fun u=>?_; (try simp only[Nr,Nl,Nat.reduceAdd,Nat.reduceMul,Int.reduceToNat])
 refine J5 2 rfl fun f=>?_
 (repeat' first|refine Gu ?_|(with_reducible first|refine Gn fun b h=>?_|apply Gx|apply Gy|rintro px rfl|refine fun(h:H)=>?_|intro hb)|refine Gs ?_|refine Gt ?_|exact Gz rfl|fail)
 refine Tr.xCall (Ei4 c k F.env F.caps X.bad rc ok.small ok.ne) ?_; rintro _ h ⟨rfl,o⟩ <;> (refine (?_:Tr _ _ _ _) o; (try simp only[Nr,Nl,Nat.reduceAdd,Nat.reduceMul,Int.reduceToNat]); (repeat' first|refine Gu ?_|(with_reducible first|refine Gn fun b h=>?_|apply Gx|apply Gy|rintro px rfl|refine fun(h:H)=>?_|intro hb)|refine Gs ?_|refine Gt ?_|exact Gz rfl|fail))
 have em:=f.mlen ok
 cases hp:G5 F.caps.length rc with
 | none =>
  (repeat' first|refine Gu ?_|(with_reducible first|refine Gn fun b h=>?_|apply Gx|apply Gy|rintro px rfl|refine fun(h:H)=>?_|intro hb)|refine Gs ?_|refine Gt ?_|exact Gz rfl|fail)
  rw [show G3 (Int.toNat 0) [.int .u8 0] = A0 [] from rfl]
  refine Af9 0 rfl 1 0 rfl (by omega) ?_
  (try simp only[Nr,Nl,Nat.reduceAdd,Nat.reduceMul,Int.reduceToNat])
  refine A9 (cmC c k F X) () ?_; (try simp only[Nr,Nl,Nat.reduceAdd,Nat.reduceMul,Int.reduceToNat])
  refine Tr.xCall (B58 c k F X rc ok [] false (some ⟨b,0,none⟩) 0 (by simp)) ?_; rintro _ h ⟨rfl,o⟩ <;> (refine (?_:Tr _ _ _ _) o; (try simp only[Nr,Nl,Nat.reduceAdd,Nat.reduceMul,Int.reduceToNat]); (repeat' first|refine Gu ?_|(with_reducible first|refine Gn fun b h=>?_|apply Gx|apply Gy|rintro px rfl|refine fun(h:H)=>?_|intro hb)|refine Gs ?_|refine Gt ?_|exact Gz rfl|fail))
  refine Tr.some fun o=>?_
  have e:Dz3 X rc = (false,X):=by unfold Dz3 wrX; rw [em,hp]
  rw [D92] at o
  rw [e,D92]
  exact ⟨by first | rfl | trivial,o.sub⟩
 | some p =>
  obtain ⟨j,a,n⟩:=p
  have hn:=B96 hp
  subst hn
  have h40:Q8 rc.kind ≤ 40:=by unfold Q8; (repeat' split) <;> omega
  (repeat' first|refine Gu ?_|(with_reducible first|refine Gn fun b h=>?_|apply Gx|apply Gy|rintro px rfl|refine fun(h:H)=>?_|intro hb)|refine Gs ?_|refine Gt ?_|exact Gz rfl|fail)
  refine Tr.ck ⟨by omega,by omega,by simp only [A8]; omega⟩ ?_
  refine Tr.nw fun b1 h=>?_
  rw [Int.toNat_natCast,show G3 (Q8 rc.kind) [.int .u8 0] = A0 (List.replicate (Q8 rc.kind) 0) by simp [G3,A0]]
  refine Af9 0 rfl 1 (Q8 rc.kind) (by simp [A0]) (by omega) ?_
  (try simp only[Nr,Nl,Nat.reduceAdd,Nat.reduceMul,Int.reduceToNat])
  refine A9 (cmC c k F X) () ?_; (try simp only[Nr,Nl,Nat.reduceAdd,Nat.reduceMul,Int.reduceToNat])
  have J:=B58 c k F X rc ok (List.replicate (Q8 rc.kind) 0) true (some ⟨b1,0,none⟩) (Q8 rc.kind) (by simp)
  rw [List.length_replicate] at J
  refine Tr.xCall (J) ?_; rintro _ h ⟨rfl,o⟩ <;> (refine (?_:Tr _ _ _ _) o; (try simp only[Nr,Nl,Nat.reduceAdd,Nat.reduceMul,Int.reduceToNat]); (repeat' first|refine Gu ?_|(with_reducible first|refine Gn fun b h=>?_|apply Gx|apply Gy|rintro px rfl|refine fun(h:H)=>?_|intro hb)|refine Gs ?_|refine Gt ?_|exact Gz rfl|fail))
  refine Tr.some fun o=>?_
  exact ⟨rfl,o.sub⟩
theorem E18 (c k:Nat) (F:Fr) (X:CX) (rc:RecS) (ok:FrOk F):Ct A7 J9 [P0 c,.agg ⟨V4 rc⟩,.slice none 0 0,.bool false] [cmC c k F X] fun v own=>v = .bool false ∧ own [cmC c k F X]:=by
 intro h r o
 have o1:Own h (slC false A3 1 none 0 0 (A0 []) :: cmC c k F X :: r):=o.slNil false A3 (by omega)
 obtain ⟨v,h',e,rfl,o2⟩:=B58 c k F X rc ok [] false none 0 (by simp) h r (o1.perm (.swap _ _ _))
 rw [D92] at e o2
 exact ⟨_,h',e,rfl,o2.sub⟩
theorem D14 (i:Int):Ct A7 Ao6 [int i] [] fun v own=>v = .agg ⟨V4 ⟨1,i⟩⟩ ∧ own []:=by
 refine Ct.of E73 rfl fun h r=>Tr.eq (Ga0 ..) ?_; (try simp only[Nr,Nl,Nat.reduceAdd,Nat.reduceMul,Int.reduceToNat])
 (repeat' first|refine Gu ?_|(with_reducible first|refine Gn fun b h=>?_|apply Gx|apply Gy|rintro px rfl|refine fun(h:H)=>?_|intro hb)|refine Gs ?_|refine Gt ?_|exact Gz rfl|fail)
 refine Tr.some fun o=>?_
 exact ⟨rfl,o.sub⟩
theorem Es6 (i:Int):Ct A7 Az7 [int i] [] fun v own=>v = .agg ⟨V4 ⟨2,i⟩⟩ ∧ own []:=by
 refine Ct.of E49 rfl fun h r=>Tr.eq (E55 ..) ?_; (try simp only[Nr,Nl,Nat.reduceAdd,Nat.reduceMul,Int.reduceToNat])
 (repeat' first|refine Gu ?_|(with_reducible first|refine Gn fun b h=>?_|apply Gx|apply Gy|rintro px rfl|refine fun(h:H)=>?_|intro hb)|refine Gs ?_|refine Gt ?_|exact Gz rfl|fail)
 refine Tr.some fun o=>?_
 exact ⟨rfl,o.sub⟩
theorem Hs0 (i:Int):Ct A7 Be9 [int i] [] fun v own=>v = .agg ⟨V4 ⟨3,i⟩⟩ ∧ own []:=by
 refine Ct.of E81 rfl fun h r=>Tr.eq (E60 ..) ?_; (try simp only[Nr,Nl,Nat.reduceAdd,Nat.reduceMul,Int.reduceToNat])
 (repeat' first|refine Gu ?_|(with_reducible first|refine Gn fun b h=>?_|apply Gx|apply Gy|rintro px rfl|refine fun(h:H)=>?_|intro hb)|refine Gs ?_|refine Gt ?_|exact Gz rfl|fail)
 refine Tr.some fun o=>?_
 exact ⟨rfl,o.sub⟩
theorem D09 (c k:Nat) (F:Fr) (X:CX) (ok:FrOk F) (i:Int):Ct A7 L9 [P0 c,int i] [cmC c k F X] fun v own=>v = .tuple ⟨[.agg ⟨D8 (Dw9 X i).1.1⟩,int (Dw9 X i).1.2]⟩ ∧ own [cmC c k F (Dw9 X i).2]:=by
 refine Ct.of Dp6 rfl fun h r=>Tr.eq (Dr4 ..) ?_; (try simp only[Nr,Nl,Nat.reduceAdd,Nat.reduceMul,Int.reduceToNat])
 (repeat' first|refine Gu ?_|(with_reducible first|refine Gn fun b h=>?_|apply Gx|apply Gy|rintro px rfl|refine fun(h:H)=>?_|intro hb)|refine Gs ?_|refine Gt ?_|exact Gz rfl|fail)
 refine Tr.xCall (D14 i) ?_; rintro _ h ⟨rfl,o⟩ <;> (refine (?_:Tr _ _ _ _) o; (try simp only[Nr,Nl,Nat.reduceAdd,Nat.reduceMul,Int.reduceToNat]); (repeat' first|refine Gu ?_|(with_reducible first|refine Gn fun b h=>?_|apply Gx|apply Gy|rintro px rfl|refine fun(h:H)=>?_|intro hb)|refine Gs ?_|refine Gt ?_|exact Gz rfl|fail))
 refine Tr.xCall (Hw6 c k F X ⟨1,i⟩ ok rfl) ?_; rintro _ h ⟨rfl,o⟩ <;> (refine (?_:Tr _ _ _ _) o; (try simp only[Nr,Nl,Nat.reduceAdd,Nat.reduceMul,Int.reduceToNat]); (repeat' first|refine Gu ?_|(with_reducible first|refine Gn fun b h=>?_|apply Gx|apply Gy|rintro px rfl|refine fun(h:H)=>?_|intro hb)|refine Gs ?_|refine Gt ?_|exact Gz rfl|fail))
 refine Tr.some fun o=>?_
 exact ⟨rfl,o.sub⟩
theorem Dz8 (c k:Nat) (F:Fr) (X:CX) (ok:FrOk F) (i:Int):Ct A7 M6 [P0 c,int i] [cmC c k F X] fun v own=>v = .tuple ⟨[.agg ⟨Bu5 (Dz1 X i).1.1⟩,int (Dz1 X i).1.2]⟩ ∧ own [cmC c k F (Dz1 X i).2]:=by
 refine Ct.of Dq3 rfl fun h r=>Tr.eq (Ds4 ..) ?_; (try simp only[Nr,Nl,Nat.reduceAdd,Nat.reduceMul,Int.reduceToNat])
 (repeat' first|refine Gu ?_|(with_reducible first|refine Gn fun b h=>?_|apply Gx|apply Gy|rintro px rfl|refine fun(h:H)=>?_|intro hb)|refine Gs ?_|refine Gt ?_|exact Gz rfl|fail)
 refine Tr.xCall (Es6 i) ?_; rintro _ h ⟨rfl,o⟩ <;> (refine (?_:Tr _ _ _ _) o; (try simp only[Nr,Nl,Nat.reduceAdd,Nat.reduceMul,Int.reduceToNat]); (repeat' first|refine Gu ?_|(with_reducible first|refine Gn fun b h=>?_|apply Gx|apply Gy|rintro px rfl|refine fun(h:H)=>?_|intro hb)|refine Gs ?_|refine Gt ?_|exact Gz rfl|fail))
 refine Tr.xCall (Hx1 c k F X ⟨2,i⟩ ok rfl) ?_; rintro _ h ⟨rfl,o⟩ <;> (refine (?_:Tr _ _ _ _) o; (try simp only[Nr,Nl,Nat.reduceAdd,Nat.reduceMul,Int.reduceToNat]); (repeat' first|refine Gu ?_|(with_reducible first|refine Gn fun b h=>?_|apply Gx|apply Gy|rintro px rfl|refine fun(h:H)=>?_|intro hb)|refine Gs ?_|refine Gt ?_|exact Gz rfl|fail))
 refine Tr.some fun o=>?_
 exact ⟨rfl,o.sub⟩
theorem Hr1 (c k:Nat) (F:Fr) (X:CX) (ok:FrOk F) (i:Int):Ct A7 Ag4 [P0 c,int i] [cmC c k F X] fun v own=>v = .tuple ⟨[.agg ⟨P4 (Dw4 X i).1.1⟩,int (Dw4 X i).1.2]⟩ ∧ own [cmC c k F (Dw4 X i).2]:=by
 refine Ct.of Dp2 rfl fun h r=>Tr.eq (Dp9 ..) ?_; (try simp only[Nr,Nl,Nat.reduceAdd,Nat.reduceMul,Int.reduceToNat])
 (repeat' first|refine Gu ?_|(with_reducible first|refine Gn fun b h=>?_|apply Gx|apply Gy|rintro px rfl|refine fun(h:H)=>?_|intro hb)|refine Gs ?_|refine Gt ?_|exact Gz rfl|fail)
 refine Tr.xCall (Hs0 i) ?_; rintro _ h ⟨rfl,o⟩ <;> (refine (?_:Tr _ _ _ _) o; (try simp only[Nr,Nl,Nat.reduceAdd,Nat.reduceMul,Int.reduceToNat]); (repeat' first|refine Gu ?_|(with_reducible first|refine Gn fun b h=>?_|apply Gx|apply Gy|rintro px rfl|refine fun(h:H)=>?_|intro hb)|refine Gs ?_|refine Gt ?_|exact Gz rfl|fail))
 refine Tr.xCall (G43 c k F X ⟨3,i⟩ ok rfl) ?_; rintro _ h ⟨rfl,o⟩ <;> (refine (?_:Tr _ _ _ _) o; (try simp only[Nr,Nl,Nat.reduceAdd,Nat.reduceMul,Int.reduceToNat]); (repeat' first|refine Gu ?_|(with_reducible first|refine Gn fun b h=>?_|apply Gx|apply Gy|rintro px rfl|refine fun(h:H)=>?_|intro hb)|refine Gs ?_|refine Gt ?_|exact Gz rfl|fail))
 refine Tr.some fun o=>?_
 exact ⟨rfl,o.sub⟩
theorem Hm4 (c k:Nat) (F:Fr) (X:CX) (ok:FrOk F):Ct A7 Ag3 [P0 c] [cmC c k F X] fun v own=>v = .tuple ⟨[.agg ⟨P4 (Ei6 X).1.1⟩,int (Ei6 X).1.2]⟩ ∧ own [cmC c k F (Ei6 X).2]:=by
 refine Ct.of Dq5 rfl fun h r=>Tr.eq (Dp1 ..) ?_; (try simp only[Nr,Nl,Nat.reduceAdd,Nat.reduceMul,Int.reduceToNat])
 (repeat' first|refine Gu ?_|(with_reducible first|refine Gn fun b h=>?_|apply Gx|apply Gy|rintro px rfl|refine fun(h:H)=>?_|intro hb)|refine Gs ?_|refine Gt ?_|exact Gz rfl|fail)
 refine Tr.xCall (G43 c k F X ⟨4,0⟩ ok rfl) ?_; rintro _ h ⟨rfl,o⟩ <;> (refine (?_:Tr _ _ _ _) o; (try simp only[Nr,Nl,Nat.reduceAdd,Nat.reduceMul,Int.reduceToNat]); (repeat' first|refine Gu ?_|(with_reducible first|refine Gn fun b h=>?_|apply Gx|apply Gy|rintro px rfl|refine fun(h:H)=>?_|intro hb)|refine Gs ?_|refine Gt ?_|exact Gz rfl|fail))
 refine Tr.some fun o=>?_
 exact ⟨rfl,o.sub⟩
theorem Hl5 (c k:Nat) (F:Fr) (X:CX) (ok:FrOk F):Ct A7 Ae2 [P0 c] [cmC c k F X] fun v own=>v = .tuple ⟨[int (Eb1 X).1.1,.bool ((Eb1 X).1.2 == 1)]⟩ ∧ own [cmC c k F (Eb1 X).2]:=by
 refine Ct.of Dk3 rfl fun h r=>Tr.eq (Dk1 ..) ?_; (try simp only[Nr,Nl,Nat.reduceAdd,Nat.reduceMul,Int.reduceToNat])
 (repeat' first|refine Gu ?_|(with_reducible first|refine Gn fun b h=>?_|apply Gx|apply Gy|rintro px rfl|refine fun(h:H)=>?_|intro hb)|refine Gs ?_|refine Gt ?_|exact Gz rfl|fail)
 refine Tr.xCall (Hu9 c k F X ⟨5,0⟩ ok rfl) ?_; rintro _ h ⟨rfl,o⟩ <;> (refine (?_:Tr _ _ _ _) o; (try simp only[Nr,Nl,Nat.reduceAdd,Nat.reduceMul,Int.reduceToNat]); (repeat' first|refine Gu ?_|(with_reducible first|refine Gn fun b h=>?_|apply Gx|apply Gy|rintro px rfl|refine fun(h:H)=>?_|intro hb)|refine Gs ?_|refine Gt ?_|exact Gz rfl|fail))
 refine Tr.some fun o=>?_
 exact ⟨rfl,o.sub⟩
theorem De5 (f:FileS):(Af7 f).length = 8:=rfl
theorem Gy9 (c k:Nat) (F:Fr) (X:CX) (ok:FrOk F) (i:Int) (p:ProcS):Ct A7 Aa4 [P0 c,int i,.agg ⟨D8 p⟩] [cmC c k F X] fun v own=>v = .bool (B00 X i p).1 ∧ own [cmC c k F (B00 X i p).2]:=by
 refine Ct.of Db3 rfl fun h r=>Tr.eq (Db5 ..) ?_; (try simp only[Nr,Nl,Nat.reduceAdd,Nat.reduceMul,Int.reduceToNat])
 (repeat' first|refine Gu ?_|(with_reducible first|refine Gn fun b h=>?_|apply Gx|apply Gy|rintro px rfl|refine fun(h:H)=>?_|intro hb)|refine Gs ?_|refine Gt ?_|exact Gz rfl|fail)
 refine Tr.xCall (E12 p) ?_
 rintro v h (⟨hk,a,rfl,o⟩ | ⟨hk,rfl,o⟩)
 ·refine (?_:Tr _ _ _ _) o
  (try simp only[Nr,Nl,Nat.reduceAdd,Nat.reduceMul,Int.reduceToNat])
  (repeat' first|refine Gu ?_|(with_reducible first|refine Gn fun b h=>?_|apply Gx|apply Gy|rintro px rfl|refine fun(h:H)=>?_|intro hb)|refine Gs ?_|refine Gt ?_|exact Gz rfl|fail)
  refine Tr.xCall (D14 i) ?_; rintro _ h ⟨rfl,o⟩ <;> (refine (?_:Tr _ _ _ _) o; (try simp only[Nr,Nl,Nat.reduceAdd,Nat.reduceMul,Int.reduceToNat]); (repeat' first|refine Gu ?_|(with_reducible first|refine Gn fun b h=>?_|apply Gx|apply Gy|rintro px rfl|refine fun(h:H)=>?_|intro hb)|refine Gs ?_|refine Gt ?_|exact Gz rfl|fail))
  have J:=B58 c k F X ⟨1,i⟩ ok (As0 p) true a 24 (fun _=>D07 p)
  rw [D07] at J
  refine Tr.xCall (J) ?_; rintro _ h ⟨rfl,o⟩ <;> (refine (?_:Tr _ _ _ _) o; (try simp only[Nr,Nl,Nat.reduceAdd,Nat.reduceMul,Int.reduceToNat]); (repeat' first|refine Gu ?_|(with_reducible first|refine Gn fun b h=>?_|apply Gx|apply Gy|rintro px rfl|refine fun(h:H)=>?_|intro hb)|refine Gs ?_|refine Gt ?_|exact Gz rfl|fail))
  refine Tr.some fun o=>?_
  unfold B00; rw [hk]
  exact ⟨rfl,o.sub⟩
 ·refine (?_:Tr _ _ _ _) o
  (try simp only[Nr,Nl,Nat.reduceAdd,Nat.reduceMul,Int.reduceToNat])
  (repeat' first|refine Gu ?_|(with_reducible first|refine Gn fun b h=>?_|apply Gx|apply Gy|rintro px rfl|refine fun(h:H)=>?_|intro hb)|refine Gs ?_|refine Gt ?_|exact Gz rfl|fail)
  refine Tr.xCall (D14 i) ?_; rintro _ h ⟨rfl,o⟩ <;> (refine (?_:Tr _ _ _ _) o; (try simp only[Nr,Nl,Nat.reduceAdd,Nat.reduceMul,Int.reduceToNat]); (repeat' first|refine Gu ?_|(with_reducible first|refine Gn fun b h=>?_|apply Gx|apply Gy|rintro px rfl|refine fun(h:H)=>?_|intro hb)|refine Gs ?_|refine Gt ?_|exact Gz rfl|fail))
  refine Tr.xCall (E18 c k F X ⟨1,i⟩ ok) ?_; rintro _ h ⟨rfl,o⟩ <;> (refine (?_:Tr _ _ _ _) o; (try simp only[Nr,Nl,Nat.reduceAdd,Nat.reduceMul,Int.reduceToNat]); (repeat' first|refine Gu ?_|(with_reducible first|refine Gn fun b h=>?_|apply Gx|apply Gy|rintro px rfl|refine fun(h:H)=>?_|intro hb)|refine Gs ?_|refine Gt ?_|exact Gz rfl|fail))
  refine Tr.some fun o=>?_
  unfold B00; rw [hk,D92]
  exact ⟨rfl,o.sub⟩
theorem Gv1 (c k:Nat) (F:Fr) (X:CX) (ok:FrOk F) (i:Int) (p:FileS):Ct A7 Aa3 [P0 c,int i,.agg ⟨Bu5 p⟩] [cmC c k F X] fun v own=>v = .bool (B14 X i p).1 ∧ own [cmC c k F (B14 X i p).2]:=by
 refine Ct.of Da8 rfl fun h r=>Tr.eq (Db6 ..) ?_; (try simp only[Nr,Nl,Nat.reduceAdd,Nat.reduceMul,Int.reduceToNat])
 (repeat' first|refine Gu ?_|(with_reducible first|refine Gn fun b h=>?_|apply Gx|apply Gy|rintro px rfl|refine fun(h:H)=>?_|intro hb)|refine Gs ?_|refine Gt ?_|exact Gz rfl|fail)
 refine Tr.xCall (Ex7 p) ?_
 rintro v h (⟨hk,a,rfl,o⟩ | ⟨hk,rfl,o⟩)
 ·refine (?_:Tr _ _ _ _) o
  (try simp only[Nr,Nl,Nat.reduceAdd,Nat.reduceMul,Int.reduceToNat])
  (repeat' first|refine Gu ?_|(with_reducible first|refine Gn fun b h=>?_|apply Gx|apply Gy|rintro px rfl|refine fun(h:H)=>?_|intro hb)|refine Gs ?_|refine Gt ?_|exact Gz rfl|fail)
  refine Tr.xCall (Es6 i) ?_; rintro _ h ⟨rfl,o⟩ <;> (refine (?_:Tr _ _ _ _) o; (try simp only[Nr,Nl,Nat.reduceAdd,Nat.reduceMul,Int.reduceToNat]); (repeat' first|refine Gu ?_|(with_reducible first|refine Gn fun b h=>?_|apply Gx|apply Gy|rintro px rfl|refine fun(h:H)=>?_|intro hb)|refine Gs ?_|refine Gt ?_|exact Gz rfl|fail))
  have J:=B58 c k F X ⟨2,i⟩ ok (Af7 p) true a 8 (fun _=>De5 p)
  rw [De5] at J
  refine Tr.xCall (J) ?_; rintro _ h ⟨rfl,o⟩ <;> (refine (?_:Tr _ _ _ _) o; (try simp only[Nr,Nl,Nat.reduceAdd,Nat.reduceMul,Int.reduceToNat]); (repeat' first|refine Gu ?_|(with_reducible first|refine Gn fun b h=>?_|apply Gx|apply Gy|rintro px rfl|refine fun(h:H)=>?_|intro hb)|refine Gs ?_|refine Gt ?_|exact Gz rfl|fail))
  refine Tr.some fun o=>?_
  unfold B14; rw [hk]
  exact ⟨rfl,o.sub⟩
 ·refine (?_:Tr _ _ _ _) o
  (try simp only[Nr,Nl,Nat.reduceAdd,Nat.reduceMul,Int.reduceToNat])
  (repeat' first|refine Gu ?_|(with_reducible first|refine Gn fun b h=>?_|apply Gx|apply Gy|rintro px rfl|refine fun(h:H)=>?_|intro hb)|refine Gs ?_|refine Gt ?_|exact Gz rfl|fail)
  refine Tr.xCall (Es6 i) ?_; rintro _ h ⟨rfl,o⟩ <;> (refine (?_:Tr _ _ _ _) o; (try simp only[Nr,Nl,Nat.reduceAdd,Nat.reduceMul,Int.reduceToNat]); (repeat' first|refine Gu ?_|(with_reducible first|refine Gn fun b h=>?_|apply Gx|apply Gy|rintro px rfl|refine fun(h:H)=>?_|intro hb)|refine Gs ?_|refine Gt ?_|exact Gz rfl|fail))
  refine Tr.xCall (E18 c k F X ⟨2,i⟩ ok) ?_; rintro _ h ⟨rfl,o⟩ <;> (refine (?_:Tr _ _ _ _) o; (try simp only[Nr,Nl,Nat.reduceAdd,Nat.reduceMul,Int.reduceToNat]); (repeat' first|refine Gu ?_|(with_reducible first|refine Gn fun b h=>?_|apply Gx|apply Gy|rintro px rfl|refine fun(h:H)=>?_|intro hb)|refine Gs ?_|refine Gt ?_|exact Gz rfl|fail))
  refine Tr.some fun o=>?_
  unfold B14; rw [hk,D92]
  exact ⟨rfl,o.sub⟩
theorem Gs7 (c k:Nat) (F:Fr) (X:CX) (ok:FrOk F) (i:Int):Ct A7 Y6 [P0 c,int i] [cmC c k F X] fun v own=>v = .bool (Dz3 X ⟨1,i⟩).1 ∧ own [cmC c k F (Dz3 X ⟨1,i⟩).2]:=by
 refine Ct.of B74 rfl fun h r=>Tr.eq (B76 ..) ?_; (try simp only[Nr,Nl,Nat.reduceAdd,Nat.reduceMul,Int.reduceToNat])
 refine Tr.xCall (D14 i) ?_; rintro _ h ⟨rfl,o⟩ <;> (refine (?_:Tr _ _ _ _) o; (try simp only[Nr,Nl,Nat.reduceAdd,Nat.reduceMul,Int.reduceToNat]); (repeat' first|refine Gu ?_|(with_reducible first|refine Gn fun b h=>?_|apply Gx|apply Gy|rintro px rfl|refine fun(h:H)=>?_|intro hb)|refine Gs ?_|refine Gt ?_|exact Gz rfl|fail))
 refine Tr.xCall (Hh6 c k F X ⟨1,i⟩ ok) ?_; rintro _ h ⟨rfl,o⟩ <;> (refine (?_:Tr _ _ _ _) o; (try simp only[Nr,Nl,Nat.reduceAdd,Nat.reduceMul,Int.reduceToNat]); (repeat' first|refine Gu ?_|(with_reducible first|refine Gn fun b h=>?_|apply Gx|apply Gy|rintro px rfl|refine fun(h:H)=>?_|intro hb)|refine Gs ?_|refine Gt ?_|exact Gz rfl|fail))
 refine Tr.some fun o=>?_
 exact ⟨rfl,o.sub⟩
end Go.EQ

set_option maxRecDepth 10000
namespace Go.EQ
open Go Go.NN
def Dc6 (f:CX → Int → CX):Nat → Int → CX → CX
 | 0,_,X=>X
 | m + 1,i,X=>Dc6 f m (i + 1) (f X i)
def Ey7 (X:CX):CX:=(Eb1 (Ei6 X).2).2
def Gl4 (nc:Nat) (X:CX):CX:=Ey7 (Dc6 (fun X i=>(Dw4 X i).2) (3 + nc) 0 X)
def Gm1 (nc:Nat) (X:CX):CX:=Gl4 nc (Dc6 (fun X i=>(Dz1 X i).2) 12 0 X)
def lookN (nc:Nat) (X:CX):CX:=Gm1 nc (Dc6 (fun X i=>(Dw9 X i).2) 8 0 X)
def E25 (X:CX):CX:=lookN X.m.length X
theorem G51 (c k:Nat) (F:Fr) (ok:FrOk F):∀ (m:Nat) (i:Int) (X:CX),0 ≤ i → i + m = 3 + F.caps.length →
  CtJ G1 B5 Aa1 [(0,P0 c),(20,int (3 + F.caps.length)),(21,int i)] [cmC c k F X] fun v own=>v = .tuple ⟨[]⟩ ∧ own [cmC c k F (Ey7 (Dc6 (fun X i=>(Dw4 X i).2) m i X))]:=by
 have hs:=ok.small
 intro m
 induction m with
 | zero =>
  intro i X h0 hi
  refine CtJ.of M9 fun h r=>Tr.eq (Ba6 ..) ?_; (try simp only[Nr,Nl,Nat.reduceAdd,Nat.reduceMul,Int.reduceToNat])
  refine Tr.condF (by simp; omega) ?_
  refine Tr.xCall (Hm4 c k F X ok) ?_; rintro _ h ⟨rfl,o⟩ <;> (refine (?_:Tr _ _ _ _) o; (try simp only[Nr,Nl,Nat.reduceAdd,Nat.reduceMul,Int.reduceToNat]); (repeat' first|refine Gu ?_|(with_reducible first|refine Gn fun b h=>?_|apply Gx|apply Gy|rintro px rfl|refine fun(h:H)=>?_|intro hb)|refine Gs ?_|refine Gt ?_|exact Gz rfl|fail))
  refine Tr.xCall (Hl5 c k F (Ei6 X).2 ok) ?_; rintro _ h ⟨rfl,o⟩ <;> (refine (?_:Tr _ _ _ _) o; (try simp only[Nr,Nl,Nat.reduceAdd,Nat.reduceMul,Int.reduceToNat]); (repeat' first|refine Gu ?_|(with_reducible first|refine Gn fun b h=>?_|apply Gx|apply Gy|rintro px rfl|refine fun(h:H)=>?_|intro hb)|refine Gs ?_|refine Gt ?_|exact Gz rfl|fail))
  refine Tr.some fun o=>?_
  exact ⟨rfl,o⟩
 | succ m ih =>
  intro i X h0 hi
  have e1:IntKind.wrap .i64 (i + 1) = i + 1:=by rw [A6]; omega
  refine CtJ.of M9 fun h r=>Tr.eq (Ba6 ..) ?_; (try simp only[Nr,Nl,Nat.reduceAdd,Nat.reduceMul,Int.reduceToNat])
  refine Tr.condT (by simp; omega) ?_
  refine Tr.xCall (Hr1 c k F X ok i) ?_; rintro _ h ⟨rfl,o⟩ <;> (refine (?_:Tr _ _ _ _) o; (try simp only[Nr,Nl,Nat.reduceAdd,Nat.reduceMul,Int.reduceToNat]); (repeat' first|refine Gu ?_|(with_reducible first|refine Gn fun b h=>?_|apply Gx|apply Gy|rintro px rfl|refine fun(h:H)=>?_|intro hb)|refine Gs ?_|refine Gt ?_|exact Gz rfl|fail))
  rw [e1]
  refine Tr.xRun (ih (i + 1) (Dw4 X i).2 (by omega) (by omega)) ?_
  rintro _ h ⟨rfl,o⟩
  exact ⟨rfl,o⟩
theorem G90 (c k:Nat) (F:Fr) (ok:FrOk F):∀ (m:Nat) (i:Int) (X:CX),0 ≤ i → i + m = 12 →
  CtJ G1 B5 Aa6 [(0,P0 c),(12,int i)] [cmC c k F X] fun v own=>v = .tuple ⟨[]⟩ ∧ own [cmC c k F (Gl4 F.caps.length (Dc6 (fun X i=>(Dz1 X i).2) m i X))]:=by
 have hs:=ok.small
 intro m
 induction m with
 | zero =>
  intro i X h0 hi
  refine CtJ.of M9 fun h r=>Tr.eq (A94 ..) ?_; (try simp only[Nr,Nl,Nat.reduceAdd,Nat.reduceMul,Int.reduceToNat])
  refine Tr.condF (by simp; omega) ?_
  refine B1 (cmC c k F X) fun u=>?_; (try simp only[Nr,Nl,Nat.reduceAdd,Nat.reduceMul,Int.reduceToNat])
  refine Tr.pcall (Gr2 c k F.env F.caps X.bad 3 ok.small) ?_; (try simp only[Nr,Nl,Nat.reduceAdd,Nat.reduceMul,Int.reduceToNat]); (repeat' first|refine Gu ?_|(with_reducible first|refine Gn fun b h=>?_|apply Gx|apply Gy|rintro px rfl|refine fun(h:H)=>?_|intro hb)|refine Gs ?_|refine Gt ?_|exact Gz rfl|fail)
  refine A9 (cmC c k F X) () ?_; (try simp only[Nr,Nl,Nat.reduceAdd,Nat.reduceMul,Int.reduceToNat])
  refine Tr.xRun (G51 c k F ok (3 + F.caps.length) 0 X (by omega) (by omega)) ?_
  rintro _ h ⟨rfl,o⟩
  exact ⟨rfl,o⟩
 | succ m ih =>
  intro i X h0 hi
  have e1:IntKind.wrap .i64 (i + 1) = i + 1:=by rw [A6]; omega
  refine CtJ.of M9 fun h r=>Tr.eq (A94 ..) ?_; (try simp only[Nr,Nl,Nat.reduceAdd,Nat.reduceMul,Int.reduceToNat])
  refine Tr.condT (by simp; omega) ?_
  refine Tr.xCall (Dz8 c k F X ok i) ?_; rintro _ h ⟨rfl,o⟩ <;> (refine (?_:Tr _ _ _ _) o; (try simp only[Nr,Nl,Nat.reduceAdd,Nat.reduceMul,Int.reduceToNat]); (repeat' first|refine Gu ?_|(with_reducible first|refine Gn fun b h=>?_|apply Gx|apply Gy|rintro px rfl|refine fun(h:H)=>?_|intro hb)|refine Gs ?_|refine Gt ?_|exact Gz rfl|fail))
  rw [e1]
  refine Tr.xRun (ih (i + 1) (Dz1 X i).2 (by omega) (by omega)) ?_
  rintro _ h ⟨rfl,o⟩
  exact ⟨rfl,o⟩
theorem Hb9 (c k:Nat) (F:Fr) (ok:FrOk F):∀ (m:Nat) (i:Int) (X:CX),0 ≤ i → i + m = 8 →
  CtJ G1 B5 Aa5 [(0,P0 c),(5,int i)] [cmC c k F X] fun v own=>v = .tuple ⟨[]⟩ ∧ own [cmC c k F (Gm1 F.caps.length (Dc6 (fun X i=>(Dw9 X i).2) m i X))]:=by
 intro m
 induction m with
 | zero =>
  intro i X h0 hi
  refine CtJ.of M9 fun h r=>Tr.eq (A91 ..) ?_; (try simp only[Nr,Nl,Nat.reduceAdd,Nat.reduceMul,Int.reduceToNat])
  refine Tr.condF (by simp; omega) ?_
  refine Tr.xRun (G90 c k F ok 12 0 X (by omega) (by omega)) ?_
  rintro _ h ⟨rfl,o⟩
  exact ⟨rfl,o⟩
 | succ m ih =>
  intro i X h0 hi
  have e1:IntKind.wrap .i64 (i + 1) = i + 1:=by rw [A6]; omega
  refine CtJ.of M9 fun h r=>Tr.eq (A91 ..) ?_; (try simp only[Nr,Nl,Nat.reduceAdd,Nat.reduceMul,Int.reduceToNat])
  refine Tr.condT (by simp; omega) ?_
  refine Tr.xCall (D09 c k F X ok i) ?_; rintro _ h ⟨rfl,o⟩ <;> (refine (?_:Tr _ _ _ _) o; (try simp only[Nr,Nl,Nat.reduceAdd,Nat.reduceMul,Int.reduceToNat]); (repeat' first|refine Gu ?_|(with_reducible first|refine Gn fun b h=>?_|apply Gx|apply Gy|rintro px rfl|refine fun(h:H)=>?_|intro hb)|refine Gs ?_|refine Gt ?_|exact Gz rfl|fail))
  rw [e1]
  refine Tr.xRun (ih (i + 1) (Dw9 X i).2 (by omega) (by omega)) ?_
  rintro _ h ⟨rfl,o⟩
  exact ⟨rfl,o⟩
theorem Hv6 (c k:Nat) (F:Fr) (X:CX) (ok:FrOk F):Ct A7 B5 [P0 c] [cmC c k F X] fun v own=>v = .tuple ⟨[]⟩ ∧ own [cmC c k F (E25 X)]:=by
 refine Ct.of M9 rfl fun h r=>Tr.eq (Dr7 ..) ?_; (try simp only[Nr,Nl,Nat.reduceAdd,Nat.reduceMul,Int.reduceToNat])
 intro o
 obtain ⟨u,o1⟩:=Own.unfold (cmC c k F X) o
 have f:=(Own.front o1 (i:=2) rfl).pure
 have e:E25 X = lookN F.caps.length X:=by unfold E25; rw [f.mlen ok]
 rw [e]
 refine (?_:Tr _ _ _ _) o
 refine Tr.xRun (Hb9 c k F ok 8 0 X (by omega) (by omega)) ?_
 rintro _ h ⟨rfl,o⟩
 exact ⟨rfl,o⟩
end Go.EQ
