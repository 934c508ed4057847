/- The commons: what one holds for bad another one does not; one record set changes no other -/
import Derived.Test.YthhmplobccgeiaaGreatMe
set_option linter.unusedVariables false
set_option linter.unusedSimpArgs false
set_option linter.unusedSectionVars false
set_option maxRecDepth 10000
namespace Go.EQ
open Go Go.NN
theorem bc_len (l : List UInt8) : (byteCells l).length = l.length := by simp [byteCells]
theorem bc_get {l : List UInt8} {i : Nat} {x : UInt8} (h : l[i]? = some x) : (byteCells l)[i]? = some (.int .u8 x.toNat) := by
 unfold byteCells; rw [List.getElem?_map,h]; rfl
def sumF (n : Int) (l : List UInt8) : Int := l.foldl (fun n c=>IntKind.wrap .u8 (n + c.toNat)) n
def sumB (l : List UInt8) : Int := sumF (IntKind.wrap .u8 l.length) l
theorem ct_Sum_L1 (p : HP) (a : Option Addr) (ro : Bool) (n c d : Nat) (l : List UInt8) [ks : IsSl p a ro Y_uint8 1 n c (byteCells l)] (x : Nat) (hx : x ≤ l.length) (hl : l.length ≤ most) : ∀ (m i : Nat) (acc : Int),x - i = m → i ≤ x →
  CtPJ JUMP F_codec_Sum T_codec_Sum_L1 [(3,.int .u8 acc),(9,.slice a x d),(10,int x),(11,int i)] [p] (.int .u8 (sumF acc ((l.take x).drop i))) := by
 intro m
 induction m with
 | zero =>
  intro i acc hm hi
  refine CtPJ.of k_codec_Sum fun h r=>Tr.eq (e_codec_Sum_L1 ..) ?_; (try simp only[Nr,Nl,Nat.reduceAdd,Nat.reduceMul,Int.reduceToNat])
  refine Tr.condF (by simp; omega) ?_
  refine Tr.some fun o=>?_
  rw [List.drop_eq_nil_of_le (by simp; omega)]; exact ⟨rfl,rfl⟩
 | succ m ih =>
  intro i acc hm hi
  have hlt : i < (l.take x).length := by rw [List.length_take]; omega
  have hp : l[i]? = some (l.take x)[i] := by
   rw [List.getElem_take]; exact List.getElem?_eq_getElem (by omega)
  have hd : (l.take x).drop i = (l.take x)[i] :: (l.take x).drop (i + 1) := List.drop_eq_getElem_cons hlt
  generalize (l.take x)[i] = y at hp hd
  have e1 : IntKind.wrap .i64 ((i : Int) + 1) = ((i + 1 : Nat) : Int) := by rw [wrap_eq]; simp only [most] at hl; omega
  refine CtPJ.of k_codec_Sum fun h r=>Tr.eq (e_codec_Sum_L1 ..) ?_; (try simp only[Nr,Nl,Nat.reduceAdd,Nat.reduceMul,Int.reduceToNat])
  refine Tr.condT (by simp; omega) ?_
  refine tr_slFact 0 rfl fun h1 h2 h3=>?_
  rw [bc_len] at h1
  (repeat' first|refine Gu ?_|(with_reducible first|refine Gn fun b h=>?_|apply Gx|apply Gy|rintro px rfl|refine fun(h:H)=>?_|intro hb)|refine Gs ?_|refine Gt ?_|exact Gz rfl|fail)
  refine Tr.xIntS (v := y.toNat) (by simpa using bc_get hp) ?_
  rw [e1,hd]
  exact tr_prunO (ih (i + 1) _ (by omega) (by omega)) (r := r) (by simp) fun o=>⟨rfl,rfl⟩
theorem ct_Sum (p : HP) (a : Option Addr) (ro : Bool) (n c d : Nat) (l : List UInt8) [ks : IsSl p a ro Y_uint8 1 n c (byteCells l)] (x : Nat) (hx : x ≤ l.length) (hl : l.length ≤ most) :
  CtP CALL F_codec_Sum [.slice a x d] [p] (.int .u8 (sumB (l.take x))) := by
 refine CtP.of k_codec_Sum rfl fun h r=>Tr.eq (e_codec_Sum ..) ?_; (try simp only[Nr,Nl,Nat.reduceAdd,Nat.reduceMul,Int.reduceToNat])
 have e : (l.take x).length = x := by rw [List.length_take]; omega
 have J := ct_Sum_L1 p a ro n c d l x hx hl _ 0 (IntKind.wrap .u8 x) rfl (by omega)
 rw [List.drop_zero] at J
 refine tr_prunO J (r := r) (by simp) fun o=>⟨?_,rfl⟩
 unfold sumB; rw [e]
def findB : Nat → List UInt8 → Int
 | _,[]=>-1
 | i,x :: l=>if x ≠ 0 then i else findB (i + 1) l
theorem findB_any : ∀ (l : List UInt8) (i : Nat),decide (findB i l ≥ 0) = !l.all (· == 0)
 | [],i=>by simp [findB]
 | x :: l,i=>by
  unfold findB
  by_cases h : x = 0
  ·rw [if_neg (by simp [h]),findB_any l (i + 1)]; simp [h]
  ·rw [if_pos h]; simp [h]
theorem ct_nz (x : UInt8) : CtP CALL F_codec_Blank_1 [.int .u8 x.toNat] [] (.bool (x != 0)) := by
 refine CtP.of k_codec_Blank_1 rfl fun h r=>Tr.eq (e_codec_Blank_1 ..) ?_; (try simp only[Nr,Nl,Nat.reduceAdd,Nat.reduceMul,Int.reduceToNat])
 refine Tr.some fun o=>?_
 refine ⟨?_,rfl⟩
 congr 1
 have : ((x.toNat : Int) = 0) ↔ x = 0 := by
  constructor
  ·intro h; exact UInt8.toNat.inj (by simpa using (show x.toNat = 0 by omega))
  ·rintro rfl; rfl
 by_cases h : x = 0
 ·subst h; rfl
 ·rw [bne_iff_ne.2 h,bne_iff_ne]; intro h2; exact h (this.1 h2)
theorem ct_IndexFuncB_L1 (p : HP) (a : Option Addr) (ro : Bool) (c : Nat) (l : List UInt8) [ks : IsSl p a ro Y_uint8 1 l.length c (byteCells l)] (hl : l.length ≤ most) : ∀ (m i : Nat),l.length - i = m → i ≤ l.length →
  CtPJ JUMP F_slices_IndexFunc_s_byte_byte T_slices_IndexFunc_s_byte_byte_L1 [(0,.slice a l.length c),(1,.func (.func F_codec_Blank_1) ⟨[]⟩ ⟨[]⟩),(7,int l.length),(8,int i)] [p] (int (findB i (l.drop i))) := by
 intro m
 induction m with
 | zero =>
  intro i hm hi
  refine CtPJ.of k_slices_IndexFunc_s_byte_byte fun h r=>Tr.eq (e_slices_IndexFunc_s_byte_byte_L1 ..) ?_; (try simp only[Nr,Nl,Nat.reduceAdd,Nat.reduceMul,Int.reduceToNat])
  refine Tr.condF (by simp; omega) ?_
  refine Tr.some fun o=>?_
  rw [List.drop_eq_nil_of_le (by omega)]; exact ⟨rfl,rfl⟩
 | succ m ih =>
  intro i hm hi
  have hlt : i < l.length := by omega
  have hp : l[i]? = some l[i] := List.getElem?_eq_getElem hlt
  have hd : l.drop i = l[i] :: l.drop (i + 1) := List.drop_eq_getElem_cons hlt
  generalize l[i] = x at hp hd
  have e1 : IntKind.wrap .i64 ((i : Int) + 1) = ((i + 1 : Nat) : Int) := by rw [wrap_eq]; simp only [most] at hl; omega
  refine CtPJ.of k_slices_IndexFunc_s_byte_byte fun h r=>Tr.eq (e_slices_IndexFunc_s_byte_byte_L1 ..) ?_; (try simp only[Nr,Nl,Nat.reduceAdd,Nat.reduceMul,Int.reduceToNat])
  refine Tr.condT (by simp; omega) ?_
  (repeat' first|refine Gu ?_|(with_reducible first|refine Gn fun b h=>?_|apply Gx|apply Gy|rintro px rfl|refine fun(h:H)=>?_|intro hb)|refine Gs ?_|refine Gt ?_|exact Gz rfl|fail)
  refine Tr.xIntS (v := x.toNat) (by simpa using bc_get hp) ?_
  (repeat' first|refine Gu ?_|(with_reducible first|refine Gn fun b h=>?_|apply Gx|apply Gy|rintro px rfl|refine fun(h:H)=>?_|intro hb)|refine Gs ?_|refine Gt ?_|exact Gz rfl|fail)
  refine tr_pcallO (ct_nz x) (r := p :: r) (by simp) ?_
  by_cases hx : x = 0
  ·have : (x != 0) = false := by simp [hx]
   rw [this]
   (repeat' first|refine Gu ?_|(with_reducible first|refine Gn fun b h=>?_|apply Gx|apply Gy|rintro px rfl|refine fun(h:H)=>?_|intro hb)|refine Gs ?_|refine Gt ?_|exact Gz rfl|fail)
   rw [e1]
   refine tr_prunO (ih (i + 1) (by omega) (by omega)) (r := r) (by simp) fun o=>?_
   rw [hd,findB,if_neg (by simp [hx])]; exact ⟨by first | rfl | trivial,by first | rfl | trivial⟩
  ·have : (x != 0) = true := by simp [hx]
   rw [this]
   (repeat' first|refine Gu ?_|(with_reducible first|refine Gn fun b h=>?_|apply Gx|apply Gy|rintro px rfl|refine fun(h:H)=>?_|intro hb)|refine Gs ?_|refine Gt ?_|exact Gz rfl|fail)
   refine Tr.some fun o=>?_
   rw [hd,findB,if_pos hx]; exact ⟨by first | rfl | trivial,by first | rfl | trivial⟩
theorem ct_Blank (p : HP) (a : Option Addr) (ro : Bool) (c : Nat) (l : List UInt8) [ks : IsSl p a ro Y_uint8 1 l.length c (byteCells l)] (hl : l.length ≤ most) :
  CtP CALL F_codec_Blank [.slice a l.length c] [p] (.bool (l.all (· == 0))) := by
 have j : CtP CALL F_slices_IndexFunc_s_byte_byte [.slice a l.length c,.func (.func F_codec_Blank_1) ⟨[]⟩ ⟨[]⟩] [p] (int (findB 0 l)) := by
  refine CtP.of k_slices_IndexFunc_s_byte_byte rfl fun h r=>Tr.eq (e_slices_IndexFunc_s_byte_byte ..) ?_; (try simp only[Nr,Nl,Nat.reduceAdd,Nat.reduceMul,Int.reduceToNat])
  exact tr_prunO (ct_IndexFuncB_L1 p a ro c l hl _ 0 rfl (by omega)) (r := r) (by simp) fun o=>⟨rfl,rfl⟩
 have j2 : CtP CALL F_slices_ContainsFunc_s_byte_byte [.slice a l.length c,.func (.func F_codec_Blank_1) ⟨[]⟩ ⟨[]⟩] [p] (.bool (!l.all (· == 0))) := by
  refine CtP.of k_slices_ContainsFunc_s_byte_byte rfl fun h r=>Tr.eq (e_slices_ContainsFunc_s_byte_byte ..) ?_; (try simp only[Nr,Nl,Nat.reduceAdd,Nat.reduceMul,Int.reduceToNat])
  refine tr_pcallO j (r := r) (by simp) ?_
  (repeat' first|refine Gu ?_|(with_reducible first|refine Gn fun b h=>?_|apply Gx|apply Gy|rintro px rfl|refine fun(h:H)=>?_|intro hb)|refine Gs ?_|refine Gt ?_|exact Gz rfl|fail)
  refine Tr.some fun o=>?_
  rw [findB_any]; exact ⟨by first | rfl | trivial,by first | rfl | trivial⟩
 refine CtP.of k_codec_Blank rfl fun h r=>Tr.eq (e_codec_Blank ..) ?_; (try simp only[Nr,Nl,Nat.reduceAdd,Nat.reduceMul,Int.reduceToNat])
 refine tr_pcallO j2 (r := r) (by simp) ?_
 (repeat' first|refine Gu ?_|(with_reducible first|refine Gn fun b h=>?_|apply Gx|apply Gy|rintro px rfl|refine fun(h:H)=>?_|intro hb)|refine Gs ?_|refine Gt ?_|exact Gz rfl|fail)
 refine Tr.some fun o=>?_
 exact ⟨by simp,rfl⟩
theorem ct_EqualB_L1 (p q : HP) (a : Option Addr) (ro : Bool) (c : Nat) (a2 : Option Addr) (ro2 : Bool) (c2 : Nat) (l m : List UInt8) [ks : IsSl p a ro Y_uint8 1 l.length c (byteCells l)] [ks2 : IsSl q a2 ro2 Y_uint8 1 m.length c2 (byteCells m)] (hl : l.length ≤ most) (hlm : m.length = l.length) : ∀ (k i : Nat),l.length - i = k → i ≤ l.length →
  CtPJ JUMP F_slices_Equal_s_byte_byte T_slices_Equal_s_byte_byte_L1 [(0,.slice a l.length c),(1,.slice a2 m.length c2),(12,int l.length),(13,int i)] [p,q] (.bool (decide (l.drop i = m.drop i))) := by
 intro k
 induction k with
 | zero =>
  intro i hm hi
  refine CtPJ.of k_slices_Equal_s_byte_byte fun h r=>Tr.eq (e_slices_Equal_s_byte_byte_L1 ..) ?_; (try simp only[Nr,Nl,Nat.reduceAdd,Nat.reduceMul,Int.reduceToNat])
  refine Tr.condF (by simp; omega) ?_
  refine Tr.some fun o=>?_
  rw [List.drop_eq_nil_of_le (by omega),List.drop_eq_nil_of_le (by omega)]; exact ⟨rfl,rfl⟩
 | succ k ih =>
  intro i hm hi
  have hlt : i < l.length := by omega
  have hp : l[i]? = some l[i] := List.getElem?_eq_getElem hlt
  have hd : l.drop i = l[i] :: l.drop (i + 1) := List.drop_eq_getElem_cons hlt
  have hlt2 : i < m.length := by omega
  have hp2 : m[i]? = some m[i] := List.getElem?_eq_getElem hlt2
  have hd2 : m.drop i = m[i] :: m.drop (i + 1) := List.drop_eq_getElem_cons hlt2
  generalize l[i] = x at hp hd
  generalize m[i] = y at hp2 hd2
  have e1 : IntKind.wrap .i64 ((i : Int) + 1) = ((i + 1 : Nat) : Int) := by rw [wrap_eq]; simp only [most] at hl; omega
  refine CtPJ.of k_slices_Equal_s_byte_byte fun h r=>Tr.eq (e_slices_Equal_s_byte_byte_L1 ..) ?_; (try simp only[Nr,Nl,Nat.reduceAdd,Nat.reduceMul,Int.reduceToNat])
  refine Tr.condT (by simp; omega) ?_
  (repeat' first|refine Gu ?_|(with_reducible first|refine Gn fun b h=>?_|apply Gx|apply Gy|rintro px rfl|refine fun(h:H)=>?_|intro hb)|refine Gs ?_|refine Gt ?_|exact Gz rfl|fail)
  refine Tr.xIntS (v := x.toNat) (by simpa using bc_get hp) ?_
  (repeat' first|refine Gu ?_|(with_reducible first|refine Gn fun b h=>?_|apply Gx|apply Gy|rintro px rfl|refine fun(h:H)=>?_|intro hb)|refine Gs ?_|refine Gt ?_|exact Gz rfl|fail)
  refine Tr.xIntS (v := y.toNat) (by simpa using bc_get hp2) ?_
  by_cases hx : x = y
  ·subst hx
   refine Tr.condF (by simp) ?_
   rw [e1]
   refine tr_prunO (ih (i + 1) (by omega) (by omega)) (r := r) (by simp) fun o=>?_
   rw [hd,hd2]; exact ⟨by simp,rfl⟩
  ·refine Tr.condT (by rw [bne_iff_ne]; intro h2; exact hx (UInt8.toNat.inj (by omega))) ?_
   refine Tr.some fun o=>?_
   rw [hd,hd2]; exact ⟨by simp [hx],rfl⟩
theorem ct_EqualB (p q : HP) (a : Option Addr) (ro : Bool) (c : Nat) (a2 : Option Addr) (ro2 : Bool) (c2 : Nat) (l m : List UInt8) [ks : IsSl p a ro Y_uint8 1 l.length c (byteCells l)] [ks2 : IsSl q a2 ro2 Y_uint8 1 m.length c2 (byteCells m)] (hl : l.length ≤ most) :
  CtP CALL F_slices_Equal_s_byte_byte [.slice a l.length c,.slice a2 m.length c2] [p,q] (.bool (decide (l = m))) := by
 refine CtP.of k_slices_Equal_s_byte_byte rfl fun h r=>Tr.eq (e_slices_Equal_s_byte_byte ..) ?_; (try simp only[Nr,Nl,Nat.reduceAdd,Nat.reduceMul,Int.reduceToNat])
 by_cases h : m.length = l.length
 ·refine Tr.condF (by simp [h]) ?_
  have J := ct_EqualB_L1 p q a ro c a2 ro2 c2 l m hl h _ 0 rfl (by omega)
  simp only [List.drop_zero] at J
  exact tr_prunO J (r := r) (by simp) fun o=>⟨rfl,rfl⟩
 ·refine Tr.condT (by rw [bne_iff_ne]; omega) ?_
  refine Tr.some fun o=>?_
  exact ⟨by rw [decide_eq_false (fun e=>h (by rw [e]))],rfl⟩
theorem ct_cloneB (p : HP) (ro : Bool) (a : Option Addr) (c : Nat) (l : List UInt8) [ks : IsSl p a ro Y_uint8 1 l.length c (byteCells l)] (hn : l.length ≤ most) :
  Ct CALL F_slices_Clone_s_byte_byte [.slice a l.length c] [p] fun v own=>∃ a' c',v = .slice a' l.length c' ∧ own [slC false Y_uint8 1 a' l.length c' (byteCells l),p] := by
 refine Ct.of k_slices_Clone_s_byte_byte rfl fun h r=>Tr.eq (e_slices_Clone_s_byte_byte ..) ?_; (try simp only[Nr,Nl,Nat.reduceAdd,Nat.reduceMul,Int.reduceToNat])
 refine tr_slFact 0 rfl fun hl hc _=>?_
 refine Tr.cond (fun hb=>?_) fun hb=>?_
 ·obtain rfl : a = none := by simpa using hb
  refine tr_nilSl false Y_uint8 1 (by omega) ?_
  intro o
  have o1 := (o.tail.head ks.en).slNone
  obtain rfl : l = [] := by
   have := o1.2.2.1
   cases l with
   | nil=>rfl
   | cons x l=>simp [byteCells] at this
  obtain rfl : c = 0 := o1.2.1
  exact ⟨_,_,rfl,none,0,rfl,o⟩
 ·(repeat' first|refine Gu ?_|(with_reducible first|refine Gn fun b h=>?_|apply Gx|apply Gy|rintro px rfl|refine fun(h:H)=>?_|intro hb)|refine Gs ?_|refine Gt ?_|exact Gz rfl|fail)
  refine tr_asSl 0 rfl 1 0 rfl (by omega) ?_; (try simp only[Nr,Nl,Nat.reduceAdd,Nat.reduceMul,Int.reduceToNat])
  (repeat' first|refine Gu ?_|(with_reducible first|refine Gn fun b h=>?_|apply Gx|apply Gy|rintro px rfl|refine fun(h:H)=>?_|intro hb)|refine Gs ?_|refine Gt ?_|exact Gz rfl|fail)
  refine Tr.xApd ⟨by simp [byteCells],by simp [byteCells,Value.oneCell],by omega⟩ fun a' c' h'=>?_
  (try simp only[Nr,Nl,Nat.reduceAdd,Nat.reduceMul,Int.reduceToNat])
  refine Tr.some fun o=>⟨a',c',by simp,by simpa using o⟩
end Go.EQ
namespace Go.NN
section
variable {l : List HP} {h : H} {α : Type} {Q : α → H → Prop} {ro : Bool} {e : TypeId} {cs : List Value}
instance {f : Fn} {a c : Array Value} {k : Option α} : Dx (one (.func f a c) k) k := ⟨rfl⟩
theorem Tr.xPCells {a : Option Addr} {n c sz : Nat} {vs cs' : List Value} {l' : List HP} {k : H → Option (α × H)} [k1 : LkO l a false e sz n c cs] (hn : 0 < n) (hj : vs ≠ [] ∧ vs.length ≤ cs.length ∧ vs.all Value.oneCell = true ∧ vs ++ cs.drop vs.length = cs') [k2 : UpO l a (slC false e sz a n c cs') e sz n c cs l'] (t : ∀ h',Tr l' h' (k h') Q) : Tr l h (NN.pCells a vs h k) Q := fun ow=>by
 obtain ⟨i,p,hi,hp⟩ := k1.ix
 obtain ⟨y,rfl⟩ := ((ow.front hi).head hp).slSome hn
 have : NN.pCells (Option.some y) vs h k = NN.pAgg ((bare y).add 0) vs h k := by
  show NN.pAgg (bare y) vs h k = _
  congr 1
 rw [this]
 exact Tr.xPAggS (k1 := k1) ⟨hj.1,by omega,hj.2.2.1,by simpa using hj.2.2.2⟩ (k2 := k2) t ow
end
end Go.NN

set_option maxRecDepth 10000
namespace Go.EQ
open Go Go.NN
def b8 (x : Int) : UInt8 := UInt8.ofNat (x % 256).toNat
theorem wrap8 (x : Int) : IntKind.wrap .u8 x = x % 256 := wrap8_eq x
theorem b8_val (x : Int) : IntKind.wrap .u8 x = ((b8 x).toNat : Int) := by
 rw [wrap8,b8,UInt8.toNat_ofNat']
 omega
def sum8 (l : List UInt8) : UInt8 := b8 (sumB l)
theorem sumF_rng : ∀ (l : List UInt8) (n : Int),0 ≤ n ∧ n < 256 → 0 ≤ sumF n l ∧ sumF n l < 256
 | [],n,h=>h
 | x :: l,n,h=>sumF_rng l _ (by show 0 ≤ IntKind.wrap .u8 (n + x.toNat) ∧ IntKind.wrap .u8 (n + x.toNat) < 256; rw [wrap8]; omega)
theorem sum8_val (l : List UInt8) : sumB l = ((sum8 l).toNat : Int) := by
 have := sumF_rng l (IntKind.wrap .u8 l.length) (by rw [wrap8]; omega)
 unfold sum8
 rw [← b8_val,wrap8]
 unfold sumB at *; omega
structure FileS where
 kind : Int
 pipe : Int
 refs : Int
 flags : Int
abbrev FileS.zero : FileS := ⟨0,0,0,0⟩
def okF (f : FileS) : Bool := decide (f.kind ≥ 1) && decide (f.kind ≤ 3) && decide (f.pipe ≥ 0) && decide (f.pipe ≤ 7) && (f.kind != 3 || f.pipe == 0) && decide (f.refs ≥ 1) && decide (f.refs ≤ 64) && (f.flags == 0 || f.flags == 1)
def headF (f : FileS) : List UInt8 := [b8 f.kind,b8 f.pipe,b8 f.refs,b8 f.flags,179]
def encF (f : FileS) : List UInt8 := headF f ++ [sum8 (headF f),0,0]
theorem sameV_agg {l : List Value} (h : l.all (fun v=>match v with | .int _ _=>true | _=>false) = true) : sameV (.agg ⟨l⟩) (.agg ⟨l⟩) = true := by
 show sameL l l = true
 induction l with
 | nil=>rfl
 | cons v l ih =>
  simp only [List.all_cons,Bool.and_eq_true] at h
  show (same1 v v && sameL l l) = true
  rw [ih h.2,Bool.and_true]
  cases v <;> first | (simp [same1]; done) | exact absurd h.1 (by simp)
theorem bc_at {l : List UInt8} {i : Nat} (h : i < l.length) : (byteCells l)[i]? = some (.int .u8 ((l.getD i 0).toNat : Int)) := by
 rw [List.getD_eq_getElem?_getD,List.getElem?_eq_getElem h]; exact bc_get (List.getElem?_eq_getElem h)
theorem wrap_b (x : UInt8) : IntKind.wrap .i64 (x.toNat : Int) = (x.toNat : Int) := by
 have := x.toNat_lt; rw [wrap_eq]; omega
abbrev byI (l : List UInt8) (i : Nat) : Int := ((l.getD i 0).toNat : Int)
def getF (l : List UInt8) : FileS := ⟨byI l 0,byI l 1,byI l 2,byI l 3⟩
def isF (l : List UInt8) : Bool := okF (getF l) && decide (encF (getF l) = l)
theorem ct_clone8 (n : Nat) (a : Option Addr) (c : Nat) (l : List UInt8) (hl : l.length = n) (hn : n ≤ most) : Ct CALL F_slices_Clone_s_byte_byte [.slice a n c] [slC false Y_uint8 1 a n c (byteCells l)] fun v own=>∃ a' c',v = .slice a' n c' ∧ own [slC false Y_uint8 1 a' n c' (byteCells l),slC false Y_uint8 1 a n c (byteCells l)] := by
 subst hl; exact ct_cloneB (slC false Y_uint8 1 a l.length c (byteCells l)) false a c l hn
theorem ct_blank8 (n : Nat) (a : Option Addr) (c : Nat) (l : List UInt8) (hl : l.length = n) (hn : n ≤ most) : CtP CALL F_codec_Blank [.slice a n c] [slC false Y_uint8 1 a n c (byteCells l)] (.bool (l.all (· == 0))) := by
 subst hl; exact ct_Blank (slC false Y_uint8 1 a l.length c (byteCells l)) a false c l hn
def decF (l : List UInt8) : FileS × Int := if l.all (· == 0) then (.zero,0) else if isF l then (getF l,1) else (.zero,2)
end Go.EQ

set_option maxRecDepth 10000
namespace Go.EQ
open Go Go.NN
structure PipeS where
 head : Int
 count : Int
 readers : Int
 writers : Int
 data : List UInt8
 len : data.length = 32
abbrev PipeS.zero : PipeS := ⟨0,0,0,0,List.replicate 32 0,rfl⟩
abbrev pipeL (p : PipeS) : List Value := int p.head :: int p.count :: int p.readers :: int p.writers :: byteCells p.data
theorem pipeL_len {p : PipeS} (hd : p.data.length = 32) : (pipeL p).length = 36 := by simp [pipeL,bc_len,hd]
theorem pipeL_data {p : PipeS} (hd : p.data.length = 32) : 4 + 32 ≤ (pipeL p).length ∧ ((pipeL p).drop 4).take 32 = byteCells p.data := ⟨by rw [pipeL_len hd]; exact Nat.le_refl _,by
 rw [show (pipeL p).drop 4 = byteCells p.data from rfl,List.take_of_length_le (by rw [bc_len,hd]; exact Nat.le_refl _)]⟩
theorem pipeL_one (p : PipeS) : (pipeL p).all Value.oneCell = true := by simp [pipeL,byteCells_one,Value.oneCell]
theorem sameV_pipe (p : PipeS) : sameV (.agg ⟨pipeL p⟩) (.agg ⟨pipeL p⟩) = true := sameV_agg (by simp [pipeL,byteCells])
instance {p : PipeS} : LenC (pipeL p) 36 := ⟨pipeL_len p.len⟩
instance {p : PipeS} : PartC (pipeL p) 0 36 (pipeL p) := ⟨partN_all (pipeL_len p.len)⟩
instance {p : PipeS} {cs : List Value} [k : LenC cs 36] : SetsC cs 0 (pipeL p) (pipeL p) := ⟨setsN_all k.ok (pipeL_len p.len) (pipeL_one p)⟩
instance {p : PipeS} : SameC (.agg ⟨pipeL p⟩) := ⟨sameV_pipe p⟩
def okP (p : PipeS) : Bool := decide (0 ≤ p.head ∧ p.head ≤ 31) && decide (0 ≤ p.count ∧ p.count ≤ 32) && decide (0 ≤ p.readers ∧ p.readers ≤ 8) && decide (0 ≤ p.writers ∧ p.writers ≤ 8)
def headP (p : PipeS) : List UInt8 := [1,b8 p.head,b8 p.count,b8 p.readers,b8 p.writers,197]
def encP (p : PipeS) : List UInt8 := headP p ++ sum8 (headP p) :: 0 :: p.data
theorem encP_len {p : PipeS} (hd : p.data.length = 32) : (encP p).length = 40 := by simp [encP,headP,hd]
theorem ct_in1 (n m : Int) : CtP CALL F_ring_Ok_1 [int n,int m] [] (.bool (decide (0 ≤ n ∧ n ≤ m))) := by
 refine CtP.of k_ring_Ok_1 rfl fun h r=>Tr.eq (e_ring_Ok_1 ..) ?_; (try simp only[Nr,Nl,Nat.reduceAdd,Nat.reduceMul,Int.reduceToNat])
 (repeat' first|refine Gu ?_|(with_reducible first|refine Gn fun b h=>?_|apply Gx|apply Gy|rintro px rfl|refine fun(h:H)=>?_|intro hb)|refine Gs ?_|refine Gt ?_|exact Gz rfl|fail)
 refine Tr.some fun o=>?_
 refine ⟨?_,rfl⟩
 refine congrArg Value.bool ?_; rw [Bool.eq_iff_iff]; simp only [Bool.and_eq_true,Bool.or_eq_true,Bool.not_eq_true',Bool.not_eq_false',decide_eq_true_eq,decide_eq_false_iff_not,bne_iff_ne,beq_iff_eq,ne_eq,wrap_eq,mm2_max,mm2_min,ge_iff_le,gt_iff_lt]; first | done | omega
instance {n m : Int} {l : List HP} : PCi CALL F_ring_Ok_1 [.int .i64 n,.int .i64 m] l (.bool (decide (0 ≤ n ∧ n ≤ m))) := PCi.of (ct_in1 n m)
theorem ct_okP (p : PipeS) : Ct CALL F_ring_Ok [.agg ⟨pipeL p⟩] [] fun v own=>v = .bool (okP p) ∧ own [] := by
 refine Ct.of k_ring_Ok rfl fun h r=>Tr.eq (e_ring_Ok ..) ?_; (try simp only[Nr,Nl,Nat.reduceAdd,Nat.reduceMul,Int.reduceToNat])
 (repeat' first|refine Gu ?_|(with_reducible first|refine Gn fun b h=>?_|apply Gx|apply Gy|rintro px rfl|refine fun(h:H)=>?_|intro hb)|refine Gs ?_|refine Gt ?_|exact Gz rfl|fail)
 refine Tr.some fun o=>?_
 exact ⟨rfl,o.sub⟩
theorem ct_putP (a : Option Addr) (c : Nat) (p : PipeS) : Ct CALL F_ring_put [.agg ⟨pipeL p⟩,.slice a 40 c] [slC false Y_uint8 1 a 40 c (byteCells (List.replicate 40 0))] fun v own=>v = .bool (okP p) ∧ own [slC false Y_uint8 1 a 40 c (byteCells (if okP p then encP p else List.replicate 40 0))] := by
 have hd := p.len
 refine Ct.of k_ring_put rfl fun h r=>Tr.eq (e_ring_put ..) ?_; (try simp only[Nr,Nl,Nat.reduceAdd,Nat.reduceMul,Int.reduceToNat])
 refine Tr.nw fun b1 h=>?_
 (repeat' first|refine Gu ?_|(with_reducible first|refine Gn fun b h=>?_|apply Gx|apply Gy|rintro px rfl|refine fun(h:H)=>?_|intro hb)|refine Gs ?_|refine Gt ?_|exact Gz rfl|fail)
 refine Tr.xCall (ct_okP p) ?_; rintro _ h ⟨rfl,o⟩ <;> (refine (?_ : Tr _ _ _ _) o; (try simp only[Nr,Nl,Nat.reduceAdd,Nat.reduceMul,Int.reduceToNat]); (repeat' first|refine Gu ?_|(with_reducible first|refine Gn fun b h=>?_|rintro px rfl|refine fun(h:H)=>?_|intro hb)|refine Gs ?_|refine Gt ?_|exact Gz rfl|fail))
 cases hk : okP p with
 | false =>
  (repeat' first|refine Gu ?_|(with_reducible first|refine Gn fun b h=>?_|apply Gx|apply Gy|rintro px rfl|refine fun(h:H)=>?_|intro hb)|refine Gs ?_|refine Gt ?_|exact Gz rfl|fail)
  refine Tr.some fun o=>?_
  rw [if_neg (by simp)]
  exact ⟨rfl,o.sub⟩
 | true =>
  (repeat' first|refine Gu ?_|(with_reducible first|refine Gn fun b h=>?_|apply Gx|apply Gy|rintro px rfl|refine fun(h:H)=>?_|intro hb)|refine Gs ?_|refine Gt ?_|exact Gz rfl|fail)
  simp only [b8_val,List.drop_zero,List.take]
  refine tr_slFact 2 rfl fun hl hc _=>?_
  refine Tr.xPCells (cs' := byteCells (headP p ++ List.replicate 34 0)) (by omega) ⟨by simp,by simp [byteCells],by simp [Value.oneCell],rfl⟩ fun h=>?_
  (repeat' first|refine Gu ?_|(with_reducible first|refine Gn fun b h=>?_|apply Gx|apply Gy|rintro px rfl|refine fun(h:H)=>?_|intro hb)|refine Gs ?_|refine Gt ?_|exact Gz rfl|fail)
  refine Tr.pcall (ct_Sum (slC false Y_uint8 1 a 40 c (byteCells (headP p ++ List.replicate 34 0))) a false 40 c c (headP p ++ List.replicate 34 0) 6 (by simp [headP]) (by simp [headP,most])) ?_
  (try simp only[Nr,Nl,Nat.reduceAdd,Nat.reduceMul,Int.reduceToNat])
  (repeat' first|refine Gu ?_|(with_reducible first|refine Gn fun b h=>?_|apply Gx|apply Gy|rintro px rfl|refine fun(h:H)=>?_|intro hb)|refine Gs ?_|refine Gt ?_|exact Gz rfl|fail)
  rw [show List.take 6 (headP p ++ List.replicate 34 0 : List UInt8) = headP p from rfl,sum8_val]
  refine Tr.xVS (cs' := byteCells (headP p ++ sum8 (headP p) :: List.replicate 33 0)) ⟨by simp [byteCells,headP],rfl,rfl⟩ fun h=>?_
  (repeat' first|refine Gu ?_|(with_reducible first|refine Gn fun b h=>?_|apply Gx|apply Gy|rintro px rfl|refine fun(h:H)=>?_|intro hb)|refine Gs ?_|refine Gt ?_|exact Gz rfl|fail)
  refine Tr.xCellsB (xs := byteCells p.data) (pipeL_data p.len) ?_
  rw [moved_t (by omega),pCells_moved]
  refine Tr.xPAggS (cs' := byteCells (encP p)) ⟨?_,?_,byteCells_one _,?_⟩ fun h=>?_
  ·intro e; have := congrArg List.length e; simp [byteCells,hd] at this
  ·simp [byteCells,hd,headP]
  ·rw [bc_len,hd]
   simp [byteCells,encP,headP]
  refine Tr.some fun o=>?_
  simp only [if_true]
  exact ⟨trivial,o.sub⟩
abbrev codP (k : Nat) : HP := pt k (.cells Y_codec_Codec_api_Pipe false [int 40,.func (.func F_ring_put) ⟨[]⟩ ⟨[]⟩,.func (.func F_ring_get) ⟨[]⟩ ⟨[]⟩])
theorem ct_cEncodeP (k : Nat) (f : PipeS) : Ct CALL F_codec_Codec_api_Pipe_Encode [P0 k,.agg ⟨pipeL f⟩] [codP k] fun v own=>(okP f = true ∧ ∃ a,v = .tuple ⟨[.slice a 40 40,.bool true]⟩ ∧ own [codP k,slC false Y_uint8 1 a 40 40 (byteCells (encP f))]) ∨ (okP f = false ∧ v = .tuple ⟨[.slice none 0 0,.bool false]⟩ ∧ own [codP k]) := by
 refine Ct.of k_codec_Codec_api_Pipe_Encode rfl fun h r=>Tr.eq (e_codec_Codec_api_Pipe_Encode ..) ?_; (try simp only[Nr,Nl,Nat.reduceAdd,Nat.reduceMul,Int.reduceToNat])
 (repeat' first|refine Gu ?_|(with_reducible first|refine Gn fun b h=>?_|apply Gx|apply Gy|rintro px rfl|refine fun(h:H)=>?_|intro hb)|refine Gs ?_|refine Gt ?_|exact Gz rfl|fail)
 refine Tr.ck ⟨by omega,by omega,by simp [most]⟩ ?_
 refine Tr.nw fun b1 h=>?_
 rw [show manyN (Int.toNat 40) [.int .u8 0] = byteCells (List.replicate 40 0) from rfl]
 refine tr_asSl 0 rfl 1 40 rfl (by omega) ?_
 simp only [List.set_cons_zero]
 (try simp only[Nr,Nl,Nat.reduceAdd,Nat.reduceMul,Int.reduceToNat])
 (repeat' first|refine Gu ?_|(with_reducible first|refine Gn fun b h=>?_|rintro px rfl|refine fun(h:H)=>?_|intro hb)|refine Gs ?_|refine Gt ?_|exact Gz rfl|fail)
 refine Tr.bnd (Tr.condF rfl ?_)
 (repeat' first|refine Gu ?_|(with_reducible first|refine Gn fun b h=>?_|rintro px rfl|refine fun(h:H)=>?_|intro hb)|refine Gs ?_|refine Gt ?_|exact Gz rfl|fail)
 refine Tr.xCall (ct_putP (some ⟨b1,0,none⟩) 40 f) ?_; rintro _ h ⟨rfl,o⟩ <;> (refine (?_ : Tr _ _ _ _) o; (try simp only[Nr,Nl,Nat.reduceAdd,Nat.reduceMul,Int.reduceToNat]); (repeat' first|refine Gu ?_|(with_reducible first|refine Gn fun b h=>?_|rintro px rfl|refine fun(h:H)=>?_|intro hb)|refine Gs ?_|refine Gt ?_|exact Gz rfl|fail))
 refine Tr.some fun o=>(?_ : Tr _ _ _ _) o; (try simp only[Nr,Nl,Nat.reduceAdd,Nat.reduceMul,Int.reduceToNat])
 cases hk : okP f with
 | false =>
  (repeat' first|refine Gu ?_|(with_reducible first|refine Gn fun b h=>?_|apply Gx|apply Gy|rintro px rfl|refine fun(h:H)=>?_|intro hb)|refine Gs ?_|refine Gt ?_|exact Gz rfl|fail)
  refine Tr.some fun o=>?_
  exact .inr ⟨rfl,rfl,o.sub⟩
 | true =>
  (repeat' first|refine Gu ?_|(with_reducible first|refine Gn fun b h=>?_|apply Gx|apply Gy|rintro px rfl|refine fun(h:H)=>?_|intro hb)|refine Gs ?_|refine Gt ?_|exact Gz rfl|fail)
  refine Tr.some fun o=>?_
  simp only [if_true] at o
  exact .inl ⟨rfl,_,rfl,o.sub⟩
theorem ct_NewP : Ct CALL F_codec_New_api_Pipe [int 40,.func (.func F_ring_put) ⟨[]⟩ ⟨[]⟩,.func (.func F_ring_get) ⟨[]⟩ ⟨[]⟩] [] fun v own=>∃ k,v = P0 k ∧ own [codP k] := by
 refine Ct.of k_codec_New_api_Pipe rfl fun h r=>Tr.eq (e_codec_New_api_Pipe ..) ?_; (try simp only[Nr,Nl,Nat.reduceAdd,Nat.reduceMul,Int.reduceToNat])
 rw [show mm2 false (mm2 true 40 0) 64 = 40 from rfl]
 (repeat' first|refine Gu ?_|(with_reducible first|refine Gn fun b h=>?_|apply Gx|apply Gy|rintro px rfl|refine fun(h:H)=>?_|intro hb)|refine Gs ?_|refine Gt ?_|exact Gz rfl|fail)
 refine Tr.some fun o=>?_
 exact ⟨_,rfl,o.sub⟩
theorem ct_CodecP : Ct CALL F_ring_Codec [] [] fun v own=>∃ k,v = P0 k ∧ own [codP k] := by
 refine Ct.of k_ring_Codec rfl fun h r=>Tr.eq (e_ring_Codec ..) ?_; (try simp only[Nr,Nl,Nat.reduceAdd,Nat.reduceMul,Int.reduceToNat])
 refine Tr.xCall (ct_NewP) ?_; rintro _ h ⟨k,rfl,o⟩ <;> (refine (?_ : Tr _ _ _ _) o; (try simp only[Nr,Nl,Nat.reduceAdd,Nat.reduceMul,Int.reduceToNat]); (repeat' first|refine Gu ?_|(with_reducible first|refine Gn fun b h=>?_|apply Gx|apply Gy|rintro px rfl|refine fun(h:H)=>?_|intro hb)|refine Gs ?_|refine Gt ?_|exact Gz rfl|fail))
 refine Tr.some fun o=>?_
 exact ⟨_,rfl,o.sub⟩
theorem ct_EncodeP (f : PipeS) : Ct CALL F_ring_Encode [.agg ⟨pipeL f⟩] [] fun v own=>(okP f = true ∧ ∃ a,v = .tuple ⟨[.slice a 40 40,.bool true]⟩ ∧ own [slC false Y_uint8 1 a 40 40 (byteCells (encP f))]) ∨ (okP f = false ∧ v = .tuple ⟨[.slice none 0 0,.bool false]⟩ ∧ own []) := by
 refine Ct.of k_ring_Encode rfl fun h r=>Tr.eq (e_ring_Encode ..) ?_; (try simp only[Nr,Nl,Nat.reduceAdd,Nat.reduceMul,Int.reduceToNat])
 refine Tr.nw fun b1 h=>?_
 (repeat' first|refine Gu ?_|(with_reducible first|refine Gn fun b h=>?_|apply Gx|apply Gy|rintro px rfl|refine fun(h:H)=>?_|intro hb)|refine Gs ?_|refine Gt ?_|exact Gz rfl|fail)
 refine Tr.xCall (ct_CodecP) ?_; rintro _ h ⟨k,rfl,o⟩ <;> (refine (?_ : Tr _ _ _ _) o; (try simp only[Nr,Nl,Nat.reduceAdd,Nat.reduceMul,Int.reduceToNat]); (repeat' first|refine Gu ?_|(with_reducible first|refine Gn fun b h=>?_|rintro px rfl|refine fun(h:H)=>?_|intro hb)|refine Gs ?_|refine Gt ?_|exact Gz rfl|fail))
 (repeat' first|refine Gu ?_|(with_reducible first|refine Gn fun b h=>?_|apply Gx|apply Gy|rintro px rfl|refine fun(h:H)=>?_|intro hb)|refine Gs ?_|refine Gt ?_|exact Gz rfl|fail)
 refine Tr.xCall (ct_cEncodeP k f) ?_
 rintro v h (⟨hk,a,rfl,o⟩ | ⟨hk,rfl,o⟩)
 ·refine (?_ : Tr _ _ _ _) o
  (try simp only[Nr,Nl,Nat.reduceAdd,Nat.reduceMul,Int.reduceToNat])
  (repeat' first|refine Gu ?_|(with_reducible first|refine Gn fun b h=>?_|apply Gx|apply Gy|rintro px rfl|refine fun(h:H)=>?_|intro hb)|refine Gs ?_|refine Gt ?_|exact Gz rfl|fail)
  refine Tr.some fun o=>?_
  exact .inl ⟨hk,a,rfl,o.sub⟩
 ·refine (?_ : Tr _ _ _ _) o
  (try simp only[Nr,Nl,Nat.reduceAdd,Nat.reduceMul,Int.reduceToNat])
  (repeat' first|refine Gu ?_|(with_reducible first|refine Gn fun b h=>?_|apply Gx|apply Gy|rintro px rfl|refine fun(h:H)=>?_|intro hb)|refine Gs ?_|refine Gt ?_|exact Gz rfl|fail)
  refine Tr.some fun o=>?_
  exact .inr ⟨hk,rfl,o.sub⟩
def pad32 (l : List UInt8) : List UInt8 := (l ++ List.replicate 32 0).take 32
theorem pad32_len (l : List UInt8) : (pad32 l).length = 32 := by simp [pad32]
theorem pad32_id {l : List UInt8} (h : l.length = 32) : pad32 l = l := by simp [pad32,← h]
def getP (l : List UInt8) : PipeS := ⟨byI l 1,byI l 2,byI l 3,byI l 4,pad32 (l.drop 8),pad32_len _⟩
def isP (l : List UInt8) : Bool := okP (getP l) && decide (encP (getP l) = l)
theorem ct_getP (a : Option Addr) (c : Nat) (l : List UInt8) (hl : l.length = 40) : Ct CALL F_ring_get [.slice a 40 c] [slC false Y_uint8 1 a 40 c (byteCells l)] fun v own=>v = .tuple ⟨[.agg ⟨pipeL (getP l)⟩,.bool (isP l)]⟩ ∧ own [slC false Y_uint8 1 a 40 c (byteCells l)] := by
 have hd := (getP l).len
 have hp : pad32 (l.drop 8) = l.drop 8 := pad32_id (by simp [hl])
 have key : ∀ a1 : Option Addr,CtP CALL F_slices_Equal_s_byte_byte [.slice a1 40 40,.slice a 40 c] [slC false Y_uint8 1 a1 40 40 (byteCells (encP (getP l))),slC false Y_uint8 1 a 40 c (byteCells l)] (.bool (decide (encP (getP l) = l))) := fun a1=>by
  have e := encP_len hd
  have J := ct_EqualB (slC false Y_uint8 1 a1 (encP (getP l)).length 40 (byteCells (encP (getP l)))) (slC false Y_uint8 1 a l.length c (byteCells l)) a1 false 40 a false c (encP (getP l)) l (by rw [e]; simp [most])
  rwa [hl,e] at J
 refine Ct.of k_ring_get rfl fun h r=>Tr.eq (e_ring_get ..) ?_; (try simp only[Nr,Nl,Nat.reduceAdd,Nat.reduceMul,Int.reduceToNat])
 refine Tr.nw fun b1 h=>?_
 refine tr_slFact 1 rfl fun hl2 hc2 _=>?_
 (repeat' first|refine Gu ?_|(with_reducible first|refine Gn fun b h=>?_|apply Gx|apply Gy|rintro px rfl|refine fun(h:H)=>?_|intro hb)|refine Gs ?_|refine Gt ?_|exact Gz rfl|fail)
 refine Tr.xIntS (v := byI l 1) (bc_at (by omega)) ?_
 (repeat' first|refine Gu ?_|(with_reducible first|refine Gn fun b h=>?_|apply Gx|apply Gy|rintro px rfl|refine fun(h:H)=>?_|intro hb)|refine Gs ?_|refine Gt ?_|exact Gz rfl|fail)
 refine Tr.xIntS (v := byI l 2) (bc_at (by omega)) ?_
 (repeat' first|refine Gu ?_|(with_reducible first|refine Gn fun b h=>?_|apply Gx|apply Gy|rintro px rfl|refine fun(h:H)=>?_|intro hb)|refine Gs ?_|refine Gt ?_|exact Gz rfl|fail)
 refine Tr.xIntS (v := byI l 3) (bc_at (by omega)) ?_
 (repeat' first|refine Gu ?_|(with_reducible first|refine Gn fun b h=>?_|apply Gx|apply Gy|rintro px rfl|refine fun(h:H)=>?_|intro hb)|refine Gs ?_|refine Gt ?_|exact Gz rfl|fail)
 refine Tr.xIntS (v := byI l 4) (bc_at (by omega)) ?_
 simp only [byI,wrap_b]
 refine Tr.nw fun b2 h=>?_
 (repeat' first|refine Gu ?_|(with_reducible first|refine Gn fun b h=>?_|rintro px rfl|refine fun(h:H)=>?_|intro hb)|refine Gs ?_|refine Gt ?_|exact Gz rfl|fail)
 rw [moved_t (show 8 < c by omega),gCells_moved]
 refine Tr.xAggS (xs := byteCells (l.drop 8)) ⟨by omega,by simp [bc_len,hl],?_⟩ ?_
 ·rw [byteCells_drop,List.take_of_length_le (by simp [bc_len,hl])]
 rw [show pCells (some (⟨b2,4,none⟩ : Addr)) = pAgg ⟨b2,4,none⟩ from rfl]
 refine Tr.xPAgg (cs' := pipeL (getP l)) ⟨by simp [bc_len,hl],byteCells_one _,by simp [pipeL,getP,byI,bc_len,hl,hp]⟩ fun h=>?_
 (repeat' first|refine Gu ?_|(with_reducible first|refine Gn fun b h=>?_|apply Gx|apply Gy|rintro px rfl|refine fun(h:H)=>?_|intro hb)|refine Gs ?_|refine Gt ?_|exact Gz rfl|fail)
 refine Tr.xCall (ct_EncodeP (getP l)) ?_
 rintro v h (⟨hk,a1,rfl,o⟩ | ⟨hk,rfl,o⟩)
 ·refine (?_ : Tr _ _ _ _) o
  (try simp only[Nr,Nl,Nat.reduceAdd,Nat.reduceMul,Int.reduceToNat])
  (repeat' first|refine Gu ?_|(with_reducible first|refine Gn fun b h=>?_|rintro px rfl|refine fun(h:H)=>?_|intro hb)|refine Gs ?_|refine Gt ?_|exact Gz rfl|fail)
  refine Tr.bnd (Tr.condT rfl ?_)
  refine Tr.pcall (key a1) ?_; (try simp only[Nr,Nl,Nat.reduceAdd,Nat.reduceMul,Int.reduceToNat]); (repeat' first|refine Gu ?_|(with_reducible first|refine Gn fun b h=>?_|rintro px rfl|refine fun(h:H)=>?_|intro hb)|refine Gs ?_|refine Gt ?_|exact Gz rfl|fail)
  refine Tr.some fun o=>(?_ : Tr _ _ _ _) o; (try simp only[Nr,Nl,Nat.reduceAdd,Nat.reduceMul,Int.reduceToNat])
  (repeat' first|refine Gu ?_|(with_reducible first|refine Gn fun b h=>?_|apply Gx|apply Gy|rintro px rfl|refine fun(h:H)=>?_|intro hb)|refine Gs ?_|refine Gt ?_|exact Gz rfl|fail)
  refine Tr.some fun o=>?_
  exact ⟨by unfold isP; rw [hk,Bool.true_and],o.sub⟩
 ·refine (?_ : Tr _ _ _ _) o
  (try simp only[Nr,Nl,Nat.reduceAdd,Nat.reduceMul,Int.reduceToNat])
  (repeat' first|refine Gu ?_|(with_reducible first|refine Gn fun b h=>?_|apply Gx|apply Gy|rintro px rfl|refine fun(h:H)=>?_|intro hb)|refine Gs ?_|refine Gt ?_|exact Gz rfl|fail)
  refine Tr.some fun o=>?_
  exact ⟨by unfold isP; rw [hk]; rfl,o.sub⟩
theorem ct_cDecodeP (k : Nat) (a : Option Addr) (c : Nat) (l : List UInt8) (hl : l.length = 40) : Ct CALL F_codec_Codec_api_Pipe_Decode [P0 k,.slice a 40 c] [codP k,slC false Y_uint8 1 a 40 c (byteCells l)] fun v own=>v = .tuple ⟨[.agg ⟨pipeL (if isP l then getP l else .zero)⟩,.bool (isP l)]⟩ ∧ own [codP k,slC false Y_uint8 1 a 40 c (byteCells l)] := by
 have hd := (getP l).len
 have hp : pad32 (l.drop 8) = l.drop 8 := pad32_id (by simp [hl])
 refine Ct.of k_codec_Codec_api_Pipe_Decode rfl fun h r=>Tr.eq (e_codec_Codec_api_Pipe_Decode ..) ?_; (try simp only[Nr,Nl,Nat.reduceAdd,Nat.reduceMul,Int.reduceToNat])
 (repeat' first|refine Gu ?_|(with_reducible first|refine Gn fun b h=>?_|apply Gx|apply Gy|rintro px rfl|refine fun(h:H)=>?_|intro hb)|refine Gs ?_|refine Gt ?_|exact Gz rfl|fail)
 refine Tr.condF rfl ?_
 (repeat' first|refine Gu ?_|(with_reducible first|refine Gn fun b h=>?_|rintro px rfl|refine fun(h:H)=>?_|intro hb)|refine Gs ?_|refine Gt ?_|exact Gz rfl|fail)
 refine Tr.xCall (ct_clone8 40 a c l hl (by simp [most])) ?_; rintro _ h ⟨a1,c1,rfl,o⟩ <;> (refine (?_ : Tr _ _ _ _) o; (try simp only[Nr,Nl,Nat.reduceAdd,Nat.reduceMul,Int.reduceToNat]); (repeat' first|refine Gu ?_|(with_reducible first|refine Gn fun b h=>?_|rintro px rfl|refine fun(h:H)=>?_|intro hb)|refine Gs ?_|refine Gt ?_|exact Gz rfl|fail))
 refine Tr.xCall (ct_getP a1 c1 l hl) ?_; rintro _ h ⟨rfl,o⟩ <;> (refine (?_ : Tr _ _ _ _) o; (try simp only[Nr,Nl,Nat.reduceAdd,Nat.reduceMul,Int.reduceToNat]); (repeat' first|refine Gu ?_|(with_reducible first|refine Gn fun b h=>?_|rintro px rfl|refine fun(h:H)=>?_|intro hb)|refine Gs ?_|refine Gt ?_|exact Gz rfl|fail))
 cases hk : isP l with
 | false =>
  (repeat' first|refine Gu ?_|(with_reducible first|refine Gn fun b h=>?_|apply Gx|apply Gy|rintro px rfl|refine fun(h:H)=>?_|intro hb)|refine Gs ?_|refine Gt ?_|exact Gz rfl|fail)
  refine Tr.some fun o=>?_
  exact ⟨rfl,o.sub⟩
 | true =>
  (repeat' first|refine Gu ?_|(with_reducible first|refine Gn fun b h=>?_|apply Gx|apply Gy|rintro px rfl|refine fun(h:H)=>?_|intro hb)|refine Gs ?_|refine Gt ?_|exact Gz rfl|fail)
  refine Tr.some fun o=>?_
  exact ⟨rfl,o.sub⟩
def decP (l : List UInt8) : PipeS × Int := if l.all (· == 0) then (.zero,0) else if isP l then (getP l,1) else (.zero,2)
theorem ct_DecodeP (a : Option Addr) (c : Nat) (l : List UInt8) (hl : l.length = 40) : Ct CALL F_ring_Decode [.slice a 40 c] [slC false Y_uint8 1 a 40 c (byteCells l)] fun v own=>v = .tuple ⟨[.agg ⟨pipeL (decP l).1⟩,int (decP l).2]⟩ ∧ own [slC false Y_uint8 1 a 40 c (byteCells l)] := by
 have hd := (getP l).len
 have hp : pad32 (l.drop 8) = l.drop 8 := pad32_id (by simp [hl])
 refine Ct.of k_ring_Decode rfl fun h r=>Tr.eq (e_ring_Decode ..) ?_; (try simp only[Nr,Nl,Nat.reduceAdd,Nat.reduceMul,Int.reduceToNat])
 refine Tr.nw fun b1 h=>?_
 refine Tr.bnd (Tr.condT rfl ?_)
 refine Tr.pcall (ct_blank8 40 a c l hl (by simp [most])) ?_; (try simp only[Nr,Nl,Nat.reduceAdd,Nat.reduceMul,Int.reduceToNat]); (repeat' first|refine Gu ?_|(with_reducible first|refine Gn fun b h=>?_|rintro px rfl|refine fun(h:H)=>?_|intro hb)|refine Gs ?_|refine Gt ?_|exact Gz rfl|fail)
 refine Tr.some fun o=>(?_ : Tr _ _ _ _) o; (try simp only[Nr,Nl,Nat.reduceAdd,Nat.reduceMul,Int.reduceToNat])
 cases hb : l.all (· == 0) with
 | true =>
  (repeat' first|refine Gu ?_|(with_reducible first|refine Gn fun b h=>?_|apply Gx|apply Gy|rintro px rfl|refine fun(h:H)=>?_|intro hb)|refine Gs ?_|refine Gt ?_|exact Gz rfl|fail)
  refine Tr.some fun o=>?_
  exact ⟨by unfold decP; rw [hb]; rfl,o.sub⟩
 | false =>
  (repeat' first|refine Gu ?_|(with_reducible first|refine Gn fun b h=>?_|rintro px rfl|refine fun(h:H)=>?_|intro hb)|refine Gs ?_|refine Gt ?_|exact Gz rfl|fail)
  refine Tr.xCall (ct_CodecP) ?_; rintro _ h ⟨k,rfl,o⟩ <;> (refine (?_ : Tr _ _ _ _) o; (try simp only[Nr,Nl,Nat.reduceAdd,Nat.reduceMul,Int.reduceToNat]); (repeat' first|refine Gu ?_|(with_reducible first|refine Gn fun b h=>?_|rintro px rfl|refine fun(h:H)=>?_|intro hb)|refine Gs ?_|refine Gt ?_|exact Gz rfl|fail))
  refine Tr.xCall (ct_cDecodeP k a c l hl) ?_; rintro _ h ⟨rfl,o⟩ <;> (refine (?_ : Tr _ _ _ _) o; (try simp only[Nr,Nl,Nat.reduceAdd,Nat.reduceMul,Int.reduceToNat]); (repeat' first|refine Gu ?_|(with_reducible first|refine Gn fun b h=>?_|rintro px rfl|refine fun(h:H)=>?_|intro hb)|refine Gs ?_|refine Gt ?_|exact Gz rfl|fail))
  cases hk : isP l with
  | false =>
   (repeat' first|refine Gu ?_|(with_reducible first|refine Gn fun b h=>?_|apply Gx|apply Gy|rintro px rfl|refine fun(h:H)=>?_|intro hb)|refine Gs ?_|refine Gt ?_|exact Gz rfl|fail)
   refine Tr.some fun o=>?_
   exact ⟨by unfold decP; rw [hb,hk]; rfl,o.sub⟩
  | true =>
   (repeat' first|refine Gu ?_|(with_reducible first|refine Gn fun b h=>?_|apply Gx|apply Gy|rintro px rfl|refine fun(h:H)=>?_|intro hb)|refine Gs ?_|refine Gt ?_|exact Gz rfl|fail)
   refine Tr.some fun o=>?_
   exact ⟨by unfold decP; rw [hb,hk]; rfl,o.sub⟩
end Go.EQ

set_option maxRecDepth 10000
namespace Go.EQ
open Go Go.NN
structure ProcS where
 state : Int
 parent : Int
 group : Int
 code : Int
 pending : Int
 mask : Int
 ignored : Int
 caught : Int
 fds : List Int
 len : fds.length = 8
abbrev zero8 : List Int := [0,0,0,0,0,0,0,0]
abbrev ProcS.zero : ProcS := ⟨0,0,0,0,0,0,0,0,zero8,rfl⟩
abbrev procL (p : ProcS) : List Value := int p.state :: int p.parent :: int p.group :: int p.code :: int p.pending :: int p.mask :: int p.ignored :: int p.caught :: p.fds.map int
theorem procL_len (p : ProcS) : (procL p).length = 16 := by simp [procL,p.len]
theorem procL_one (p : ProcS) : (procL p).all Value.oneCell = true := by simp [procL,Value.oneCell]
instance {p : ProcS} : LenC (procL p) 16 := ⟨procL_len p⟩
instance {p : ProcS} : PartC (procL p) 0 16 (procL p) := ⟨partN_all (procL_len p)⟩
instance {p : ProcS} : PartC (procL p) 8 8 (p.fds.map int) := ⟨by
 have h : Nat.ble (8 + 8) (procL p).length = true := by rw [procL_len]; rfl
 have e : ((procL p).drop 8).take 8 = p.fds.map int := by rw [show (procL p).drop 8 = p.fds.map int from rfl,List.take_of_length_le (by simp [p.len])]
 rw [partN,h,e]; rfl⟩
instance {p : ProcS} {cs : List Value} [k : LenC cs 16] : SetsC cs 0 (procL p) (procL p) := ⟨setsN_all k.ok (procL_len p) (procL_one p)⟩
instance {p : ProcS} : SameC (.agg ⟨procL p⟩) := ⟨sameV_agg (by simp [procL])⟩
def bitsB (n w : Int) : Bool := bitN .i64 n 65534 == 0 && bitA .i64 n w == 0
def okS (p : ProcS) : Bool :=
 !(decide (p.state < 1) || decide (p.state > 3) || decide (p.parent < 0) || decide (p.parent > 8) || decide (p.group < 0) || decide (p.group ≥ 8) || decide (p.code < 0) || decide (p.code > 255)) &&
 (!(!bitsB p.pending 0 || !bitsB p.mask 16896 || !bitsB p.ignored 16896 || !bitsB p.caught 16896 || bitA .i64 p.ignored p.caught != 0) &&
 (!(p.fds.any fun f=>decide (f < 0) || decide (f > 12)) &&
 (if p.state = 2 then p.pending == 0 && decide (p.fds = zero8) else p.code == 0)))
def hi2 (n : Int) : UInt8 := if 0 ≤ n ∧ n ≤ 65535 then b8 (n / 256) else 0
def lo2 (n : Int) : UInt8 := if 0 ≤ n ∧ n ≤ 65535 then b8 n else 0
abbrev put2 (n : Int) : List UInt8 := [hi2 n,lo2 n]
def headS (p : ProcS) : List UInt8 := [b8 p.state,b8 p.parent,b8 p.group,b8 p.code] ++ (put2 p.pending ++ (put2 p.mask ++ (put2 p.ignored ++ (put2 p.caught ++ (p.fds.map b8 ++ [167])))))
theorem put2_len (n : Int) : (put2 n).length = 2 := rfl
theorem headS_len (p : ProcS) : (headS p).length = 21 := by simp [headS,put2_len,p.len]
def encS (p : ProcS) : List UInt8 := headS p ++ [sum8 (headS p),0,0]
theorem encS_len (p : ProcS) : (encS p).length = 24 := by simp [encS,headS_len]
theorem ct_bits (n w : Int) : CtP CALL F_pslot_bits [int n,int w] [] (.bool (bitsB n w)) := by
 refine CtP.of k_pslot_bits rfl fun h r=>Tr.eq (e_pslot_bits ..) ?_; (try simp only[Nr,Nl,Nat.reduceAdd,Nat.reduceMul,Int.reduceToNat])
 (repeat' first|refine Gu ?_|(with_reducible first|refine Gn fun b h=>?_|apply Gx|apply Gy|rintro px rfl|refine fun(h:H)=>?_|intro hb)|refine Gs ?_|refine Gt ?_|exact Gz rfl|fail)
instance {n w : Int} {l : List HP} : PCi CALL F_pslot_bits [.int .i64 n,.int .i64 w] l (.bool (bitsB n w)) := PCi.of (ct_bits n w)
theorem ct_okS1 (f : Int) : CtP CALL F_pslot_Ok_1 [int f] [] (.bool (decide (f < 0) || decide (f > 12))) := by
 refine CtP.of k_pslot_Ok_1 rfl fun h r=>Tr.eq (e_pslot_Ok_1 ..) ?_; (try simp only[Nr,Nl,Nat.reduceAdd,Nat.reduceMul,Int.reduceToNat])
 (repeat' first|refine Gu ?_|(with_reducible first|refine Gn fun b h=>?_|apply Gx|apply Gy|rintro px rfl|refine fun(h:H)=>?_|intro hb)|refine Gs ?_|refine Gt ?_|exact Gz rfl|fail)
theorem ct_IndexFunc0_L1 (p : HP) (a : Option Addr) (ro : Bool) (c : Nat) (l : List Int) (g : FuncId) (f : Int → Bool) {e : TypeId} [ks : IsSl p a ro e 1 l.length c (l.map int)] (hl : l.length ≤ most) (hf : ∀ x,CtP CALL g [int x] [] (.bool (f x))) : ∀ (m i : Nat),l.length - i = m → i ≤ l.length →
  CtPJ JUMP F_slices_IndexFunc_s_int_int T_slices_IndexFunc_s_int_int_L1 [(0,.slice a l.length c),(1,.func (.func g) ⟨[]⟩ ⟨[]⟩),(7,int l.length),(8,int i)] [p] (int (findV f i (l.drop i))) := by
 intro m
 induction m with
 | zero =>
  intro i hm hi
  refine CtPJ.of k_slices_IndexFunc_s_int_int fun h r=>Tr.eq (e_slices_IndexFunc_s_int_int_L1 ..) ?_; (try simp only[Nr,Nl,Nat.reduceAdd,Nat.reduceMul,Int.reduceToNat])
  refine Tr.condF (by simp; omega) ?_
  refine Tr.some fun o=>?_
  rw [List.drop_eq_nil_of_le (by omega)]; exact ⟨rfl,rfl⟩
 | succ m ih =>
  intro i hm hi
  have hlt : i < l.length := by omega
  have hp : l[i]? = some l[i] := List.getElem?_eq_getElem hlt
  have hd : l.drop i = l[i] :: l.drop (i + 1) := List.drop_eq_getElem_cons hlt
  generalize l[i] = x at hp hd
  have e1 : IntKind.wrap .i64 ((i : Int) + 1) = ((i + 1 : Nat) : Int) := by rw [wrap_eq]; simp only [most] at hl; omega
  refine CtPJ.of k_slices_IndexFunc_s_int_int fun h r=>Tr.eq (e_slices_IndexFunc_s_int_int_L1 ..) ?_; (try simp only[Nr,Nl,Nat.reduceAdd,Nat.reduceMul,Int.reduceToNat])
  refine Tr.condT (by simp; omega) ?_
  (repeat' first|refine Gu ?_|(with_reducible first|refine Gn fun b h=>?_|apply Gx|apply Gy|rintro px rfl|refine fun(h:H)=>?_|intro hb)|refine Gs ?_|refine Gt ?_|exact Gz rfl|fail)
  refine Tr.xIntS (v := x) (by simp [hp]) ?_
  (repeat' first|refine Gu ?_|(with_reducible first|refine Gn fun b h=>?_|apply Gx|apply Gy|rintro px rfl|refine fun(h:H)=>?_|intro hb)|refine Gs ?_|refine Gt ?_|exact Gz rfl|fail)
  refine Tr.pcall (hf x) ?_
  cases hx : f x with
  | true =>
   (repeat' first|refine Gu ?_|(with_reducible first|refine Gn fun b h=>?_|apply Gx|apply Gy|rintro px rfl|refine fun(h:H)=>?_|intro hb)|refine Gs ?_|refine Gt ?_|exact Gz rfl|fail)
   refine Tr.some fun o=>?_
   rw [hd,findV,if_pos hx]; exact ⟨by first | rfl | trivial,by first | rfl | trivial⟩
  | false =>
   (repeat' first|refine Gu ?_|(with_reducible first|refine Gn fun b h=>?_|apply Gx|apply Gy|rintro px rfl|refine fun(h:H)=>?_|intro hb)|refine Gs ?_|refine Gt ?_|exact Gz rfl|fail)
   rw [e1]
   refine tr_prunO (ih (i + 1) (by omega) (by omega)) (r := r) (by simp) fun o=>?_
   rw [hd,findV,if_neg (by simp [hx])]; exact ⟨by first | rfl | trivial,by first | rfl | trivial⟩
theorem ct_ContainsFunc0 (p : HP) (a : Option Addr) (ro : Bool) (c : Nat) (l : List Int) (g : FuncId) (f : Int → Bool) {e : TypeId} [ks : IsSl p a ro e 1 l.length c (l.map int)] (hl : l.length ≤ most) (hf : ∀ x,CtP CALL g [int x] [] (.bool (f x))) :
  CtP CALL F_slices_ContainsFunc_s_int_int [.slice a l.length c,.func (.func g) ⟨[]⟩ ⟨[]⟩] [p] (.bool (l.any f)) := by
 have j : CtP CALL F_slices_IndexFunc_s_int_int [.slice a l.length c,.func (.func g) ⟨[]⟩ ⟨[]⟩] [p] (int (findV f 0 l)) := by
  refine CtP.of k_slices_IndexFunc_s_int_int rfl fun h r=>Tr.eq (e_slices_IndexFunc_s_int_int ..) ?_; (try simp only[Nr,Nl,Nat.reduceAdd,Nat.reduceMul,Int.reduceToNat])
  exact tr_prunO (ct_IndexFunc0_L1 p a ro c l g f hl hf _ 0 rfl (by omega)) (r := r) (by simp) fun o=>⟨rfl,rfl⟩
 refine CtP.of k_slices_ContainsFunc_s_int_int rfl fun h r=>Tr.eq (e_slices_ContainsFunc_s_int_int ..) ?_; (try simp only[Nr,Nl,Nat.reduceAdd,Nat.reduceMul,Int.reduceToNat])
 refine tr_pcallO j (r := r) (by simp) ?_
 (repeat' first|refine Gu ?_|(with_reducible first|refine Gn fun b h=>?_|apply Gx|apply Gy|rintro px rfl|refine fun(h:H)=>?_|intro hb)|refine Gs ?_|refine Gt ?_|exact Gz rfl|fail)
 refine Tr.some fun o=>?_
 rw [findV_any]; exact ⟨by first | rfl | trivial,by first | rfl | trivial⟩
theorem eqs_ints : ∀ (l m : List Int),l.length = m.length → eqs (l.map int) (m.map int) = some (decide (l = m))
 | [],[],_=>rfl
 | [],_ :: _,h=>by simp at h
 | _ :: _,[],h=>by simp at h
 | a :: l,b :: m,h=>by
  have ih := eqs_ints l m (by simpa using h)
  simp only [List.map_cons,eqs,eq1,decide_true,ih]
  by_cases h1 : a = b <;> by_cases h2 : l = m <;> simp [h1,h2]
theorem fit_ints : ∀ (l : List Int),fitL (List.replicate l.length (TypeDesc.int .i64)) (l.map int) = true
 | []=>rfl
 | a :: l=>by
  have := fit_ints l
  simp only [List.length_cons,List.replicate_succ,List.map_cons,fitL,decide_true,this,Bool.and_self]
theorem eq8 {α : Type} (l m : List Int) (hl : l.length = 8) (hm : m.length = 8) (k : Bool → Option α) : eqAgg PR Y_8_int (l.map int) (m.map int) k = k (decide (l = m)) := by
 have e : leafs PR 8 Y_8_int = some (List.replicate 8 (TypeDesc.int .i64)) := by kernel_rfl
 have f1 := fit_ints l; have f2 := fit_ints m
 rw [hl] at f1; rw [hm] at f2
 rw [eqAgg,e]
 simp only [f1,f2,eqs_ints l m (by omega),Bool.and_self,ckB,cond_true,eqK]
theorem ct_okS (p : ProcS) : Ct CALL F_pslot_Ok [.agg ⟨procL p⟩] [] fun v own=>v = .bool (okS p) ∧ own [] := by
 have h8 := p.len
 refine Ct.of k_pslot_Ok rfl fun h r=>Tr.eq (e_pslot_Ok ..) ?_; (try simp only[Nr,Nl,Nat.reduceAdd,Nat.reduceMul,Int.reduceToNat])
 (repeat' first|refine Gu ?_|(with_reducible first|refine Gn fun b h=>?_|apply Gx|apply Gy|rintro px rfl|refine fun(h:H)=>?_|intro hb)|refine Gs ?_|refine Gt ?_|exact Gz rfl|fail)
 refine Tr.cond (fun h1=>?_) fun h1=>?_
 ·refine Tr.some fun o=>?_
  refine ⟨?_,o.sub⟩
  unfold okS; rw [h1]; rfl
 (repeat' first|refine Gu ?_|(with_reducible first|refine Gn fun b h=>?_|apply Gx|apply Gy|rintro px rfl|refine fun(h:H)=>?_|intro hb)|refine Gs ?_|refine Gt ?_|exact Gz rfl|fail)
 refine Tr.cond (fun h2=>?_) fun h2=>?_
 ·refine Tr.some fun o=>?_
  refine ⟨?_,o.sub⟩
  unfold okS; rw [h1,h2]; rfl
 (repeat' first|refine Gu ?_|(with_reducible first|refine Gn fun b h=>?_|apply Gx|apply Gy|rintro px rfl|refine fun(h:H)=>?_|intro hb)|refine Gs ?_|refine Gt ?_|exact Gz rfl|fail)
 refine tr_view 0 rfl [int p.state,int p.parent,int p.group,int p.code,int p.pending,int p.mask,int p.ignored,int p.caught] (p.fds.map int) [] (by simp [procL]) 1 8 8 8 ⟨by simp [h8],by omega,by simp,by simp [procL],by omega,by omega⟩ ?_
 (try simp only[Nr,Nl,Nat.reduceAdd,Nat.reduceMul,Int.reduceToNat])
 have J := ct_ContainsFunc0 (e := Y_api_Proc) (slX false Y_api_Proc 1 (some ⟨b,8,none⟩) p.fds.length 8 ([int p.state,int p.parent,int p.group,int p.code,int p.pending,int p.mask,int p.ignored,int p.caught],[]) (p.fds.map int)) (some ⟨b,8,none⟩) false 8 p.fds F_pslot_Ok_1 (fun f=>decide (f < 0) || decide (f > 12)) (by rw [h8]; simp [most]) ct_okS1
 rw [h8] at J
 refine Tr.pcall (J) ?_; (try simp only[Nr,Nl,Nat.reduceAdd,Nat.reduceMul,Int.reduceToNat]); (repeat' first|refine Gu ?_|(with_reducible first|refine Gn fun b h=>?_|apply Gx|apply Gy|rintro px rfl|refine fun(h:H)=>?_|intro hb)|refine Gs ?_|refine Gt ?_|exact Gz rfl|fail)
 refine tr_unview 0 rfl (procL p) (by simp [procL]) ?_
 (try simp only[Nr,Nl,Nat.reduceAdd,Nat.reduceMul,Int.reduceToNat])
 cases h3 : p.fds.any fun f=>decide (f < 0) || decide (f > 12) with
 | true =>
  (repeat' first|refine Gu ?_|(with_reducible first|refine Gn fun b h=>?_|apply Gx|apply Gy|rintro px rfl|refine fun(h:H)=>?_|intro hb)|refine Gs ?_|refine Gt ?_|exact Gz rfl|fail)
  refine Tr.some fun o=>?_
  refine ⟨?_,o.sub⟩
  unfold okS; rw [h1,h2,h3]; rfl
 | false =>
  (repeat' first|refine Gu ?_|(with_reducible first|refine Gn fun b h=>?_|apply Gx|apply Gy|rintro px rfl|refine fun(h:H)=>?_|intro hb)|refine Gs ?_|refine Gt ?_|exact Gz rfl|fail)
  have e : okS p = if p.state = 2 then p.pending == 0 && decide (p.fds = zero8) else p.code == 0 := by unfold okS; rw [h1,h2,h3]; rfl
  rw [e]
  by_cases h4 : p.state = 2
  ·refine Tr.condT (by simpa using h4) ?_
   rw [if_pos h4]
   (repeat' first|refine Gu ?_|(with_reducible first|refine Gn fun b h=>?_|apply Gx|apply Gy|rintro px rfl|refine fun(h:H)=>?_|intro hb)|refine Gs ?_|refine Gt ?_|exact Gz rfl|fail)
   rw [show ([int 0,int 0,int 0,int 0,int 0,int 0,int 0,int 0] : List Value) = zero8.map int from rfl,eq8 _ _ h8 rfl]
   (repeat' first|refine Gu ?_|(with_reducible first|refine Gn fun b h=>?_|apply Gx|apply Gy|rintro px rfl|refine fun(h:H)=>?_|intro hb)|refine Gs ?_|refine Gt ?_|exact Gz rfl|fail)
   refine Tr.some fun o=>?_
   exact ⟨rfl,o.sub⟩
  ·refine Tr.condF (by simpa using h4) ?_
   rw [if_neg h4]
   (repeat' first|refine Gu ?_|(with_reducible first|refine Gn fun b h=>?_|apply Gx|apply Gy|rintro px rfl|refine fun(h:H)=>?_|intro hb)|refine Gs ?_|refine Gt ?_|exact Gz rfl|fail)
   refine Tr.some fun o=>?_
   exact ⟨rfl,o.sub⟩
theorem ct_Put2 (a : Option Addr) (c : Nat) (cs : List Value) (j : Nat) (n : Int) (hj : j + 2 ≤ cs.length) (hm : cs.length ≤ most) : Ct CALL F_codec_Put2 [.slice a cs.length c,int j,int n] [slC false Y_uint8 1 a cs.length c cs] fun v own =>
  (∃ ok,v = .bool ok) ∧ own [slC false Y_uint8 1 a cs.length c (if 0 ≤ n ∧ n ≤ 65535 then (cs.set j (.int .u8 ((b8 (n / 256)).toNat : Int))).set (j + 1) (.int .u8 ((b8 n).toNat : Int)) else cs)] := by
 simp only [most] at hm
 have e1 : IntKind.wrap .i64 ((cs.length : Int) - 2) = (cs.length : Int) - 2 := by rw [wrap_eq]; omega
 have e2 : IntKind.wrap .i64 ((j : Int) + 1) = ((j + 1 : Nat) : Int) := by rw [wrap_eq]; omega
 refine Ct.of k_codec_Put2 rfl fun h r=>Tr.eq (e_codec_Put2 ..) ?_; (try simp only[Nr,Nl,Nat.reduceAdd,Nat.reduceMul,Int.reduceToNat])
 rw [e1,e2]
 (repeat' first|refine Gu ?_|(with_reducible first|refine Gn fun b h=>?_|apply Gx|apply Gy|rintro px rfl|refine fun(h:H)=>?_|intro hb)|refine Gs ?_|refine Gt ?_|exact Gz rfl|fail)
 by_cases h : 0 ≤ n ∧ n ≤ 65535
 ·refine Tr.condF (by simp; omega) ?_
  rw [if_pos h]
  (repeat' first|refine Gu ?_|(with_reducible first|refine Gn fun b h=>?_|apply Gx|apply Gy|rintro px rfl|refine fun(h:H)=>?_|intro hb)|refine Gs ?_|refine Gt ?_|exact Gz rfl|fail)
  rw [Int.toNat_natCast,show Int.fdiv n (2 ^ 8) = n / 256 by rw [Int.fdiv_eq_ediv_of_nonneg _ (by omega)]; rfl,b8_val,b8_val]
  (try simp only[Nr,Nl,Nat.reduceAdd,Nat.reduceMul,Int.reduceToNat])
  refine Tr.xVS (cs' := cs.set j (.int .u8 ((b8 (n / 256)).toNat : Int))) ⟨by omega,rfl,rfl⟩ fun h=>?_
  (repeat' first|refine Gu ?_|(with_reducible first|refine Gn fun b h=>?_|apply Gx|apply Gy|rintro px rfl|refine fun(h:H)=>?_|intro hb)|refine Gs ?_|refine Gt ?_|exact Gz rfl|fail)
  rw [Int.toNat_natCast]
  (try simp only[Nr,Nl,Nat.reduceAdd,Nat.reduceMul,Int.reduceToNat])
  refine Tr.xVS (cs' := (cs.set j (.int .u8 ((b8 (n / 256)).toNat : Int))).set (j + 1) (.int .u8 ((b8 n).toNat : Int))) ⟨by simp; omega,rfl,rfl⟩ fun h=>?_
  refine Tr.some fun o=>?_
  exact ⟨⟨_,rfl⟩,o.sub⟩
 ·refine Tr.condT (by simp; omega) ?_
  rw [if_neg h]
  refine Tr.some fun o=>?_
  exact ⟨⟨_,rfl⟩,o.sub⟩
theorem bc_set (l : List UInt8) (j : Nat) (x : UInt8) : (byteCells l).set j (.int .u8 (x.toNat : Int)) = byteCells (l.set j x) := by simp [byteCells,List.map_set]
theorem ct_Put2b (a : Option Addr) (c m : Nat) (l : List UInt8) (j : Nat) (n : Int) (hm : l.length = m) (hj : j + 2 ≤ m) (h1 : l[j]? = some 0) (h2 : l[j + 1]? = some 0) (hl : m ≤ most) : Ct CALL F_codec_Put2 [.slice a m c,int j,int n] [slC false Y_uint8 1 a m c (byteCells l)] fun v own =>
  (∃ ok,v = .bool ok) ∧ own [slC false Y_uint8 1 a m c (byteCells ((l.set j (hi2 n)).set (j + 1) (lo2 n)))] := by
 subst hm
 have J := ct_Put2 a c (byteCells l) j n (by rw [bc_len]; omega) (by rw [bc_len]; omega)
 rw [bc_len] at J
 have e : (if 0 ≤ n ∧ n ≤ 65535 then ((byteCells l).set j (.int .u8 ((b8 (n / 256)).toNat : Int))).set (j + 1) (.int .u8 ((b8 n).toNat : Int)) else byteCells l) = byteCells ((l.set j (hi2 n)).set (j + 1) (lo2 n)) := by
  unfold hi2 lo2
  split
  ·rw [bc_set,bc_set]
  ·rw [lset_same h1,lset_same h2]
 rw [e] at J
 exact J
def two (l : List UInt8) (j : Nat) : Int := byI l j * 256 + byI l (j + 1)
theorem two_eq (x y : UInt8) : bitO .i64 (IntKind.wrap .i64 (IntKind.wrap .i64 (x.toNat : Int) * 2 ^ 8)) (IntKind.wrap .i64 (y.toNat : Int)) = (x.toNat : Int) * 256 + y.toNat := by
 have hx := x.toNat_lt; have hy := y.toNat_lt
 have e1 : IntKind.wrap .i64 (IntKind.wrap .i64 (x.toNat : Int) * 2 ^ 8) = ((x.toNat * 256 : Nat) : Int) := by rw [wrap_b,wrap_eq]; omega
 rw [e1,wrap_b]
 unfold bitO
 have e0 : IntKind.bits .i64 = 64 := rfl
 rw [e0,BitVec.ofInt_natCast,BitVec.ofInt_natCast,BitVec.toNat_or,BitVec.toNat_ofNat,BitVec.toNat_ofNat,Nat.mod_eq_of_lt (by omega),Nat.mod_eq_of_lt (by omega)]
 have e2 : x.toNat * 256 ||| y.toNat = x.toNat * 256 + y.toNat := by
  have := Nat.two_pow_add_eq_or_of_lt (i := 8) (b := y.toNat) (by omega) x.toNat
  rw [show 2 ^ 8 * x.toNat = x.toNat * 256 by omega] at this
  exact this.symm
 rw [e2,wrap_eq]; omega
theorem ct_Get2 (a : Option Addr) (c n : Nat) (l : List UInt8) (j : Nat) (hn : l.length = n) (hj : j + 2 ≤ n) (hm : n ≤ most) : CtP CALL F_codec_Get2 [.slice a n c,int j] [slC false Y_uint8 1 a n c (byteCells l)] (.tuple ⟨[int (two l j),.bool true]⟩) := by
 simp only [most] at hm
 have e1 : IntKind.wrap .i64 ((n : Int) - 2) = (n : Int) - 2 := by rw [wrap_eq]; omega
 have e2 : IntKind.wrap .i64 ((j : Int) + 1) = ((j + 1 : Nat) : Int) := by rw [wrap_eq]; omega
 refine CtP.of k_codec_Get2 rfl fun h r=>Tr.eq (e_codec_Get2 ..) ?_; (try simp only[Nr,Nl,Nat.reduceAdd,Nat.reduceMul,Int.reduceToNat])
 rw [e1,e2]
 (repeat' first|refine Gu ?_|(with_reducible first|refine Gn fun b h=>?_|apply Gx|apply Gy|rintro px rfl|refine fun(h:H)=>?_|intro hb)|refine Gs ?_|refine Gt ?_|exact Gz rfl|fail)
 refine Tr.condF (by simp; omega) ?_
 (repeat' first|refine Gu ?_|(with_reducible first|refine Gn fun b h=>?_|apply Gx|apply Gy|rintro px rfl|refine fun(h:H)=>?_|intro hb)|refine Gs ?_|refine Gt ?_|exact Gz rfl|fail)
 rw [Int.toNat_natCast]
 (try simp only[Nr,Nl,Nat.reduceAdd,Nat.reduceMul,Int.reduceToNat])
 refine Tr.xIntS (v := byI l j) (bc_at (by omega)) ?_
 (repeat' first|refine Gu ?_|(with_reducible first|refine Gn fun b h=>?_|apply Gx|apply Gy|rintro px rfl|refine fun(h:H)=>?_|intro hb)|refine Gs ?_|refine Gt ?_|exact Gz rfl|fail)
 rw [Int.toNat_natCast]
 (try simp only[Nr,Nl,Nat.reduceAdd,Nat.reduceMul,Int.reduceToNat])
 refine Tr.xIntS (v := byI l (j + 1)) (bc_at (by omega)) ?_
 refine Tr.some fun o=>?_
 rw [two_eq]; exact ⟨rfl,rfl⟩
end Go.EQ

set_option maxRecDepth 10000
namespace Go.EQ
open Go Go.NN
theorem ct_putS (a : Option Addr) (c : Nat) (p : ProcS) : Ct CALL F_pslot_put [.agg ⟨procL p⟩,.slice a 24 c] [slC false Y_uint8 1 a 24 c (byteCells (List.replicate 24 0))] fun v own=>v = .bool (okS p) ∧ own [slC false Y_uint8 1 a 24 c (byteCells (if okS p then encS p else List.replicate 24 0))] := by
 refine Ct.of k_pslot_put rfl fun h r=>Tr.eq (e_pslot_put ..) ?_; (try simp only[Nr,Nl,Nat.reduceAdd,Nat.reduceMul,Int.reduceToNat])
 refine Tr.nw fun b1 h=>?_
 (repeat' first|refine Gu ?_|(with_reducible first|refine Gn fun b h=>?_|apply Gx|apply Gy|rintro px rfl|refine fun(h:H)=>?_|intro hb)|refine Gs ?_|refine Gt ?_|exact Gz rfl|fail)
 refine Tr.xCall (ct_okS p) ?_; rintro _ h ⟨rfl,o⟩ <;> (refine (?_ : Tr _ _ _ _) o; (try simp only[Nr,Nl,Nat.reduceAdd,Nat.reduceMul,Int.reduceToNat]); (repeat' first|refine Gu ?_|(with_reducible first|refine Gn fun b h=>?_|apply Gx|apply Gy|rintro px rfl|refine fun(h:H)=>?_|intro hb)|refine Gs ?_|refine Gt ?_|exact Gz rfl|fail))
 cases hk : okS p with
 | false =>
  (repeat' first|refine Gu ?_|(with_reducible first|refine Gn fun b h=>?_|apply Gx|apply Gy|rintro px rfl|refine fun(h:H)=>?_|intro hb)|refine Gs ?_|refine Gt ?_|exact Gz rfl|fail)
  refine Tr.some fun o=>?_
  rw [if_neg (by simp)]
  exact ⟨rfl,o.sub⟩
 | true =>
  simp only [if_true]
  obtain ⟨st,pa,gr,co,pe,ma,ig,ca,fds,len⟩ := p
  match fds,len with
  | [f0,f1,f2,f3,f4,f5,f6,f7],len =>
  (repeat' first|refine Gu ?_|(with_reducible first|refine Gn fun b h=>?_|apply Gx|apply Gy|rintro px rfl|refine fun(h:H)=>?_|intro hb)|refine Gs ?_|refine Gt ?_|exact Gz rfl|fail)
  rename_i b2 h2
  refine tr_slFact 2 rfl fun hl hc _=>?_
  simp only [List.map]
  refine Tr.jmp k_pslot_put (Tr.eq (e_pslot_put_L1 ..) ?_); (try simp only[Nr,Nl,wl,Nat.reduceAdd,Nat.reduceMul,Int.reduceToNat])
  (repeat' first|refine Gu ?_|(with_reducible first|refine Gn fun b h=>?_|apply Gx|apply Gy|rintro px rfl|refine fun(h:H)=>?_|intro hb)|refine Gs ?_|refine Gt ?_|exact Gz rfl|((with_reducible apply Gv);·rfl)|refine Tr.condT (by rfl) ?_|refine Tr.condF (by rfl) ?_|fail)
  refine Tr.jmp k_pslot_put (Tr.eq (e_pslot_put_L1 ..) ?_); (try simp only[Nr,Nl,wl,Nat.reduceAdd,Nat.reduceMul,Int.reduceToNat])
  (repeat' first|refine Gu ?_|(with_reducible first|refine Gn fun b h=>?_|apply Gx|apply Gy|rintro px rfl|refine fun(h:H)=>?_|intro hb)|refine Gs ?_|refine Gt ?_|exact Gz rfl|((with_reducible apply Gv);·rfl)|refine Tr.condT (by rfl) ?_|refine Tr.condF (by rfl) ?_|fail)
  refine Tr.jmp k_pslot_put (Tr.eq (e_pslot_put_L1 ..) ?_); (try simp only[Nr,Nl,wl,Nat.reduceAdd,Nat.reduceMul,Int.reduceToNat])
  (repeat' first|refine Gu ?_|(with_reducible first|refine Gn fun b h=>?_|apply Gx|apply Gy|rintro px rfl|refine fun(h:H)=>?_|intro hb)|refine Gs ?_|refine Gt ?_|exact Gz rfl|((with_reducible apply Gv);·rfl)|refine Tr.condT (by rfl) ?_|refine Tr.condF (by rfl) ?_|fail)
  refine Tr.jmp k_pslot_put (Tr.eq (e_pslot_put_L1 ..) ?_); (try simp only[Nr,Nl,wl,Nat.reduceAdd,Nat.reduceMul,Int.reduceToNat])
  (repeat' first|refine Gu ?_|(with_reducible first|refine Gn fun b h=>?_|apply Gx|apply Gy|rintro px rfl|refine fun(h:H)=>?_|intro hb)|refine Gs ?_|refine Gt ?_|exact Gz rfl|((with_reducible apply Gv);·rfl)|refine Tr.condT (by rfl) ?_|refine Tr.condF (by rfl) ?_|fail)
  refine Tr.jmp k_pslot_put (Tr.eq (e_pslot_put_L1 ..) ?_); (try simp only[Nr,Nl,wl,Nat.reduceAdd,Nat.reduceMul,Int.reduceToNat])
  (repeat' first|refine Gu ?_|(with_reducible first|refine Gn fun b h=>?_|apply Gx|apply Gy|rintro px rfl|refine fun(h:H)=>?_|intro hb)|refine Gs ?_|refine Gt ?_|exact Gz rfl|((with_reducible apply Gv);·rfl)|refine Tr.condT (by rfl) ?_|refine Tr.condF (by rfl) ?_|fail)
  simp only [b8_val,bc_set,List.replicate,List.set_cons_zero,List.set_cons_succ,Nat.mul_one]
  refine Tr.jmp k_pslot_put (Tr.eq (e_pslot_put_L2 ..) ?_); (try simp only[Nr,Nl,wl,Nat.reduceAdd,Nat.reduceMul,Int.reduceToNat])
  (repeat' first|refine Gu ?_|(with_reducible first|refine Gn fun b h=>?_|apply Gx|apply Gy|rintro px rfl|refine fun(h:H)=>?_|intro hb)|refine Gs ?_|refine Gt ?_|exact Gz rfl|((with_reducible apply Gv);·rfl)|refine Tr.condT (by rfl) ?_|refine Tr.condF (by rfl) ?_|fail)
  refine Tr.xCall (ct_Put2b (some px) c 24 [b8 st,b8 pa,b8 gr,b8 co,0,0,0,0,0,0,0,0,0,0,0,0,0,0,0,0,0,0,0,0] 4 pe rfl (by omega) rfl rfl (by simp [most])) ?_; rintro _ h ⟨⟨_,rfl⟩,o⟩ <;> (refine (?_ : Tr _ _ _ _) o; (try simp only[Nr,Nl,Nat.reduceAdd,Nat.reduceMul,Int.reduceToNat]); (repeat' first|refine Gu ?_|(with_reducible first|refine Gn fun b h=>?_|apply Gx|apply Gy|rintro px rfl|refine fun(h:H)=>?_|intro hb)|refine Gs ?_|refine Gt ?_|exact Gz rfl|fail))
  refine Tr.jmp k_pslot_put (Tr.eq (e_pslot_put_L2 ..) ?_); (try simp only[Nr,Nl,wl,Nat.reduceAdd,Nat.reduceMul,Int.reduceToNat])
  (repeat' first|refine Gu ?_|(with_reducible first|refine Gn fun b h=>?_|apply Gx|apply Gy|rintro px rfl|refine fun(h:H)=>?_|intro hb)|refine Gs ?_|refine Gt ?_|exact Gz rfl|((with_reducible apply Gv);·rfl)|refine Tr.condT (by rfl) ?_|refine Tr.condF (by rfl) ?_|fail)
  refine Tr.xCall (ct_Put2b (some px) c 24 [b8 st,b8 pa,b8 gr,b8 co,hi2 pe,lo2 pe,0,0,0,0,0,0,0,0,0,0,0,0,0,0,0,0,0,0] 6 ma rfl (by omega) rfl rfl (by simp [most])) ?_; rintro _ h ⟨⟨_,rfl⟩,o⟩ <;> (refine (?_ : Tr _ _ _ _) o; (try simp only[Nr,Nl,Nat.reduceAdd,Nat.reduceMul,Int.reduceToNat]); (repeat' first|refine Gu ?_|(with_reducible first|refine Gn fun b h=>?_|apply Gx|apply Gy|rintro px rfl|refine fun(h:H)=>?_|intro hb)|refine Gs ?_|refine Gt ?_|exact Gz rfl|fail))
  refine Tr.jmp k_pslot_put (Tr.eq (e_pslot_put_L2 ..) ?_); (try simp only[Nr,Nl,wl,Nat.reduceAdd,Nat.reduceMul,Int.reduceToNat])
  (repeat' first|refine Gu ?_|(with_reducible first|refine Gn fun b h=>?_|apply Gx|apply Gy|rintro px rfl|refine fun(h:H)=>?_|intro hb)|refine Gs ?_|refine Gt ?_|exact Gz rfl|((with_reducible apply Gv);·rfl)|refine Tr.condT (by rfl) ?_|refine Tr.condF (by rfl) ?_|fail)
  refine Tr.xCall (ct_Put2b (some px) c 24 [b8 st,b8 pa,b8 gr,b8 co,hi2 pe,lo2 pe,hi2 ma,lo2 ma,0,0,0,0,0,0,0,0,0,0,0,0,0,0,0,0] 8 ig rfl (by omega) rfl rfl (by simp [most])) ?_; rintro _ h ⟨⟨_,rfl⟩,o⟩ <;> (refine (?_ : Tr _ _ _ _) o; (try simp only[Nr,Nl,Nat.reduceAdd,Nat.reduceMul,Int.reduceToNat]); (repeat' first|refine Gu ?_|(with_reducible first|refine Gn fun b h=>?_|apply Gx|apply Gy|rintro px rfl|refine fun(h:H)=>?_|intro hb)|refine Gs ?_|refine Gt ?_|exact Gz rfl|fail))
  refine Tr.jmp k_pslot_put (Tr.eq (e_pslot_put_L2 ..) ?_); (try simp only[Nr,Nl,wl,Nat.reduceAdd,Nat.reduceMul,Int.reduceToNat])
  (repeat' first|refine Gu ?_|(with_reducible first|refine Gn fun b h=>?_|apply Gx|apply Gy|rintro px rfl|refine fun(h:H)=>?_|intro hb)|refine Gs ?_|refine Gt ?_|exact Gz rfl|((with_reducible apply Gv);·rfl)|refine Tr.condT (by rfl) ?_|refine Tr.condF (by rfl) ?_|fail)
  refine Tr.xCall (ct_Put2b (some px) c 24 [b8 st,b8 pa,b8 gr,b8 co,hi2 pe,lo2 pe,hi2 ma,lo2 ma,hi2 ig,lo2 ig,0,0,0,0,0,0,0,0,0,0,0,0,0,0] 10 ca rfl (by omega) rfl rfl (by simp [most])) ?_; rintro _ h ⟨⟨_,rfl⟩,o⟩ <;> (refine (?_ : Tr _ _ _ _) o; (try simp only[Nr,Nl,Nat.reduceAdd,Nat.reduceMul,Int.reduceToNat]); (repeat' first|refine Gu ?_|(with_reducible first|refine Gn fun b h=>?_|apply Gx|apply Gy|rintro px rfl|refine fun(h:H)=>?_|intro hb)|refine Gs ?_|refine Gt ?_|exact Gz rfl|fail))
  refine Tr.jmp k_pslot_put (Tr.eq (e_pslot_put_L2 ..) ?_); (try simp only[Nr,Nl,wl,Nat.reduceAdd,Nat.reduceMul,Int.reduceToNat])
  (repeat' first|refine Gu ?_|(with_reducible first|refine Gn fun b h=>?_|apply Gx|apply Gy|rintro px rfl|refine fun(h:H)=>?_|intro hb)|refine Gs ?_|refine Gt ?_|exact Gz rfl|((with_reducible apply Gv);·rfl)|refine Tr.condT (by rfl) ?_|refine Tr.condF (by rfl) ?_|fail)
  refine Tr.jmp k_pslot_put (Tr.eq (e_pslot_put_L3 ..) ?_); (try simp only[Nr,Nl,wl,Nat.reduceAdd,Nat.reduceMul,Int.reduceToNat])
  (repeat' first|refine Gu ?_|(with_reducible first|refine Gn fun b h=>?_|apply Gx|apply Gy|rintro px rfl|refine fun(h:H)=>?_|intro hb)|refine Gs ?_|refine Gt ?_|exact Gz rfl|((with_reducible apply Gv);·rfl)|refine Tr.condT (by rfl) ?_|refine Tr.condF (by rfl) ?_|fail)
  refine Tr.jmp k_pslot_put (Tr.eq (e_pslot_put_L3 ..) ?_); (try simp only[Nr,Nl,wl,Nat.reduceAdd,Nat.reduceMul,Int.reduceToNat])
  (repeat' first|refine Gu ?_|(with_reducible first|refine Gn fun b h=>?_|apply Gx|apply Gy|rintro px rfl|refine fun(h:H)=>?_|intro hb)|refine Gs ?_|refine Gt ?_|exact Gz rfl|((with_reducible apply Gv);·rfl)|refine Tr.condT (by rfl) ?_|refine Tr.condF (by rfl) ?_|fail)
  refine Tr.jmp k_pslot_put (Tr.eq (e_pslot_put_L3 ..) ?_); (try simp only[Nr,Nl,wl,Nat.reduceAdd,Nat.reduceMul,Int.reduceToNat])
  (repeat' first|refine Gu ?_|(with_reducible first|refine Gn fun b h=>?_|apply Gx|apply Gy|rintro px rfl|refine fun(h:H)=>?_|intro hb)|refine Gs ?_|refine Gt ?_|exact Gz rfl|((with_reducible apply Gv);·rfl)|refine Tr.condT (by rfl) ?_|refine Tr.condF (by rfl) ?_|fail)
  refine Tr.jmp k_pslot_put (Tr.eq (e_pslot_put_L3 ..) ?_); (try simp only[Nr,Nl,wl,Nat.reduceAdd,Nat.reduceMul,Int.reduceToNat])
  (repeat' first|refine Gu ?_|(with_reducible first|refine Gn fun b h=>?_|apply Gx|apply Gy|rintro px rfl|refine fun(h:H)=>?_|intro hb)|refine Gs ?_|refine Gt ?_|exact Gz rfl|((with_reducible apply Gv);·rfl)|refine Tr.condT (by rfl) ?_|refine Tr.condF (by rfl) ?_|fail)
  refine Tr.jmp k_pslot_put (Tr.eq (e_pslot_put_L3 ..) ?_); (try simp only[Nr,Nl,wl,Nat.reduceAdd,Nat.reduceMul,Int.reduceToNat])
  (repeat' first|refine Gu ?_|(with_reducible first|refine Gn fun b h=>?_|apply Gx|apply Gy|rintro px rfl|refine fun(h:H)=>?_|intro hb)|refine Gs ?_|refine Gt ?_|exact Gz rfl|((with_reducible apply Gv);·rfl)|refine Tr.condT (by rfl) ?_|refine Tr.condF (by rfl) ?_|fail)
  refine Tr.jmp k_pslot_put (Tr.eq (e_pslot_put_L3 ..) ?_); (try simp only[Nr,Nl,wl,Nat.reduceAdd,Nat.reduceMul,Int.reduceToNat])
  (repeat' first|refine Gu ?_|(with_reducible first|refine Gn fun b h=>?_|apply Gx|apply Gy|rintro px rfl|refine fun(h:H)=>?_|intro hb)|refine Gs ?_|refine Gt ?_|exact Gz rfl|((with_reducible apply Gv);·rfl)|refine Tr.condT (by rfl) ?_|refine Tr.condF (by rfl) ?_|fail)
  refine Tr.jmp k_pslot_put (Tr.eq (e_pslot_put_L3 ..) ?_); (try simp only[Nr,Nl,wl,Nat.reduceAdd,Nat.reduceMul,Int.reduceToNat])
  (repeat' first|refine Gu ?_|(with_reducible first|refine Gn fun b h=>?_|apply Gx|apply Gy|rintro px rfl|refine fun(h:H)=>?_|intro hb)|refine Gs ?_|refine Gt ?_|exact Gz rfl|((with_reducible apply Gv);·rfl)|refine Tr.condT (by rfl) ?_|refine Tr.condF (by rfl) ?_|fail)
  refine Tr.jmp k_pslot_put (Tr.eq (e_pslot_put_L3 ..) ?_); (try simp only[Nr,Nl,wl,Nat.reduceAdd,Nat.reduceMul,Int.reduceToNat])
  (repeat' first|refine Gu ?_|(with_reducible first|refine Gn fun b h=>?_|apply Gx|apply Gy|rintro px rfl|refine fun(h:H)=>?_|intro hb)|refine Gs ?_|refine Gt ?_|exact Gz rfl|((with_reducible apply Gv);·rfl)|refine Tr.condT (by rfl) ?_|refine Tr.condF (by rfl) ?_|fail)
  refine Tr.jmp k_pslot_put (Tr.eq (e_pslot_put_L3 ..) ?_); (try simp only[Nr,Nl,wl,Nat.reduceAdd,Nat.reduceMul,Int.reduceToNat])
  (repeat' first|refine Gu ?_|(with_reducible first|refine Gn fun b h=>?_|apply Gx|apply Gy|rintro px rfl|refine fun(h:H)=>?_|intro hb)|refine Gs ?_|refine Gt ?_|exact Gz rfl|((with_reducible apply Gv);·rfl)|refine Tr.condT (by rfl) ?_|refine Tr.condF (by rfl) ?_|fail)
  simp only [b8_val,bc_set,List.set_cons_zero,List.set_cons_succ,Nat.mul_one]
  rw [show (.int .u8 167 : Value) = .int .u8 ((167 : UInt8).toNat : Int) from rfl,bc_set]
  simp only [List.set_cons_zero,List.set_cons_succ]
  refine Tr.pcall (ct_Sum (slC false Y_uint8 1 (some px) 24 c (byteCells [b8 st,b8 pa,b8 gr,b8 co,hi2 pe,lo2 pe,hi2 ma,lo2 ma,hi2 ig,lo2 ig,hi2 ca,lo2 ca,b8 f0,b8 f1,b8 f2,b8 f3,b8 f4,b8 f5,b8 f6,b8 f7,167,0,0,0])) (some px) false 24 c c [b8 st,b8 pa,b8 gr,b8 co,hi2 pe,lo2 pe,hi2 ma,lo2 ma,hi2 ig,lo2 ig,hi2 ca,lo2 ca,b8 f0,b8 f1,b8 f2,b8 f3,b8 f4,b8 f5,b8 f6,b8 f7,167,0,0,0] 21 (by simp) (by simp [most])) ?_
  (try simp only[Nr,Nl,Nat.reduceAdd,Nat.reduceMul,Int.reduceToNat])
  (repeat' first|refine Gu ?_|(with_reducible first|refine Gn fun b h=>?_|apply Gx|apply Gy|rintro px rfl|refine fun(h:H)=>?_|intro hb)|refine Gs ?_|refine Gt ?_|exact Gz rfl|fail)
  rw [sum8_val]
  (repeat' first|refine Gu ?_|(with_reducible first|refine Gn fun b h=>?_|apply Gx|apply Gy|rintro px rfl|refine fun(h:H)=>?_|intro hb)|refine Gs ?_|refine Gt ?_|exact Gz rfl|((with_reducible apply Gv);·rfl)|refine Tr.condT (by rfl) ?_|refine Tr.condF (by rfl) ?_|fail)
  refine Tr.some fun o=>?_
  rw [bc_set] at o
  simp only [List.set_cons_zero,List.set_cons_succ] at o
  simp only [encS,headS,put2,List.map,List.cons_append,List.nil_append]
  exact ⟨trivial,o.sub⟩
abbrev codS (k : Nat) : HP := pt k (.cells Y_codec_Codec_api_Proc false [int 24,.func (.func F_pslot_put) ⟨[]⟩ ⟨[]⟩,.func (.func F_pslot_get) ⟨[]⟩ ⟨[]⟩])
theorem ct_cEncodeS (k : Nat) (f : ProcS) : Ct CALL F_codec_Codec_api_Proc_Encode [P0 k,.agg ⟨procL f⟩] [codS k] fun v own=>(okS f = true ∧ ∃ a,v = .tuple ⟨[.slice a 24 24,.bool true]⟩ ∧ own [codS k,slC false Y_uint8 1 a 24 24 (byteCells (encS f))]) ∨ (okS f = false ∧ v = .tuple ⟨[.slice none 0 0,.bool false]⟩ ∧ own [codS k]) := by
 refine Ct.of k_codec_Codec_api_Proc_Encode rfl fun h r=>Tr.eq (e_codec_Codec_api_Proc_Encode ..) ?_; (try simp only[Nr,Nl,Nat.reduceAdd,Nat.reduceMul,Int.reduceToNat])
 (repeat' first|refine Gu ?_|(with_reducible first|refine Gn fun b h=>?_|apply Gx|apply Gy|rintro px rfl|refine fun(h:H)=>?_|intro hb)|refine Gs ?_|refine Gt ?_|exact Gz rfl|fail)
 refine Tr.ck ⟨by omega,by omega,by simp [most]⟩ ?_
 refine Tr.nw fun b1 h=>?_
 rw [show manyN (Int.toNat 24) [.int .u8 0] = byteCells (List.replicate 24 0) from rfl]
 refine tr_asSl 0 rfl 1 24 rfl (by omega) ?_
 simp only [List.set_cons_zero]
 (try simp only[Nr,Nl,Nat.reduceAdd,Nat.reduceMul,Int.reduceToNat])
 (repeat' first|refine Gu ?_|(with_reducible first|refine Gn fun b h=>?_|rintro px rfl|refine fun(h:H)=>?_|intro hb)|refine Gs ?_|refine Gt ?_|exact Gz rfl|fail)
 refine Tr.bnd (Tr.condF rfl ?_)
 (repeat' first|refine Gu ?_|(with_reducible first|refine Gn fun b h=>?_|rintro px rfl|refine fun(h:H)=>?_|intro hb)|refine Gs ?_|refine Gt ?_|exact Gz rfl|fail)
 refine Tr.xCall (ct_putS (some ⟨b1,0,none⟩) 24 f) ?_; rintro _ h ⟨rfl,o⟩ <;> (refine (?_ : Tr _ _ _ _) o; (try simp only[Nr,Nl,Nat.reduceAdd,Nat.reduceMul,Int.reduceToNat]); (repeat' first|refine Gu ?_|(with_reducible first|refine Gn fun b h=>?_|rintro px rfl|refine fun(h:H)=>?_|intro hb)|refine Gs ?_|refine Gt ?_|exact Gz rfl|fail))
 refine Tr.some fun o=>(?_ : Tr _ _ _ _) o; (try simp only[Nr,Nl,Nat.reduceAdd,Nat.reduceMul,Int.reduceToNat])
 cases hk : okS f with
 | false =>
  (repeat' first|refine Gu ?_|(with_reducible first|refine Gn fun b h=>?_|apply Gx|apply Gy|rintro px rfl|refine fun(h:H)=>?_|intro hb)|refine Gs ?_|refine Gt ?_|exact Gz rfl|fail)
  refine Tr.some fun o=>?_
  exact .inr ⟨rfl,rfl,o.sub⟩
 | true =>
  (repeat' first|refine Gu ?_|(with_reducible first|refine Gn fun b h=>?_|apply Gx|apply Gy|rintro px rfl|refine fun(h:H)=>?_|intro hb)|refine Gs ?_|refine Gt ?_|exact Gz rfl|fail)
  refine Tr.some fun o=>?_
  simp only [if_true] at o
  exact .inl ⟨rfl,_,rfl,o.sub⟩
theorem ct_NewS : Ct CALL F_codec_New_api_Proc [int 24,.func (.func F_pslot_put) ⟨[]⟩ ⟨[]⟩,.func (.func F_pslot_get) ⟨[]⟩ ⟨[]⟩] [] fun v own=>∃ k,v = P0 k ∧ own [codS k] := by
 refine Ct.of k_codec_New_api_Proc rfl fun h r=>Tr.eq (e_codec_New_api_Proc ..) ?_; (try simp only[Nr,Nl,Nat.reduceAdd,Nat.reduceMul,Int.reduceToNat])
 rw [show mm2 false (mm2 true 24 0) 64 = 24 from rfl]
 (repeat' first|refine Gu ?_|(with_reducible first|refine Gn fun b h=>?_|apply Gx|apply Gy|rintro px rfl|refine fun(h:H)=>?_|intro hb)|refine Gs ?_|refine Gt ?_|exact Gz rfl|fail)
 refine Tr.some fun o=>?_
 exact ⟨_,rfl,o.sub⟩
theorem ct_CodecS : Ct CALL F_pslot_Codec [] [] fun v own=>∃ k,v = P0 k ∧ own [codS k] := by
 refine Ct.of k_pslot_Codec rfl fun h r=>Tr.eq (e_pslot_Codec ..) ?_; (try simp only[Nr,Nl,Nat.reduceAdd,Nat.reduceMul,Int.reduceToNat])
 refine Tr.xCall (ct_NewS) ?_; rintro _ h ⟨k,rfl,o⟩ <;> (refine (?_ : Tr _ _ _ _) o; (try simp only[Nr,Nl,Nat.reduceAdd,Nat.reduceMul,Int.reduceToNat]); (repeat' first|refine Gu ?_|(with_reducible first|refine Gn fun b h=>?_|apply Gx|apply Gy|rintro px rfl|refine fun(h:H)=>?_|intro hb)|refine Gs ?_|refine Gt ?_|exact Gz rfl|fail))
 refine Tr.some fun o=>?_
 exact ⟨_,rfl,o.sub⟩
theorem ct_EncodeS (f : ProcS) : Ct CALL F_pslot_Encode [.agg ⟨procL f⟩] [] fun v own=>(okS f = true ∧ ∃ a,v = .tuple ⟨[.slice a 24 24,.bool true]⟩ ∧ own [slC false Y_uint8 1 a 24 24 (byteCells (encS f))]) ∨ (okS f = false ∧ v = .tuple ⟨[.slice none 0 0,.bool false]⟩ ∧ own []) := by
 refine Ct.of k_pslot_Encode rfl fun h r=>Tr.eq (e_pslot_Encode ..) ?_; (try simp only[Nr,Nl,Nat.reduceAdd,Nat.reduceMul,Int.reduceToNat])
 (repeat' first|refine Gu ?_|(with_reducible first|refine Gn fun b h=>?_|apply Gx|apply Gy|rintro px rfl|refine fun(h:H)=>?_|intro hb)|refine Gs ?_|refine Gt ?_|exact Gz rfl|fail)
 refine Tr.xCall (ct_CodecS) ?_; rintro _ h ⟨k,rfl,o⟩ <;> (refine (?_ : Tr _ _ _ _) o; (try simp only[Nr,Nl,Nat.reduceAdd,Nat.reduceMul,Int.reduceToNat]); (repeat' first|refine Gu ?_|(with_reducible first|refine Gn fun b h=>?_|rintro px rfl|refine fun(h:H)=>?_|intro hb)|refine Gs ?_|refine Gt ?_|exact Gz rfl|fail))
 refine Tr.xCall (ct_cEncodeS k f) ?_
 rintro v h (⟨hk,a,rfl,o⟩ | ⟨hk,rfl,o⟩)
 ·refine (?_ : Tr _ _ _ _) o
  (try simp only[Nr,Nl,Nat.reduceAdd,Nat.reduceMul,Int.reduceToNat])
  (repeat' first|refine Gu ?_|(with_reducible first|refine Gn fun b h=>?_|apply Gx|apply Gy|rintro px rfl|refine fun(h:H)=>?_|intro hb)|refine Gs ?_|refine Gt ?_|exact Gz rfl|fail)
  refine Tr.some fun o=>?_
  exact .inl ⟨hk,a,rfl,o.sub⟩
 ·refine (?_ : Tr _ _ _ _) o
  (try simp only[Nr,Nl,Nat.reduceAdd,Nat.reduceMul,Int.reduceToNat])
  (repeat' first|refine Gu ?_|(with_reducible first|refine Gn fun b h=>?_|apply Gx|apply Gy|rintro px rfl|refine fun(h:H)=>?_|intro hb)|refine Gs ?_|refine Gt ?_|exact Gz rfl|fail)
  refine Tr.some fun o=>?_
  exact .inr ⟨hk,rfl,o.sub⟩
def getS (l : List UInt8) : ProcS := ⟨byI l 0,byI l 1,byI l 2,byI l 3,two l 4,two l 6,two l 8,two l 10,[byI l 12,byI l 13,byI l 14,byI l 15,byI l 16,byI l 17,byI l 18,byI l 19],rfl⟩
def isS (l : List UInt8) : Bool := okS (getS l) && decide (encS (getS l) = l)
theorem ct_getS (a : Option Addr) (c : Nat) (l : List UInt8) (hl : l.length = 24) : Ct CALL F_pslot_get [.slice a 24 c] [slC false Y_uint8 1 a 24 c (byteCells l)] fun v own=>v = .tuple ⟨[.agg ⟨procL (getS l)⟩,.bool (isS l)]⟩ ∧ own [slC false Y_uint8 1 a 24 c (byteCells l)] := by
 have key : ∀ a1 : Option Addr,CtP CALL F_slices_Equal_s_byte_byte [.slice a1 24 24,.slice a 24 c] [slC false Y_uint8 1 a1 24 24 (byteCells (encS (getS l))),slC false Y_uint8 1 a 24 c (byteCells l)] (.bool (decide (encS (getS l) = l))) := fun a1=>by
  have e := encS_len (getS l)
  have J := ct_EqualB (slC false Y_uint8 1 a1 (encS (getS l)).length 24 (byteCells (encS (getS l)))) (slC false Y_uint8 1 a l.length c (byteCells l)) a1 false 24 a false c (encS (getS l)) l (by rw [e]; simp [most])
  rwa [hl,e] at J
 refine Ct.of k_pslot_get rfl fun h r=>Tr.eq (e_pslot_get ..) ?_; (try simp only[Nr,Nl,Nat.reduceAdd,Nat.reduceMul,Int.reduceToNat])
 refine Tr.nw fun b1 h=>?_
 refine tr_slFact 1 rfl fun hl2 hc2 _=>?_
 (repeat' first|refine Gu ?_|(with_reducible first|refine Gn fun b h=>?_|apply Gx|apply Gy|rintro px rfl|refine fun(h:H)=>?_|intro hb)|refine Gs ?_|refine Gt ?_|exact Gz rfl|fail)
 refine Tr.xIntS (v := byI l 0) (bc_at (by omega)) ?_
 (repeat' first|refine Gu ?_|(with_reducible first|refine Gn fun b h=>?_|apply Gx|apply Gy|rintro px rfl|refine fun(h:H)=>?_|intro hb)|refine Gs ?_|refine Gt ?_|exact Gz rfl|fail)
 refine Tr.xIntS (v := byI l 1) (bc_at (by omega)) ?_
 (repeat' first|refine Gu ?_|(with_reducible first|refine Gn fun b h=>?_|apply Gx|apply Gy|rintro px rfl|refine fun(h:H)=>?_|intro hb)|refine Gs ?_|refine Gt ?_|exact Gz rfl|fail)
 refine Tr.xIntS (v := byI l 2) (bc_at (by omega)) ?_
 (repeat' first|refine Gu ?_|(with_reducible first|refine Gn fun b h=>?_|apply Gx|apply Gy|rintro px rfl|refine fun(h:H)=>?_|intro hb)|refine Gs ?_|refine Gt ?_|exact Gz rfl|fail)
 refine Tr.xIntS (v := byI l 3) (bc_at (by omega)) ?_
 (repeat' first|refine Gu ?_|(with_reducible first|refine Gn fun b h=>?_|apply Gx|apply Gy|rintro px rfl|refine fun(h:H)=>?_|intro hb)|refine Gs ?_|refine Gt ?_|exact Gz rfl|fail)
 simp only [byI,wrap_b]
 refine Tr.jmp k_pslot_get (Tr.eq (e_pslot_get_L1 ..) ?_); (try simp only[Nr,Nl,wl,Nat.reduceAdd,Nat.reduceMul,Int.reduceToNat])
 (repeat' first|refine Gu ?_|(with_reducible first|refine Gn fun b h=>?_|apply Gx|apply Gy|rintro px rfl|refine fun(h:H)=>?_|intro hb)|refine Gs ?_|refine Gt ?_|exact Gz rfl|((with_reducible apply Gv);·rfl)|refine Tr.condT (by rfl) ?_|refine Tr.condF (by rfl) ?_|fail)
 refine Tr.pcall (ct_Get2 (some px) c 24 l 4 hl (by omega) (by simp [most])) ?_; (try simp only[Nr,Nl,Nat.reduceAdd,Nat.reduceMul,Int.reduceToNat]); (repeat' first|refine Gu ?_|(with_reducible first|refine Gn fun b h=>?_|apply Gx|apply Gy|rintro px rfl|refine fun(h:H)=>?_|intro hb)|refine Gs ?_|refine Gt ?_|exact Gz rfl|fail)
 refine Tr.jmp k_pslot_get (Tr.eq (e_pslot_get_L1 ..) ?_); (try simp only[Nr,Nl,wl,Nat.reduceAdd,Nat.reduceMul,Int.reduceToNat])
 (repeat' first|refine Gu ?_|(with_reducible first|refine Gn fun b h=>?_|apply Gx|apply Gy|rintro px rfl|refine fun(h:H)=>?_|intro hb)|refine Gs ?_|refine Gt ?_|exact Gz rfl|((with_reducible apply Gv);·rfl)|refine Tr.condT (by rfl) ?_|refine Tr.condF (by rfl) ?_|fail)
 refine Tr.pcall (ct_Get2 (some px) c 24 l 6 hl (by omega) (by simp [most])) ?_; (try simp only[Nr,Nl,Nat.reduceAdd,Nat.reduceMul,Int.reduceToNat]); (repeat' first|refine Gu ?_|(with_reducible first|refine Gn fun b h=>?_|apply Gx|apply Gy|rintro px rfl|refine fun(h:H)=>?_|intro hb)|refine Gs ?_|refine Gt ?_|exact Gz rfl|fail)
 refine Tr.jmp k_pslot_get (Tr.eq (e_pslot_get_L1 ..) ?_); (try simp only[Nr,Nl,wl,Nat.reduceAdd,Nat.reduceMul,Int.reduceToNat])
 (repeat' first|refine Gu ?_|(with_reducible first|refine Gn fun b h=>?_|apply Gx|apply Gy|rintro px rfl|refine fun(h:H)=>?_|intro hb)|refine Gs ?_|refine Gt ?_|exact Gz rfl|((with_reducible apply Gv);·rfl)|refine Tr.condT (by rfl) ?_|refine Tr.condF (by rfl) ?_|fail)
 refine Tr.pcall (ct_Get2 (some px) c 24 l 8 hl (by omega) (by simp [most])) ?_; (try simp only[Nr,Nl,Nat.reduceAdd,Nat.reduceMul,Int.reduceToNat]); (repeat' first|refine Gu ?_|(with_reducible first|refine Gn fun b h=>?_|apply Gx|apply Gy|rintro px rfl|refine fun(h:H)=>?_|intro hb)|refine Gs ?_|refine Gt ?_|exact Gz rfl|fail)
 refine Tr.jmp k_pslot_get (Tr.eq (e_pslot_get_L1 ..) ?_); (try simp only[Nr,Nl,wl,Nat.reduceAdd,Nat.reduceMul,Int.reduceToNat])
 (repeat' first|refine Gu ?_|(with_reducible first|refine Gn fun b h=>?_|apply Gx|apply Gy|rintro px rfl|refine fun(h:H)=>?_|intro hb)|refine Gs ?_|refine Gt ?_|exact Gz rfl|((with_reducible apply Gv);·rfl)|refine Tr.condT (by rfl) ?_|refine Tr.condF (by rfl) ?_|fail)
 refine Tr.pcall (ct_Get2 (some px) c 24 l 10 hl (by omega) (by simp [most])) ?_; (try simp only[Nr,Nl,Nat.reduceAdd,Nat.reduceMul,Int.reduceToNat]); (repeat' first|refine Gu ?_|(with_reducible first|refine Gn fun b h=>?_|apply Gx|apply Gy|rintro px rfl|refine fun(h:H)=>?_|intro hb)|refine Gs ?_|refine Gt ?_|exact Gz rfl|fail)
 refine Tr.jmp k_pslot_get (Tr.eq (e_pslot_get_L1 ..) ?_); (try simp only[Nr,Nl,wl,Nat.reduceAdd,Nat.reduceMul,Int.reduceToNat])
 (repeat' first|refine Gu ?_|(with_reducible first|refine Gn fun b h=>?_|apply Gx|apply Gy|rintro px rfl|refine fun(h:H)=>?_|intro hb)|refine Gs ?_|refine Gt ?_|exact Gz rfl|((with_reducible apply Gv);·rfl)|refine Tr.condT (by rfl) ?_|refine Tr.condF (by rfl) ?_|fail)
 refine Tr.jmp k_pslot_get (Tr.eq (e_pslot_get_L2 ..) ?_); (try simp only[Nr,Nl,wl,Nat.reduceAdd,Nat.reduceMul,Int.reduceToNat])
 (repeat' first|refine Gu ?_|(with_reducible first|refine Gn fun b h=>?_|apply Gx|apply Gy|rintro px rfl|refine fun(h:H)=>?_|intro hb)|refine Gs ?_|refine Gt ?_|exact Gz rfl|((with_reducible apply Gv);·rfl)|refine Tr.condT (by rfl) ?_|refine Tr.condF (by rfl) ?_|fail)
 refine Tr.xIntS (v := byI l 12) (bc_at (by omega)) ?_
 (repeat' first|refine Gu ?_|(with_reducible first|refine Gn fun b h=>?_|apply Gx|apply Gy|rintro px rfl|refine fun(h:H)=>?_|intro hb)|refine Gs ?_|refine Gt ?_|exact Gz rfl|((with_reducible apply Gv);·rfl)|refine Tr.condT (by rfl) ?_|refine Tr.condF (by rfl) ?_|fail)
 simp only [byI,wrap_b]
 refine Tr.jmp k_pslot_get (Tr.eq (e_pslot_get_L2 ..) ?_); (try simp only[Nr,Nl,wl,Nat.reduceAdd,Nat.reduceMul,Int.reduceToNat])
 (repeat' first|refine Gu ?_|(with_reducible first|refine Gn fun b h=>?_|apply Gx|apply Gy|rintro px rfl|refine fun(h:H)=>?_|intro hb)|refine Gs ?_|refine Gt ?_|exact Gz rfl|((with_reducible apply Gv);·rfl)|refine Tr.condT (by rfl) ?_|refine Tr.condF (by rfl) ?_|fail)
 refine Tr.xIntS (v := byI l 13) (bc_at (by omega)) ?_
 (repeat' first|refine Gu ?_|(with_reducible first|refine Gn fun b h=>?_|apply Gx|apply Gy|rintro px rfl|refine fun(h:H)=>?_|intro hb)|refine Gs ?_|refine Gt ?_|exact Gz rfl|((with_reducible apply Gv);·rfl)|refine Tr.condT (by rfl) ?_|refine Tr.condF (by rfl) ?_|fail)
 simp only [byI,wrap_b]
 refine Tr.jmp k_pslot_get (Tr.eq (e_pslot_get_L2 ..) ?_); (try simp only[Nr,Nl,wl,Nat.reduceAdd,Nat.reduceMul,Int.reduceToNat])
 (repeat' first|refine Gu ?_|(with_reducible first|refine Gn fun b h=>?_|apply Gx|apply Gy|rintro px rfl|refine fun(h:H)=>?_|intro hb)|refine Gs ?_|refine Gt ?_|exact Gz rfl|((with_reducible apply Gv);·rfl)|refine Tr.condT (by rfl) ?_|refine Tr.condF (by rfl) ?_|fail)
 refine Tr.xIntS (v := byI l 14) (bc_at (by omega)) ?_
 (repeat' first|refine Gu ?_|(with_reducible first|refine Gn fun b h=>?_|apply Gx|apply Gy|rintro px rfl|refine fun(h:H)=>?_|intro hb)|refine Gs ?_|refine Gt ?_|exact Gz rfl|((with_reducible apply Gv);·rfl)|refine Tr.condT (by rfl) ?_|refine Tr.condF (by rfl) ?_|fail)
 simp only [byI,wrap_b]
 refine Tr.jmp k_pslot_get (Tr.eq (e_pslot_get_L2 ..) ?_); (try simp only[Nr,Nl,wl,Nat.reduceAdd,Nat.reduceMul,Int.reduceToNat])
 (repeat' first|refine Gu ?_|(with_reducible first|refine Gn fun b h=>?_|apply Gx|apply Gy|rintro px rfl|refine fun(h:H)=>?_|intro hb)|refine Gs ?_|refine Gt ?_|exact Gz rfl|((with_reducible apply Gv);·rfl)|refine Tr.condT (by rfl) ?_|refine Tr.condF (by rfl) ?_|fail)
 refine Tr.xIntS (v := byI l 15) (bc_at (by omega)) ?_
 (repeat' first|refine Gu ?_|(with_reducible first|refine Gn fun b h=>?_|apply Gx|apply Gy|rintro px rfl|refine fun(h:H)=>?_|intro hb)|refine Gs ?_|refine Gt ?_|exact Gz rfl|((with_reducible apply Gv);·rfl)|refine Tr.condT (by rfl) ?_|refine Tr.condF (by rfl) ?_|fail)
 simp only [byI,wrap_b]
 refine Tr.jmp k_pslot_get (Tr.eq (e_pslot_get_L2 ..) ?_); (try simp only[Nr,Nl,wl,Nat.reduceAdd,Nat.reduceMul,Int.reduceToNat])
 (repeat' first|refine Gu ?_|(with_reducible first|refine Gn fun b h=>?_|apply Gx|apply Gy|rintro px rfl|refine fun(h:H)=>?_|intro hb)|refine Gs ?_|refine Gt ?_|exact Gz rfl|((with_reducible apply Gv);·rfl)|refine Tr.condT (by rfl) ?_|refine Tr.condF (by rfl) ?_|fail)
 refine Tr.xIntS (v := byI l 16) (bc_at (by omega)) ?_
 (repeat' first|refine Gu ?_|(with_reducible first|refine Gn fun b h=>?_|apply Gx|apply Gy|rintro px rfl|refine fun(h:H)=>?_|intro hb)|refine Gs ?_|refine Gt ?_|exact Gz rfl|((with_reducible apply Gv);·rfl)|refine Tr.condT (by rfl) ?_|refine Tr.condF (by rfl) ?_|fail)
 simp only [byI,wrap_b]
 refine Tr.jmp k_pslot_get (Tr.eq (e_pslot_get_L2 ..) ?_); (try simp only[Nr,Nl,wl,Nat.reduceAdd,Nat.reduceMul,Int.reduceToNat])
 (repeat' first|refine Gu ?_|(with_reducible first|refine Gn fun b h=>?_|apply Gx|apply Gy|rintro px rfl|refine fun(h:H)=>?_|intro hb)|refine Gs ?_|refine Gt ?_|exact Gz rfl|((with_reducible apply Gv);·rfl)|refine Tr.condT (by rfl) ?_|refine Tr.condF (by rfl) ?_|fail)
 refine Tr.xIntS (v := byI l 17) (bc_at (by omega)) ?_
 (repeat' first|refine Gu ?_|(with_reducible first|refine Gn fun b h=>?_|apply Gx|apply Gy|rintro px rfl|refine fun(h:H)=>?_|intro hb)|refine Gs ?_|refine Gt ?_|exact Gz rfl|((with_reducible apply Gv);·rfl)|refine Tr.condT (by rfl) ?_|refine Tr.condF (by rfl) ?_|fail)
 simp only [byI,wrap_b]
 refine Tr.jmp k_pslot_get (Tr.eq (e_pslot_get_L2 ..) ?_); (try simp only[Nr,Nl,wl,Nat.reduceAdd,Nat.reduceMul,Int.reduceToNat])
 (repeat' first|refine Gu ?_|(with_reducible first|refine Gn fun b h=>?_|apply Gx|apply Gy|rintro px rfl|refine fun(h:H)=>?_|intro hb)|refine Gs ?_|refine Gt ?_|exact Gz rfl|((with_reducible apply Gv);·rfl)|refine Tr.condT (by rfl) ?_|refine Tr.condF (by rfl) ?_|fail)
 refine Tr.xIntS (v := byI l 18) (bc_at (by omega)) ?_
 (repeat' first|refine Gu ?_|(with_reducible first|refine Gn fun b h=>?_|apply Gx|apply Gy|rintro px rfl|refine fun(h:H)=>?_|intro hb)|refine Gs ?_|refine Gt ?_|exact Gz rfl|((with_reducible apply Gv);·rfl)|refine Tr.condT (by rfl) ?_|refine Tr.condF (by rfl) ?_|fail)
 simp only [byI,wrap_b]
 refine Tr.jmp k_pslot_get (Tr.eq (e_pslot_get_L2 ..) ?_); (try simp only[Nr,Nl,wl,Nat.reduceAdd,Nat.reduceMul,Int.reduceToNat])
 (repeat' first|refine Gu ?_|(with_reducible first|refine Gn fun b h=>?_|apply Gx|apply Gy|rintro px rfl|refine fun(h:H)=>?_|intro hb)|refine Gs ?_|refine Gt ?_|exact Gz rfl|((with_reducible apply Gv);·rfl)|refine Tr.condT (by rfl) ?_|refine Tr.condF (by rfl) ?_|fail)
 refine Tr.xIntS (v := byI l 19) (bc_at (by omega)) ?_
 (repeat' first|refine Gu ?_|(with_reducible first|refine Gn fun b h=>?_|apply Gx|apply Gy|rintro px rfl|refine fun(h:H)=>?_|intro hb)|refine Gs ?_|refine Gt ?_|exact Gz rfl|((with_reducible apply Gv);·rfl)|refine Tr.condT (by rfl) ?_|refine Tr.condF (by rfl) ?_|fail)
 simp only [byI,wrap_b]
 refine Tr.jmp k_pslot_get (Tr.eq (e_pslot_get_L2 ..) ?_); (try simp only[Nr,Nl,wl,Nat.reduceAdd,Nat.reduceMul,Int.reduceToNat])
 refine Tr.condF rfl ?_
 refine Tr.xAgg (xs := procL (getS l)) ⟨Nat.le_of_ble_eq_true rfl,rfl⟩ ?_
 refine Tr.xCall (ct_EncodeS (getS l)) ?_
 rintro v h (⟨hk,a1,rfl,o⟩ | ⟨hk,rfl,o⟩)
 ·refine (?_ : Tr _ _ _ _) o
  (try simp only[Nr,Nl,Nat.reduceAdd,Nat.reduceMul,Int.reduceToNat])
  refine Tr.dx ?_
  refine Tr.dx ?_
  refine Tr.dx ?_
  refine Tr.xAgg (xs := procL (getS l)) ⟨Nat.le_of_ble_eq_true rfl,rfl⟩ ?_
  refine Tr.bnd (Tr.condT rfl ?_)
  refine Tr.pcall (key a1) ?_
  refine Tr.dx ?_
  refine Tr.xAgg (xs := procL (getS l)) ⟨Nat.le_of_ble_eq_true rfl,rfl⟩ ?_
  (repeat' first|refine Gu ?_|(with_reducible first|refine Gn fun b h=>?_|apply Gx|apply Gy|rintro px rfl|refine fun(h:H)=>?_|intro hb)|refine Gs ?_|refine Gt ?_|exact Gz rfl|fail)
  refine Tr.some fun o=>(?_ : Tr _ _ _ _) o; (try simp only[Nr,Nl,Nat.reduceAdd,Nat.reduceMul,Int.reduceToNat])
  (repeat' first|refine Gu ?_|(with_reducible first|refine Gn fun b h=>?_|apply Gx|apply Gy|rintro px rfl|refine fun(h:H)=>?_|intro hb)|refine Gs ?_|refine Gt ?_|exact Gz rfl|fail)
  refine Tr.some fun o=>?_
  exact ⟨by unfold isS; rw [hk,Bool.true_and],o.sub⟩
 ·refine (?_ : Tr _ _ _ _) o
  (try simp only[Nr,Nl,Nat.reduceAdd,Nat.reduceMul,Int.reduceToNat])
  refine Tr.dx ?_
  refine Tr.dx ?_
  refine Tr.dx ?_
  refine Tr.xAgg (xs := procL (getS l)) ⟨Nat.le_of_ble_eq_true rfl,rfl⟩ ?_
  (repeat' first|refine Gu ?_|(with_reducible first|refine Gn fun b h=>?_|apply Gx|apply Gy|rintro px rfl|refine fun(h:H)=>?_|intro hb)|refine Gs ?_|refine Gt ?_|exact Gz rfl|fail)
  refine Tr.some fun o=>?_
  exact ⟨by unfold isS; rw [hk]; rfl,o.sub⟩
theorem ct_cDecodeS (k : Nat) (a : Option Addr) (c : Nat) (l : List UInt8) (hl : l.length = 24) : Ct CALL F_codec_Codec_api_Proc_Decode [P0 k,.slice a 24 c] [codS k,slC false Y_uint8 1 a 24 c (byteCells l)] fun v own=>v = .tuple ⟨[.agg ⟨procL (if isS l then getS l else .zero)⟩,.bool (isS l)]⟩ ∧ own [codS k,slC false Y_uint8 1 a 24 c (byteCells l)] := by
 refine Ct.of k_codec_Codec_api_Proc_Decode rfl fun h r=>Tr.eq (e_codec_Codec_api_Proc_Decode ..) ?_; (try simp only[Nr,Nl,Nat.reduceAdd,Nat.reduceMul,Int.reduceToNat])
 (repeat' first|refine Gu ?_|(with_reducible first|refine Gn fun b h=>?_|apply Gx|apply Gy|rintro px rfl|refine fun(h:H)=>?_|intro hb)|refine Gs ?_|refine Gt ?_|exact Gz rfl|fail)
 refine Tr.condF rfl ?_
 (repeat' first|refine Gu ?_|(with_reducible first|refine Gn fun b h=>?_|rintro px rfl|refine fun(h:H)=>?_|intro hb)|refine Gs ?_|refine Gt ?_|exact Gz rfl|fail)
 refine Tr.xCall (ct_clone8 24 a c l hl (by simp [most])) ?_; rintro _ h ⟨a1,c1,rfl,o⟩ <;> (refine (?_ : Tr _ _ _ _) o; (try simp only[Nr,Nl,Nat.reduceAdd,Nat.reduceMul,Int.reduceToNat]); (repeat' first|refine Gu ?_|(with_reducible first|refine Gn fun b h=>?_|rintro px rfl|refine fun(h:H)=>?_|intro hb)|refine Gs ?_|refine Gt ?_|exact Gz rfl|fail))
 refine Tr.xCall (ct_getS a1 c1 l hl) ?_; rintro _ h ⟨rfl,o⟩ <;> (refine (?_ : Tr _ _ _ _) o; (try simp only[Nr,Nl,Nat.reduceAdd,Nat.reduceMul,Int.reduceToNat]); (repeat' first|refine Gu ?_|(with_reducible first|refine Gn fun b h=>?_|rintro px rfl|refine fun(h:H)=>?_|intro hb)|refine Gs ?_|refine Gt ?_|exact Gz rfl|fail))
 cases hk : isS l with
 | false =>
  (repeat' first|refine Gu ?_|(with_reducible first|refine Gn fun b h=>?_|apply Gx|apply Gy|rintro px rfl|refine fun(h:H)=>?_|intro hb)|refine Gs ?_|refine Gt ?_|exact Gz rfl|fail)
  refine Tr.some fun o=>?_
  exact ⟨rfl,o.sub⟩
 | true =>
  (repeat' first|refine Gu ?_|(with_reducible first|refine Gn fun b h=>?_|apply Gx|apply Gy|rintro px rfl|refine fun(h:H)=>?_|intro hb)|refine Gs ?_|refine Gt ?_|exact Gz rfl|fail)
  refine Tr.some fun o=>?_
  exact ⟨rfl,o.sub⟩
def decS (l : List UInt8) : ProcS × Int := if l.all (· == 0) then (.zero,0) else if isS l then (getS l,1) else (.zero,2)
theorem ct_DecodeS (a : Option Addr) (c : Nat) (l : List UInt8) (hl : l.length = 24) : Ct CALL F_pslot_Decode [.slice a 24 c] [slC false Y_uint8 1 a 24 c (byteCells l)] fun v own=>v = .tuple ⟨[.agg ⟨procL (decS l).1⟩,int (decS l).2]⟩ ∧ own [slC false Y_uint8 1 a 24 c (byteCells l)] := by
 refine Ct.of k_pslot_Decode rfl fun h r=>Tr.eq (e_pslot_Decode ..) ?_; (try simp only[Nr,Nl,Nat.reduceAdd,Nat.reduceMul,Int.reduceToNat])
 refine Tr.nw fun b1 h=>?_
 refine Tr.bnd (Tr.condT rfl ?_)
 refine Tr.pcall (ct_blank8 24 a c l hl (by simp [most])) ?_; (try simp only[Nr,Nl,Nat.reduceAdd,Nat.reduceMul,Int.reduceToNat]); (repeat' first|refine Gu ?_|(with_reducible first|refine Gn fun b h=>?_|rintro px rfl|refine fun(h:H)=>?_|intro hb)|refine Gs ?_|refine Gt ?_|exact Gz rfl|fail)
 refine Tr.some fun o=>(?_ : Tr _ _ _ _) o; (try simp only[Nr,Nl,Nat.reduceAdd,Nat.reduceMul,Int.reduceToNat])
 cases hb : l.all (· == 0) with
 | true =>
  (repeat' first|refine Gu ?_|(with_reducible first|refine Gn fun b h=>?_|apply Gx|apply Gy|rintro px rfl|refine fun(h:H)=>?_|intro hb)|refine Gs ?_|refine Gt ?_|exact Gz rfl|fail)
  refine Tr.some fun o=>?_
  exact ⟨by unfold decS; rw [hb]; rfl,o.sub⟩
 | false =>
  (repeat' first|refine Gu ?_|(with_reducible first|refine Gn fun b h=>?_|rintro px rfl|refine fun(h:H)=>?_|intro hb)|refine Gs ?_|refine Gt ?_|exact Gz rfl|fail)
  refine Tr.xCall (ct_CodecS) ?_; rintro _ h ⟨k,rfl,o⟩ <;> (refine (?_ : Tr _ _ _ _) o; (try simp only[Nr,Nl,Nat.reduceAdd,Nat.reduceMul,Int.reduceToNat]); (repeat' first|refine Gu ?_|(with_reducible first|refine Gn fun b h=>?_|rintro px rfl|refine fun(h:H)=>?_|intro hb)|refine Gs ?_|refine Gt ?_|exact Gz rfl|fail))
  refine Tr.xCall (ct_cDecodeS k a c l hl) ?_; rintro _ h ⟨rfl,o⟩ <;> (refine (?_ : Tr _ _ _ _) o; (try simp only[Nr,Nl,Nat.reduceAdd,Nat.reduceMul,Int.reduceToNat]); (repeat' first|refine Gu ?_|(with_reducible first|refine Gn fun b h=>?_|rintro px rfl|refine fun(h:H)=>?_|intro hb)|refine Gs ?_|refine Gt ?_|exact Gz rfl|fail))
  cases hk : isS l with
  | false =>
   (repeat' first|refine Gu ?_|(with_reducible first|refine Gn fun b h=>?_|apply Gx|apply Gy|rintro px rfl|refine fun(h:H)=>?_|intro hb)|refine Gs ?_|refine Gt ?_|exact Gz rfl|fail)
   refine Tr.some fun o=>?_
   exact ⟨by unfold decS; rw [hb,hk]; rfl,o.sub⟩
  | true =>
   (repeat' first|refine Gu ?_|(with_reducible first|refine Gn fun b h=>?_|apply Gx|apply Gy|rintro px rfl|refine fun(h:H)=>?_|intro hb)|refine Gs ?_|refine Gt ?_|exact Gz rfl|fail)
   refine Tr.some fun o=>?_
   exact ⟨by unfold decS; rw [hb,hk]; rfl,o.sub⟩
end Go.EQ

set_option maxRecDepth 10000
namespace Go.EQ
open Go Go.NN
def splice (l : List UInt8) (a : Nat) (b : List UInt8) : List UInt8 := l.take a ++ b ++ l.drop (a + b.length)
theorem splice_len {l b : List UInt8} {a : Nat} (h : a + b.length ≤ l.length) : (splice l a b).length = l.length := by simp [splice]; omega
theorem splice_get {l b : List UInt8} {a : Nat} (h : a + b.length ≤ l.length) (i : Nat) : (splice l a b)[i]? = if a ≤ i ∧ i < a + b.length then b[i - a]? else l[i]? := by
 unfold splice
 by_cases h1 : i < a
 ·rw [if_neg (by omega),List.append_assoc,List.getElem?_append_left (by simp; omega),List.getElem?_take,if_pos h1]
 ·rw [List.append_assoc,List.getElem?_append_right (by simp; omega),List.length_take,Nat.min_eq_left (by omega)]
  by_cases h2 : i < a + b.length
  ·rw [if_pos ⟨by omega,h2⟩,List.getElem?_append_left (by omega)]
  ·rw [if_neg (by omega),List.getElem?_append_right (by omega),List.getElem?_drop]; congr 1; omega
def slice (l : List UInt8) (a n : Nat) : List UInt8 := (l.drop a).take n
theorem slice_get (l : List UInt8) (a n i : Nat) : (slice l a n)[i]? = if i < n then l[a + i]? else none := by
 unfold slice; rw [List.getElem?_take]; split
 ·rw [List.getElem?_drop]
 ·rfl
theorem slice_len {l : List UInt8} {a n : Nat} (h : a + n ≤ l.length) : (slice l a n).length = n := by simp [slice]; omega
abbrev Rg := List (Nat × Nat)
def pour : List UInt8 → Rg → List (List UInt8) → List UInt8
 | l,(lo,_) :: rg,x :: m=>pour (splice l lo x) rg m
 | l,_,_=>l
structure Fit (size : Nat) (rg : Rg) (m : List (List UInt8)) : Prop where
 len : m.length = rg.length
 each : ∀ (j lo n : Nat),rg[j]? = some (lo,n) → lo + n ≤ size ∧ ∃ x,m[j]? = some x ∧ x.length = n
def RgOk (rg : Rg) : Prop := ∀ (i j lo n lo' n' : Nat),i ≠ j → rg[i]? = some (lo,n) → rg[j]? = some (lo',n') → lo + n ≤ lo' ∨ lo' + n' ≤ lo
theorem Fit.tail {size : Nat} {p : Nat × Nat} {rg : Rg} {x : List UInt8} {m : List (List UInt8)} (f : Fit size (p :: rg) (x :: m)) : Fit size rg m := ⟨by simpa using f.len,fun j lo n h=>by simpa using f.each (j + 1) lo n (by simpa using h)⟩
theorem Fit.head {size lo n : Nat} {rg : Rg} {x : List UInt8} {m : List (List UInt8)} (f : Fit size ((lo,n) :: rg) (x :: m)) : lo + n ≤ size ∧ x.length = n := by
 obtain ⟨h,y,hy,hl⟩ := f.each 0 lo n rfl
 simp at hy; subst hy; exact ⟨h,hl⟩
theorem RgOk.tail {p : Nat × Nat} {rg : Rg} (k : RgOk (p :: rg)) : RgOk rg := fun i j lo n lo' n' hij hi hj=>k (i + 1) (j + 1) lo n lo' n' (by omega) (by simpa using hi) (by simpa using hj)
theorem pour_len : ∀ {rg : Rg} {m : List (List UInt8)} {l : List UInt8},Fit l.length rg m → (pour l rg m).length = l.length
 | [],m,l,f=>by simp [pour]
 | (lo,n) :: rg,[],l,f=>by simp [pour]
 | (lo,n) :: rg,x :: m,l,f=>by
  have h := f.head
  have e := splice_len (l := l) (b := x) (a := lo) (by omega)
  unfold pour
  rw [pour_len (by rw [e]; exact f.tail),e]
theorem pour_out : ∀ {rg : Rg} {m : List (List UInt8)} {l : List UInt8},Fit l.length rg m → ∀ i,(∀ (j lo n : Nat),rg[j]? = some (lo,n) → i < lo ∨ lo + n ≤ i) → (pour l rg m)[i]? = l[i]?
 | [],m,l,f,i,h=>by simp [pour]
 | (lo,n) :: rg,[],l,f,i,h=>by simp [pour]
 | (lo,n) :: rg,x :: m,l,f,i,h=>by
  have h0 := f.head
  have e := splice_len (l := l) (b := x) (a := lo) (by omega)
  unfold pour
  rw [pour_out (by rw [e]; exact f.tail) i (fun j lo' n' hj=>h (j + 1) lo' n' (by simpa using hj)),splice_get (by omega),if_neg]
  have := h 0 lo n rfl; omega
theorem pour_in : ∀ {rg : Rg} {m : List (List UInt8)} {l : List UInt8},Fit l.length rg m → RgOk rg → ∀ (j lo n : Nat) (x : List UInt8),rg[j]? = some (lo,n) → m[j]? = some x → ∀ i,i < n → (pour l rg m)[lo + i]? = x[i]?
 | [],m,l,f,k,j,lo,n,x,h,hx,i,hi=>by simp at h
 | (lo0,n0) :: rg,[],l,f,k,j,lo,n,x,h,hx,i,hi=>by simp at hx
 | (lo0,n0) :: rg,x0 :: m,l,f,k,j,lo,n,x,h,hx,i,hi=>by
  have h0 := f.head
  have e := splice_len (l := l) (b := x0) (a := lo0) (by omega)
  unfold pour
  cases j with
  | zero =>
   simp at h hx
   obtain ⟨rfl,rfl⟩ := h; subst hx
   rw [pour_out (by rw [e]; exact f.tail) (lo0 + i) (fun j lo' n' hj=>by
    have := k 0 (j + 1) lo0 n0 lo' n' (by omega) rfl (by simpa using hj)
    omega),splice_get (by omega),if_pos (by omega)]
   congr 1; omega
  | succ j=>exact pour_in (by rw [e]; exact f.tail) k.tail j lo n x (by simpa using h) (by simpa using hx) i hi
theorem pour_slice {rg : Rg} {m : List (List UInt8)} {l : List UInt8} (f : Fit l.length rg m) (k : RgOk rg) {j lo n : Nat} {x : List UInt8} (h : rg[j]? = some (lo,n)) (hx : m[j]? = some x) {a c : Nat} (hc : a + c ≤ n) : slice (pour l rg m) (lo + a) c = slice x a c := by
 refine List.ext_getElem? fun i=>?_
 rw [slice_get,slice_get]
 split
 ·rw [Nat.add_assoc,pour_in f k j lo n x h hx (a + i) (by omega)]
 ·rfl
theorem Fit.set {size : Nat} {rg : Rg} {m : List (List UInt8)} (f : Fit size rg m) {j lo n : Nat} (h : rg[j]? = some (lo,n)) {y : List UInt8} (hy : y.length = n) : Fit size rg (m.set j y) := ⟨by simpa using f.len,fun i lo' n' hi=>by
 obtain ⟨h1,z,hz,hl⟩ := f.each i lo' n' hi
 refine ⟨h1,?_⟩
 by_cases hij : j = i
 ·subst hij
  rw [h] at hi; cases hi
  exact ⟨y,by simp [(List.getElem?_eq_some_iff.1 hz).1],hy⟩
 ·exact ⟨z,by rw [List.getElem?_set_ne hij]; exact hz,hl⟩⟩
theorem pour_splice {rg : Rg} {m : List (List UInt8)} {l : List UInt8} (f : Fit l.length rg m) (k : RgOk rg) {j lo n : Nat} {x : List UInt8} (h : rg[j]? = some (lo,n)) (hx : m[j]? = some x) {a : Nat} {b : List UInt8} (hc : a + b.length ≤ n) : splice (pour l rg m) (lo + a) b = pour l rg (m.set j (splice x a b)) := by
 obtain ⟨h1,y,hy,hl⟩ := f.each j lo n h
 rw [hx] at hy; cases hy
 have e := splice_len (l := x) (b := b) (a := a) (by omega)
 have f2 := f.set h (y := splice x a b) (by omega)
 have lp := pour_len f
 refine List.ext_getElem? fun i=>?_
 rw [splice_get (by omega)]
 by_cases hi : lo ≤ i ∧ i < lo + n
 ·obtain ⟨i',rfl⟩ : ∃ i',i = lo + i' := ⟨i - lo,by omega⟩
  rw [pour_in f2 k j lo n (splice x a b) h (by simp [(List.getElem?_eq_some_iff.1 hx).1]) i' (by omega),splice_get (by omega),pour_in f k j lo n x h hx i' (by omega)]
  by_cases h2 : a ≤ i' ∧ i' < a + b.length
  ·rw [if_pos (by omega),if_pos h2]; congr 1; omega
  ·rw [if_neg (by omega),if_neg h2]
 ·rw [if_neg (by omega)]
  by_cases ho : ∃ (j' lo' n' : Nat),rg[j']? = some (lo',n') ∧ lo' ≤ i ∧ i < lo' + n'
  ·obtain ⟨j',lo',n',hj',h3,h4⟩ := ho
   have hne : j ≠ j' := fun e=>by subst e; rw [h] at hj'; cases hj'; omega
   obtain ⟨_,z,hz,_⟩ := f.each j' lo' n' hj'
   obtain ⟨i',rfl⟩ : ∃ i',i = lo' + i' := ⟨i - lo',by omega⟩
   rw [pour_in f k j' lo' n' z hj' hz i' (by omega),pour_in f2 k j' lo' n' z hj' (by rw [List.getElem?_set_ne hne]; exact hz) i' (by omega)]
  ·have hall : ∀ (j' lo' n' : Nat),rg[j']? = some (lo',n') → i < lo' ∨ lo' + n' ≤ i := fun j' lo' n' hj'=>by
    by_cases hh : lo' ≤ i ∧ i < lo' + n'
    ·exact absurd ⟨j',lo',n',hj',hh.1,hh.2⟩ ho
    ·omega
   rw [pour_out f i hall,pour_out f2 i hall]
end Go.EQ

set_option maxRecDepth 10000
namespace Go.EQ
open Go Go.NN
structure RecS where
 kind : Int
 index : Int
deriving DecidableEq
abbrev recL (r : RecS) : List Value := [int r.kind,int r.index]
structure Fr where
 S : KS
 N : Nat
 env : Int
 caps : List Int
 rg : Rg
structure FrOk (F : Fr) : Prop where
 ok : KOk F.N F.S
 hN : F.N + 1 < 1000000000
 ne : 0 < F.caps.length
 small : F.caps.length ≤ 40
 len : F.rg.length = F.caps.length
 env : ¬ (F.env < 0 ∨ F.env ≥ (F.S.envs.length : Int))
 pl : ∀ (j : Nat) (cap : Int) (lo n : Nat),F.caps[j]? = some cap → F.rg[j]? = some (lo,n) → ∀ (a m : Nat) (right : Int),right = 1 ∨ right = 2 → a + m ≤ n → placeV F.S.tabs F.S.regs F.env cap right a m = (((lo + a : Nat) : Int),0)
 dj : RgOk F.rg
 own : ∃ lo,F.rg[0]? = some (lo,492)
 brs : ∀ (j lo n : Nat),0 < j → F.rg[j]? = some (lo,n) → n = 40
def Fr.at (F : Fr) (m : List (List UInt8)) : KS := putMem F.S (pour F.S.mem F.rg m)
structure CX where
 m : List (List UInt8)
 bad : List RecS
def badE : Nat → List RecS → List MapEntry
 | _,[]=>[]
 | i,r :: l=>{ key := .agg ⟨recL r⟩,val := int 1,born := i } :: badE (i + 1) l
abbrev comF (c k : Nat) (env : Int) (caps : List Int) (bad : List RecS) (x : Option Addr × Nat × Nat) : List HP :=
 [pt c (.cells Y_commons_Commons false [P0 k,int env,.slice x.1 caps.length x.2.1,.map (some x.2.2)]),slC false Y_int 1 x.1 caps.length x.2.1 (caps.map int),pt x.2.2 (.map (badE 0 bad) bad.length)]
def comC (c k : Nat) (env : Int) (caps : List Int) (bad : List RecS) : HP := hex fun x=>sl (comF c k env caps bad x)
instance {c k : Nat} {env : Int} {caps : List Int} {bad : List RecS} : Chk (comC c k env caps bad) (comF c k env caps bad) := ⟨rfl⟩
abbrev cmF (c k : Nat) (F : Fr) (x : CX) : List HP := [kernC k (F.at x.m),comC c k F.env F.caps x.bad,pu (Fit F.S.mem.length F.rg x.m)]
def cmC (c k : Nat) (F : Fr) (x : CX) : HP := hex fun _ : Unit=>sl (cmF c k F x)
instance {c k : Nat} {F : Fr} {x : CX} : Chk (cmC c k F x) (fun _ : Unit=>cmF c k F x) := ⟨rfl⟩
def mostX (nc : Nat) (kind : Int) : Int := if kind = 1 then 8 else if kind = 2 then 12 else if kind = 3 then 3 + nc else 1
def placeX (nc : Nat) (r : RecS) : Option (Nat × Nat × Nat) :=
 if r.index < 0 ∨ r.index ≥ mostX nc r.kind then none
 else if r.kind = 1 then some (0,24 * r.index.toNat,24)
 else if r.kind = 2 then some (0,192 + 8 * r.index.toNat,8)
 else if r.kind = 3 then if r.index < 4 then some (0,288 + 40 * r.index.toNat,40) else some (r.index.toNat - 3,0,40)
 else if r.kind = 4 then some (0,448,40)
 else some (0,488,4)
def plcL (caps : List Int) : Option (Nat × Nat × Nat) → List Value
 | some (j,a,n)=>[int (caps.getD j 0),int a,int n]
 | none=>[int 0,int 0,int 0]
theorem ct_cmost (c k : Nat) (env : Int) (caps : List Int) (bad : List RecS) (kind : Int) (hs : caps.length ≤ 40) : CtP CALL F_commons_Commons_most [P0 c,int kind] [comC c k env caps bad] (int (mostX caps.length kind)) := by
 have e : IntKind.wrap .i64 (IntKind.wrap .i64 (4 + (caps.length : Int)) - 1) = 3 + (caps.length : Int) := by rw [wrap_eq,wrap_eq]; omega
 refine CtP.of k_commons_Commons_most rfl fun h r=>Tr.eq (e_commons_Commons_most ..) ?_; (try simp only[Nr,Nl,Nat.reduceAdd,Nat.reduceMul,Int.reduceToNat])
 refine tr_open (comC c k env caps bad) fun ⟨a,n,mb⟩=>?_; (try simp only[Nr,Nl,Nat.reduceAdd,Nat.reduceMul,Int.reduceToNat])
 unfold mostX
 by_cases h1 : kind = 1
 ·refine Tr.condT (by simpa using h1) ?_
  rw [if_pos h1]; (repeat' first|refine Gu ?_|(with_reducible first|refine Gn fun b h=>?_|apply Gx|apply Gy|rintro px rfl|refine fun(h:H)=>?_|intro hb)|refine Gs ?_|refine Gt ?_|exact Gz rfl|fail)
 refine Tr.condF (by simpa using h1) ?_
 rw [if_neg h1]
 by_cases h2 : kind = 2
 ·refine Tr.condT (by simpa using h2) ?_
  rw [if_pos h2]; (repeat' first|refine Gu ?_|(with_reducible first|refine Gn fun b h=>?_|apply Gx|apply Gy|rintro px rfl|refine fun(h:H)=>?_|intro hb)|refine Gs ?_|refine Gt ?_|exact Gz rfl|fail)
 refine Tr.condF (by simpa using h2) ?_
 rw [if_neg h2]
 by_cases h3 : kind = 3
 ·refine Tr.condT (by simpa using h3) ?_
  rw [if_pos h3]; (repeat' first|refine Gu ?_|(with_reducible first|refine Gn fun b h=>?_|apply Gx|apply Gy|rintro px rfl|refine fun(h:H)=>?_|intro hb)|refine Gs ?_|refine Gt ?_|exact Gz rfl|fail)
  refine Tr.some fun o=>?_
  rw [e]; exact ⟨by first | rfl | trivial,by first | rfl | trivial⟩
 refine Tr.condF (by simpa using h3) ?_
 rw [if_neg h3]; (repeat' first|refine Gu ?_|(with_reducible first|refine Gn fun b h=>?_|apply Gx|apply Gy|rintro px rfl|refine fun(h:H)=>?_|intro hb)|refine Gs ?_|refine Gt ?_|exact Gz rfl|fail)
theorem ct_cplace (c k : Nat) (env : Int) (caps : List Int) (bad : List RecS) (rc : RecS) (hs : caps.length ≤ 40) (hn : 0 < caps.length) : Ct CALL F_commons_Commons_place [P0 c,.agg ⟨recL rc⟩] [comC c k env caps bad] fun v own =>
  v = .tuple ⟨[.agg ⟨plcL caps (placeX caps.length rc)⟩,.bool (placeX caps.length rc).isSome]⟩ ∧ own [comC c k env caps bad] := by
 have hg : ∀ j,j < caps.length → (caps.map int)[j]? = some (int (caps.getD j 0)) := fun j hj=>by rw [List.getElem?_map,getD_get 0 hj]; rfl
 refine Ct.of k_commons_Commons_place rfl fun h r=>Tr.eq (e_commons_Commons_place ..) ?_; (try simp only[Nr,Nl,Nat.reduceAdd,Nat.reduceMul,Int.reduceToNat])
 (repeat' first|refine Gu ?_|(with_reducible first|refine Gn fun b h=>?_|rintro px rfl|refine fun(h:H)=>?_|intro hb)|refine Gs ?_|refine Gt ?_|exact Gz rfl|fail)
 refine Tr.orG (c := decide (rc.index ≥ mostX caps.length rc.kind)) (fun hb=>?_) ?_
 ·(repeat' first|refine Gu ?_|(with_reducible first|refine Gn fun b h=>?_|apply Gx|apply Gy|rintro px rfl|refine fun(h:H)=>?_|intro hb)|refine Gs ?_|refine Gt ?_|exact Gz rfl|fail)
  refine Tr.pcall (ct_cmost c k env caps bad rc.kind hs) ?_; (try simp only[Nr,Nl,Nat.reduceAdd,Nat.reduceMul,Int.reduceToNat]); (repeat' first|refine Gu ?_|(with_reducible first|refine Gn fun b h=>?_|apply Gx|apply Gy|rintro px rfl|refine fun(h:H)=>?_|intro hb)|refine Gs ?_|refine Gt ?_|exact Gz rfl|fail)
 by_cases hi : rc.index < 0 ∨ rc.index ≥ mostX caps.length rc.kind
 ·refine Tr.condT (by simp only [Bool.or_eq_true,decide_eq_true_eq]; exact hi) ?_
  have e : placeX caps.length rc = none := by unfold placeX; rw [if_pos hi]
  rw [e]
  (repeat' first|refine Gu ?_|(with_reducible first|refine Gn fun b h=>?_|apply Gx|apply Gy|rintro px rfl|refine fun(h:H)=>?_|intro hb)|refine Gs ?_|refine Gt ?_|exact Gz rfl|fail)
  refine Tr.some fun o=>?_
  exact ⟨rfl,o.sub⟩
 refine Tr.condF (by simp only [Bool.or_eq_false_iff,decide_eq_false_iff_not]; omega) ?_
 refine tr_open (comC c k env caps bad) fun ⟨a,n,mb⟩=>?_; (try simp only[Nr,Nl,Nat.reduceAdd,Nat.reduceMul,Int.reduceToNat])
 (repeat' first|refine Gu ?_|(with_reducible first|refine Gn fun b h=>?_|apply Gx|apply Gy|rintro px rfl|refine fun(h:H)=>?_|intro hb)|refine Gs ?_|refine Gt ?_|exact Gz rfl|fail)
 refine Tr.xIntS (v := caps.getD 0 0) (hg 0 hn) ?_
 (repeat' first|refine Gu ?_|(with_reducible first|refine Gn fun b h=>?_|apply Gx|apply Gy|rintro px rfl|refine fun(h:H)=>?_|intro hb)|refine Gs ?_|refine Gt ?_|exact Gz rfl|fail)
 by_cases h1 : rc.kind = 1
 ·refine Tr.condT (by simpa using h1) ?_
  have e : placeX caps.length rc = some (0,24 * rc.index.toNat,24) := by unfold placeX; rw [if_neg hi,if_pos h1]
  have hm : mostX caps.length rc.kind = 8 := by unfold mostX; rw [if_pos h1]
  have e1 : IntKind.wrap .i64 (24 * rc.index) = ((24 * rc.index.toNat : Nat) : Int) := by rw [wrap_eq]; omega
  rw [e,e1]
  (repeat' first|refine Gu ?_|(with_reducible first|refine Gn fun b h=>?_|apply Gx|apply Gy|rintro px rfl|refine fun(h:H)=>?_|intro hb)|refine Gs ?_|refine Gt ?_|exact Gz rfl|fail)
  refine tr_fold (comC c k env caps bad) ⟨some px,n,mb⟩ ?_; (try simp only[Nr,Nl,Nat.reduceAdd,Nat.reduceMul,Int.reduceToNat])
  refine Tr.some fun o=>?_
  exact ⟨rfl,o.sub⟩
 refine Tr.condF (by simpa using h1) ?_
 by_cases h2 : rc.kind = 2
 ·(repeat' first|refine Gu ?_|(with_reducible first|refine Gn fun b h=>?_|apply Gx|apply Gy|rintro px rfl|refine fun(h:H)=>?_|intro hb)|refine Gs ?_|refine Gt ?_|exact Gz rfl|fail)
  refine Tr.condT (by simpa using h2) ?_
  have e : placeX caps.length rc = some (0,192 + 8 * rc.index.toNat,8) := by unfold placeX; rw [if_neg hi,if_neg h1,if_pos h2]
  have hm : mostX caps.length rc.kind = 12 := by unfold mostX; rw [if_neg h1,if_pos h2]
  have e1 : IntKind.wrap .i64 (192 + IntKind.wrap .i64 (8 * rc.index)) = ((192 + 8 * rc.index.toNat : Nat) : Int) := by rw [wrap_eq,wrap_eq]; omega
  rw [e,e1]
  (repeat' first|refine Gu ?_|(with_reducible first|refine Gn fun b h=>?_|apply Gx|apply Gy|rintro px rfl|refine fun(h:H)=>?_|intro hb)|refine Gs ?_|refine Gt ?_|exact Gz rfl|fail)
  refine tr_fold (comC c k env caps bad) ⟨some px,n,mb⟩ ?_; (try simp only[Nr,Nl,Nat.reduceAdd,Nat.reduceMul,Int.reduceToNat])
  refine Tr.some fun o=>?_
  exact ⟨rfl,o.sub⟩
 (repeat' first|refine Gu ?_|(with_reducible first|refine Gn fun b h=>?_|apply Gx|apply Gy|rintro px rfl|refine fun(h:H)=>?_|intro hb)|refine Gs ?_|refine Gt ?_|exact Gz rfl|fail)
 refine Tr.condF (by simpa using h2) ?_
 (repeat' first|refine Gu ?_|(with_reducible first|refine Gn fun b h=>?_|rintro px rfl|refine fun(h:H)=>?_|intro hb)|refine Gs ?_|refine Gt ?_|exact Gz rfl|fail)
 refine Tr.andG (c := decide (rc.index < 4)) (fun hb=>?_) ?_
 ·(repeat' first|refine Gu ?_|(with_reducible first|refine Gn fun b h=>?_|apply Gx|apply Gy|rintro px rfl|refine fun(h:H)=>?_|intro hb)|refine Gs ?_|refine Gt ?_|exact Gz rfl|fail)
 by_cases h3 : rc.kind = 3
 ·have hm : mostX caps.length rc.kind = 3 + caps.length := by unfold mostX; rw [if_neg h1,if_neg h2,if_pos h3]
  by_cases h4 : rc.index < 4
  ·refine Tr.condT (by simp [h3,h4]) ?_
   have e : placeX caps.length rc = some (0,288 + 40 * rc.index.toNat,40) := by unfold placeX; rw [if_neg hi,if_neg h1,if_neg h2,if_pos h3,if_pos h4]
   have e1 : IntKind.wrap .i64 (288 + IntKind.wrap .i64 (40 * rc.index)) = ((288 + 40 * rc.index.toNat : Nat) : Int) := by rw [wrap_eq,wrap_eq]; omega
   rw [e,e1]
   (repeat' first|refine Gu ?_|(with_reducible first|refine Gn fun b h=>?_|apply Gx|apply Gy|rintro px rfl|refine fun(h:H)=>?_|intro hb)|refine Gs ?_|refine Gt ?_|exact Gz rfl|fail)
   refine tr_fold (comC c k env caps bad) ⟨some px,n,mb⟩ ?_; (try simp only[Nr,Nl,Nat.reduceAdd,Nat.reduceMul,Int.reduceToNat])
   refine Tr.some fun o=>?_
   exact ⟨rfl,o.sub⟩
  ·refine Tr.condF (by simp [h4]) ?_
   have e : placeX caps.length rc = some (rc.index.toNat - 3,0,40) := by unfold placeX; rw [if_neg hi,if_neg h1,if_neg h2,if_pos h3,if_neg h4]
   have e1 : IntKind.wrap .i64 (IntKind.wrap .i64 (rc.index - 4) + 1) = ((rc.index.toNat - 3 : Nat) : Int) := by rw [wrap_eq,wrap_eq]; omega
   rw [e,e1]
   (repeat' first|refine Gu ?_|(with_reducible first|refine Gn fun b h=>?_|apply Gx|apply Gy|rintro px rfl|refine fun(h:H)=>?_|intro hb)|refine Gs ?_|refine Gt ?_|exact Gz rfl|fail)
   refine Tr.condT (by simpa using h3) ?_
   (repeat' first|refine Gu ?_|(with_reducible first|refine Gn fun b h=>?_|apply Gx|apply Gy|rintro px rfl|refine fun(h:H)=>?_|intro hb)|refine Gs ?_|refine Gt ?_|exact Gz rfl|fail)
   rw [Int.toNat_natCast]
   (try simp only[Nr,Nl,Nat.reduceAdd,Nat.reduceMul,Int.reduceToNat])
   refine Tr.xIntS (v := caps.getD (rc.index.toNat - 3) 0) (hg _ (by omega)) ?_
   (repeat' first|refine Gu ?_|(with_reducible first|refine Gn fun b h=>?_|apply Gx|apply Gy|rintro px rfl|refine fun(h:H)=>?_|intro hb)|refine Gs ?_|refine Gt ?_|exact Gz rfl|fail)
   refine tr_fold (comC c k env caps bad) ⟨some px,n,mb⟩ ?_; (try simp only[Nr,Nl,Nat.reduceAdd,Nat.reduceMul,Int.reduceToNat])
   refine Tr.some fun o=>?_
   exact ⟨rfl,o.sub⟩
 refine Tr.condF (by simp [h3]) ?_
 (repeat' first|refine Gu ?_|(with_reducible first|refine Gn fun b h=>?_|apply Gx|apply Gy|rintro px rfl|refine fun(h:H)=>?_|intro hb)|refine Gs ?_|refine Gt ?_|exact Gz rfl|fail)
 refine Tr.condF (by simpa using h3) ?_
 (repeat' first|refine Gu ?_|(with_reducible first|refine Gn fun b h=>?_|apply Gx|apply Gy|rintro px rfl|refine fun(h:H)=>?_|intro hb)|refine Gs ?_|refine Gt ?_|exact Gz rfl|fail)
 by_cases h4 : rc.kind = 4
 ·refine Tr.condT (by simpa using h4) ?_
  have e : placeX caps.length rc = some (0,448,40) := by unfold placeX; rw [if_neg hi,if_neg h1,if_neg h2,if_neg h3,if_pos h4]
  rw [e]
  (repeat' first|refine Gu ?_|(with_reducible first|refine Gn fun b h=>?_|apply Gx|apply Gy|rintro px rfl|refine fun(h:H)=>?_|intro hb)|refine Gs ?_|refine Gt ?_|exact Gz rfl|fail)
  refine tr_fold (comC c k env caps bad) ⟨some px,n,mb⟩ ?_; (try simp only[Nr,Nl,Nat.reduceAdd,Nat.reduceMul,Int.reduceToNat])
  refine Tr.some fun o=>?_
  exact ⟨rfl,o.sub⟩
 refine Tr.condF (by simpa using h4) ?_
 have e : placeX caps.length rc = some (0,488,4) := by unfold placeX; rw [if_neg hi,if_neg h1,if_neg h2,if_neg h3,if_neg h4]
 rw [e]
 (repeat' first|refine Gu ?_|(with_reducible first|refine Gn fun b h=>?_|apply Gx|apply Gy|rintro px rfl|refine fun(h:H)=>?_|intro hb)|refine Gs ?_|refine Gt ?_|exact Gz rfl|fail)
 refine tr_fold (comC c k env caps bad) ⟨some px,n,mb⟩ ?_; (try simp only[Nr,Nl,Nat.reduceAdd,Nat.reduceMul,Int.reduceToNat])
 refine Tr.some fun o=>?_
 exact ⟨rfl,o.sub⟩
end Go.EQ

set_option maxRecDepth 10000
namespace Go.EQ
open Go Go.NN
theorem rec_leafs : leafs PR 8 Y_api_Rec = some [TypeDesc.int .i64,TypeDesc.int .i64] := by kernel_rfl
theorem rec_agg : aggT PR Y_api_Rec = some true := by kernel_rfl
instance {a b : Int} : KeyC PR Y_api_Rec (.agg ⟨[.int .i64 a,.int .i64 b]⟩) := ⟨fun x=>by
 unfold NN.keyN; rw [rec_leafs,rec_agg]; rfl⟩
theorem findN_bad (r : RecS) : ∀ (l : List RecS) (i j : Nat),findN (.agg ⟨recL r⟩) (badE j l) i = some (if r ∈ l then some (i + l.idxOf r) else none)
 | [],i,j=>by simp [badE,findN]
 | q :: l,i,j=>by
  have ih := findN_bad r l (i + 1) (j + 1)
  obtain ⟨qk,qi⟩ := q
  obtain ⟨rk,ri⟩ := r
  simp only [badE,findN,eqKey,recL,eqs,eq1,decide_true,List.mem_cons] at ih ⊢
  by_cases h : rk = qk ∧ ri = qi
  ·obtain ⟨rfl,rfl⟩ := h
   simp
  ·have e : (rk == qk && (ri == qi && true)) = false := by
    rw [Bool.and_eq_false_iff]
    by_cases h1 : rk = qk
    ·right; simp; intro h2; exact h ⟨h1,h2⟩
    ·left; simpa using h1
   have hne : ¬ (({ kind := rk,index := ri } : RecS) = { kind := qk,index := qi }) := fun e=>by
    rw [RecS.mk.injEq] at e; exact h e
   rw [e]
   simp only [hne,false_or]
   rw [ih,List.idxOf_cons]
   have : (({ kind := qk,index := qi } : RecS) == { kind := rk,index := ri }) = false := by
    rw [beq_eq_false_iff_ne]; exact fun e=>hne e.symm
   rw [this,cond_false]
   split <;> simp; omega
theorem badE_len : ∀ (l : List RecS) (j : Nat),(badE j l).length = l.length
 | [],_=>rfl
 | _ :: l,j=>by simp [badE,badE_len l]
theorem badE_get : ∀ (l : List RecS) (j i : Nat) (r : RecS),l[i]? = some r → (badE j l)[i]? = some { key := .agg ⟨recL r⟩,val := int 1,born := j + i }
 | [],_,i,r,h=>by simp at h
 | q :: l,j,0,r,h=>by simp at h; subst h; rfl
 | q :: l,j,i + 1,r,h=>by
  have := badE_get l (j + 1) i r (by simpa using h)
  rw [badE,List.getElem?_cons_succ,this]; congr 2; omega
theorem lookM_bad (r : RecS) (l : List RecS) : lookM (int 0) (.agg ⟨recL r⟩) (badE 0 l) = some (if r ∈ l then (int 1,true) else (int 0,false)) := by
 unfold lookM
 rw [findN_bad]
 by_cases h : r ∈ l
 ·rw [if_pos h,if_pos h]
  have hi := List.idxOf_lt_length_of_mem h
  have hg : l[l.idxOf r]? = some r := by rw [List.getElem?_eq_getElem hi,List.getElem_idxOf]
  simp only [Nat.zero_add]
  rw [badE_get l 0 _ r hg]
 ·rw [if_neg h,if_neg h]
theorem badE_app : ∀ (l m : List RecS) (j : Nat),badE j (l ++ m) = badE j l ++ badE (j + l.length) m
 | [],m,j=>by simp [badE]
 | q :: l,m,j=>by simp only [List.cons_append,badE,badE_app l m (j + 1),List.length_cons]; congr 2; congr 1; omega
theorem entM_bad {r : RecS} {l : List RecS} (h : ¬ r ∈ l) : entM (int 0) (.agg ⟨recL r⟩) (badE 0 l) l.length = some (int 0,l.length,.map (badE 0 l ++ [{ key := .agg ⟨recL r⟩,val := int 0,born := l.length }]) (l.length + 1)) := by
 unfold entM; rw [findN_bad,if_neg h]
theorem findN_app (r : RecS) (e : MapEntry) : ∀ (l : List RecS) (i j : Nat),¬ r ∈ l → findN (.agg ⟨recL r⟩) (badE j l ++ [e]) i = findN (.agg ⟨recL r⟩) [e] (i + l.length)
 | [],i,j,h=>by simp [badE]
 | q :: l,i,j,h=>by
  have ih := findN_app r e l (i + 1) (j + 1) (fun hm=>h (List.mem_cons_of_mem _ hm))
  have hq : eqKey (.agg ⟨recL r⟩) (.agg ⟨recL q⟩) = some false := by
   obtain ⟨qk,qi⟩ := q
   obtain ⟨rk,ri⟩ := r
   simp only [eqKey,recL,eqs,eq1,decide_true]
   congr 1
   rw [Bool.and_eq_false_iff]
   by_cases h1 : rk = qk
   ·right; simp; intro h2; exact h (by subst h1 h2; exact List.mem_cons_self ..)
   ·left; simpa using h1
  show (match eqKey (.agg ⟨recL r⟩) (.agg ⟨recL q⟩) with
   | some true=>some (some i)
   | some false=>findN (.agg ⟨recL r⟩) (badE (j + 1) l ++ [e]) (i + 1)
   | none=>none) = _
  rw [hq]
  simp only
  rw [ih]; congr 1; simp; omega
theorem lookM_new {r : RecS} {l : List RecS} (h : ¬ r ∈ l) : lookM (int 0) (.agg ⟨recL r⟩) (badE 0 l ++ [{ key := .agg ⟨recL r⟩,val := int 0,born := l.length }]) = some (int 0,true) := by
 unfold lookM
 rw [findN_app r _ l 0 0 h]
 obtain ⟨rk,ri⟩ := r
 simp only [findN,eqKey,recL,eqs,eq1,decide_true,BEq.rfl,Bool.and_self,Nat.zero_add]
 rw [List.getElem?_append_right (by rw [badE_len]; exact Nat.le_refl _),badE_len]; simp
theorem bornN_bad : ∀ (l : List RecS) (j : Nat) (n : Nat) (e : MapEntry) (i : Nat),e.born = n → j + l.length ≤ n → bornN (n : Int) (badE j l ++ [e]) i = some (i + l.length)
 | [],j,n,e,i,h,hl=>by simp [badE,bornN,h]
 | q :: l,j,n,e,i,h,hl=>by
  have ih := bornN_bad l (j + 1) n e (i + 1) h (by simp at hl; omega)
  simp only [badE,List.cons_append,bornN]
  have : (((j : Nat) : Int) == (n : Int)) = false := by simp at hl ⊢; omega
  rw [this,cond_false,ih]; congr 1; simp; omega
theorem modN_last (f : MapEntry → MapEntry) (e : MapEntry) : ∀ (l : List MapEntry),modN f l.length (l ++ [e]) = l ++ [f e]
 | []=>rfl
 | q :: l=>by simp [modN,modN_last f e l]
theorem modN_bad (r : RecS) (l : List RecS) : modN (fun e=>{ e with val := int (IntKind.wrap .i64 (0 + 1)) }) l.length (badE 0 l ++ [{ key := .agg ⟨recL r⟩,val := int 0,born := l.length }]) = badE 0 (l ++ [r]) := by
 rw [show l.length = (badE 0 l).length from (badE_len l 0).symm,modN_last,badE_app]
 simp [badE,badE_len]; decide
end Go.EQ

set_option maxRecDepth 10000
namespace Go.EQ
open Go Go.NN
theorem Fr.mem_at (F : Fr) (m : List (List UInt8)) : (F.at m).mem = pour F.S.mem F.rg m := rfl
theorem Fr.at_ok {F : Fr} (k : FrOk F) {m : List (List UInt8)} (f : Fit F.S.mem.length F.rg m) : KOk F.N (F.at m) := by
 have := k.ok
 exact ⟨this.envs,this.tabs,this.space,this.quota,by rw [Fr.mem_at,pour_len f]; exact this.mem,this.regs,this.may,this.mayl,this.nsect,this.sects,this.now⟩
theorem place_ok {F : Fr} (k : FrOk F) {r : RecS} {j a n : Nat} (h : placeX F.caps.length r = some (j,a,n)) : ∃ lo z,F.rg[j]? = some (lo,z) ∧ a + n ≤ z ∧ j < F.caps.length := by
 obtain ⟨lo0,h0⟩ := k.own
 have hl := k.len; have hn := k.ne
 unfold placeX at h
 split at h; · cases h
 rename_i hi
 split at h
 ·rename_i h1
  have hm : mostX F.caps.length r.kind = 8 := by unfold mostX; rw [if_pos h1]
  cases h; exact ⟨lo0,492,h0,by omega,hn⟩
 rename_i h1
 split at h
 ·rename_i h2
  have hm : mostX F.caps.length r.kind = 12 := by unfold mostX; rw [if_neg h1,if_pos h2]
  cases h; exact ⟨lo0,492,h0,by omega,hn⟩
 rename_i h2
 split at h
 ·rename_i h3
  have hm : mostX F.caps.length r.kind = 3 + F.caps.length := by unfold mostX; rw [if_neg h1,if_neg h2,if_pos h3]
  split at h
  ·cases h; exact ⟨lo0,492,h0,by omega,hn⟩
  ·cases h
   have hlt : r.index.toNat - 3 < F.rg.length := by omega
   have hg := List.getElem?_eq_getElem hlt
   generalize hx : F.rg[r.index.toNat - 3] = x at hg
   obtain ⟨lo,z⟩ := x
   have := k.brs _ lo z (by omega) hg
   exact ⟨lo,z,hg,by omega,by omega⟩
 split at h <;> (cases h; exact ⟨lo0,492,h0,by omega,hn⟩)
def sizeR (kind : Int) : Nat := if kind = 1 then 24 else if kind = 2 then 8 else if kind = 3 then 40 else if kind = 4 then 40 else 4
theorem place_size {nc : Nat} {r : RecS} {j a n : Nat} (h : placeX nc r = some (j,a,n)) : n = sizeR r.kind := by
 unfold placeX at h; unfold sizeR
 split at h; · cases h
 split at h
 ·rename_i h1; cases h; rw [if_pos h1]
 rename_i h1
 rw [if_neg h1]
 split at h
 ·rename_i h2; cases h; rw [if_pos h2]
 rename_i h2
 rw [if_neg h2]
 split at h
 ·rename_i h3; rw [if_pos h3]; split at h <;> (cases h; rfl)
 rename_i h3
 rw [if_neg h3]
 split at h
 ·rename_i h4; cases h; rw [if_pos h4]
 ·rename_i h4; cases h; rw [if_neg h4]
def rdX (X : CX) (r : RecS) : Option (List UInt8) :=
 match placeX X.m.length r with
 | some (j,a,n)=>if r ∈ X.bad then none else some (slice (X.m.getD j []) a n)
 | none=>none
def wrX (X : CX) (r : RecS) (b : List UInt8) (ok : Bool) : Bool × CX :=
 match placeX X.m.length r with
 | some (j,a,n)=>if ok = true ∧ ¬ r ∈ X.bad then (true,{ X with m := X.m.set j (splice (X.m.getD j []) a b) }) else (false,X)
 | none=>(false,X)
theorem Fit.mlen {F : Fr} (k : FrOk F) {m : List (List UInt8)} (f : Fit F.S.mem.length F.rg m) : m.length = F.caps.length := by rw [f.len,k.len]
theorem piece_ok {F : Fr} (k : FrOk F) {m : List (List UInt8)} (f : Fit F.S.mem.length F.rg m) {r : RecS} {j a n : Nat} (h : placeX F.caps.length r = some (j,a,n)) :
  ∃ lo z cap,F.caps[j]? = some cap ∧ F.rg[j]? = some (lo,z) ∧ a + n ≤ z ∧ m[j]? = some (m.getD j []) ∧ (m.getD j []).length = z ∧ lo + z ≤ F.S.mem.length ∧ cap = F.caps.getD j 0 := by
 obtain ⟨lo,z,hr,ha,hj⟩ := place_ok k h
 obtain ⟨h1,x,hx,hl⟩ := f.each j lo z hr
 have e : m.getD j [] = x := by rw [List.getD_eq_getElem?_getD,hx]; rfl
 exact ⟨lo,z,F.caps.getD j 0,getD_get 0 hj,hr,ha,by rw [e]; exact hx,by rw [e]; exact hl,h1,rfl⟩
theorem rdX_len {F : Fr} (k : FrOk F) {X : CX} (f : Fit F.S.mem.length F.rg X.m) {r : RecS} {l : List UInt8} (h : rdX X r = some l) : l.length = sizeR r.kind := by
 unfold rdX at h
 rw [f.mlen k] at h
 cases hp : placeX F.caps.length r with
 | none=>rw [hp] at h; cases h
 | some p =>
  obtain ⟨j,a,n⟩ := p
  rw [hp] at h
  obtain ⟨lo,z,cap,_,_,ha,hx,hl,_⟩ := piece_ok k f hp
  simp only at h
  split at h
  ·cases h
  ·cases h; rw [slice_len (by omega),place_size hp]
theorem kread {F : Fr} (k : FrOk F) {m : List (List UInt8)} (f : Fit F.S.mem.length F.rg m) {r : RecS} {j a n : Nat} (h : placeX F.caps.length r = some (j,a,n)) :
  kAns (F.at m) F.env ⟨1,F.caps.getD j 0,(a : Int),(n : Int),0,0,[]⟩ = ((0,0,slice (m.getD j []) a n),F.at m) := by
 obtain ⟨lo,z,cap,hc,hr,ha,hx,hl,hz,rfl⟩ := piece_ok k f h
 have hp := k.pl j _ lo z hc hr a n 1 (.inl rfl) ha
 have lp := pour_len f
 have hb : loadV (pour F.S.mem F.rg m) ((lo + a : Nat) : Int) (n : Int) = some (slice (m.getD j []) a n) := by
  unfold loadV
  rw [if_pos (by rw [lp]; omega),Int.toNat_natCast,Int.toNat_natCast]
  rw [← pour_slice f k.dj hr hx ha]; rfl
 have e : readV (F.at m).tabs (F.at m).regs (F.at m).mem F.env (F.caps.getD j 0) (a : Int) (n : Int) = (slice (m.getD j []) a n,0) := by
  unfold readV
  rw [show placeV (F.at m).tabs (F.at m).regs F.env (F.caps.getD j 0) 1 (a : Int) (n : Int) = (((lo + a : Nat) : Int),0) from hp]
  rw [if_neg (by simp),show loadV (F.at m).mem _ _ = _ from hb]
 unfold kAns
 rw [if_neg (show ¬ (F.env < 0 ∨ F.env ≥ ((F.at m).envs.length : Int)) from k.env)]
 unfold kDo
 rw [if_pos rfl,e]
theorem kwrite {F : Fr} (k : FrOk F) {m : List (List UInt8)} (f : Fit F.S.mem.length F.rg m) {r : RecS} {j a n : Nat} (h : placeX F.caps.length r = some (j,a,n)) {b : List UInt8} (hb : b.length = n) :
  kAns (F.at m) F.env ⟨2,F.caps.getD j 0,(a : Int),0,0,0,b⟩ = ((0,0,[]),F.at (m.set j (splice (m.getD j []) a b))) := by
 obtain ⟨lo,z,cap,hc,hr,ha,hx,hl,hz,rfl⟩ := piece_ok k f h
 have hp := k.pl j _ lo z hc hr a n 2 (.inr rfl) ha
 have lp := pour_len f
 have hs : storeV (pour F.S.mem F.rg m) ((lo + a : Nat) : Int) b = some (pour F.S.mem F.rg (m.set j (splice (m.getD j []) a b))) := by
  unfold storeV
  rw [if_pos (by rw [lp]; omega),Int.toNat_natCast]
  rw [← pour_splice f k.dj hr hx (by omega)]; rfl
 have e : writeV (F.at m).tabs (F.at m).regs (F.at m).mem F.env (F.caps.getD j 0) (a : Int) b = (0,pour F.S.mem F.rg (m.set j (splice (m.getD j []) a b))) := by
  unfold writeV
  rw [hb,show placeV (F.at m).tabs (F.at m).regs F.env (F.caps.getD j 0) 2 (a : Int) (n : Int) = (((lo + a : Nat) : Int),0) from hp]
  rw [if_neg (by simp),show storeV (F.at m).mem _ _ = _ from hs]
 unfold kAns
 rw [if_neg (show ¬ (F.env < 0 ∨ F.env ≥ ((F.at m).envs.length : Int)) from k.env)]
 unfold kDo
 rw [if_neg (show ¬ ((2 : Int) = 1) by decide),if_pos rfl,e]; rfl
theorem wrX_fit {F : Fr} (k : FrOk F) {X : CX} (f : Fit F.S.mem.length F.rg X.m) {r : RecS} {b : List UInt8} {ok : Bool} (hb : ok = true → b.length = sizeR r.kind) : Fit F.S.mem.length F.rg (wrX X r b ok).2.m := by
 unfold wrX
 rw [f.mlen k]
 cases hp : placeX F.caps.length r with
 | none=>exact f
 | some p =>
  obtain ⟨j,a,n⟩ := p
  obtain ⟨lo,z,cap,hc,hr,ha,hx,hl,hz,_⟩ := piece_ok k f hp
  simp only
  split
  ·rename_i hk
   exact f.set hr (by rw [splice_len (by rw [hb hk.1,← place_size hp]; omega)]; exact hl)
  ·exact f
instance {caps : List Int} {o : Option (Nat × Nat × Nat)} : LenC (plcL caps o) 3 := ⟨by cases o <;> rfl⟩
theorem plcL_one (caps : List Int) (o : Option (Nat × Nat × Nat)) : (plcL caps o).all Value.oneCell = true := by cases o <;> rfl
instance {caps : List Int} {o : Option (Nat × Nat × Nat)} {cs : List Value} [k : LenC cs 3] : SetsC cs 0 (plcL caps o) (plcL caps o) := ⟨setsN_all k.ok LenC.ok (plcL_one caps o)⟩
instance {rc : RecS} : PartC (recL rc) 0 2 (recL rc) := ⟨rfl⟩
theorem bad_val (r : RecS) (l : List RecS) : (if r ∈ l then (int 1,true) else (int 0,false)) = (int (if r ∈ l then 1 else 0),decide (r ∈ l)) := by split <;> simp [*]
theorem bad_pos (r : RecS) (l : List RecS) : decide ((if r ∈ l then (1 : Int) else 0) > 0) = decide (r ∈ l) := by split <;> simp [*]
theorem ct_kDoC (k : Nat) (S : KS) (N : Nat) (ok : KOk N S) (hN : N + 1 < 1000000000) (env : Int) (c : CallS) (ba : Option Addr) (bc : Nat) (ro : Bool) (h5 : c.op ≠ 5) :
  Ct CALL F_kern_Kern_Do [P0 k,int env,.agg ⟨callL c ba bc⟩] [kernC k S,slC ro Y_uint8 1 ba c.b.length bc (byteCells c.b)] fun v own=>∃ x d,v = .agg ⟨[int (kAns S env c).1.1,int (kAns S env c).1.2.1,.slice x (kAns S env c).1.2.2.length d]⟩ ∧
    own [slC false Y_uint8 1 x (kAns S env c).1.2.2.length d (byteCells (kAns S env c).1.2.2),kernC k (kAns S env c).2,slC ro Y_uint8 1 ba c.b.length bc (byteCells c.b)] := by
 intro h r o
 obtain ⟨pq,o1⟩ := Own.ex (f := fun pq=>slX ro Y_uint8 1 ba c.b.length bc pq (byteCells c.b)) (o.perm (.swap _ _ _))
 obtain ⟨v,h',e,x,d,rfl,o2⟩ := ct_kDo k S N ok hN env c ba bc ro pq h5 h r (o1.perm (.swap _ _ _))
 refine ⟨_,h',e,x,d,rfl,?_⟩
 have o3 := o2.picks [2] rfl
 exact (Own.inex (f := fun pq=>slX ro Y_uint8 1 ba c.b.length bc pq (byteCells c.b)) pq o3).picks [1,1,0] rfl
theorem ct_cread (c k : Nat) (F : Fr) (X : CX) (rc : RecS) (ok : FrOk F) : Ct CALL F_commons_Commons_read [P0 c,.agg ⟨recL rc⟩] [cmC c k F X] fun v own =>
  (∃ l a cp,rdX X rc = some l ∧ l.length = sizeR rc.kind ∧ v = .tuple ⟨[.slice a l.length cp,.bool true]⟩ ∧ own [slC false Y_uint8 1 a l.length cp (byteCells l),cmC c k F X]) ∨
  (rdX X rc = none ∧ v = .tuple ⟨[.slice none 0 0,.bool false]⟩ ∧ own [cmC c k F X]) := by
 refine Ct.of k_commons_Commons_read rfl fun h r=>Tr.eq (e_commons_Commons_read ..) ?_; (try simp only[Nr,Nl,Nat.reduceAdd,Nat.reduceMul,Int.reduceToNat])
 refine tr_open (cmC c k F X) fun u=>?_; (try simp only[Nr,Nl,Nat.reduceAdd,Nat.reduceMul,Int.reduceToNat])
 refine tr_pureAt 2 rfl fun f=>?_
 (repeat' first|refine Gu ?_|(with_reducible first|refine Gn fun b h=>?_|apply Gx|apply Gy|rintro px rfl|refine fun(h:H)=>?_|intro hb)|refine Gs ?_|refine Gt ?_|exact Gz rfl|fail)
 refine Tr.xCall (ct_cplace c k F.env F.caps X.bad rc ok.small ok.ne) ?_; rintro _ h ⟨rfl,o⟩ <;> (refine (?_ : Tr _ _ _ _) o; (try simp only[Nr,Nl,Nat.reduceAdd,Nat.reduceMul,Int.reduceToNat]); (repeat' first|refine Gu ?_|(with_reducible first|refine Gn fun b h=>?_|rintro px rfl|refine fun(h:H)=>?_|intro hb)|refine Gs ?_|refine Gt ?_|exact Gz rfl|fail))
 have em := f.mlen ok
 cases hp : placeX F.caps.length rc with
 | none =>
  (repeat' first|refine Gu ?_|(with_reducible first|refine Gn fun b h=>?_|rintro px rfl|refine fun(h:H)=>?_|intro hb)|refine Gs ?_|refine Gt ?_|exact Gz rfl|fail)
  refine Tr.bnd (Tr.condT rfl ?_)
  refine Tr.some fun o=>(?_ : Tr _ _ _ _) o; (try simp only[Nr,Nl,Nat.reduceAdd,Nat.reduceMul,Int.reduceToNat])
  (repeat' first|refine Gu ?_|(with_reducible first|refine Gn fun b h=>?_|apply Gx|apply Gy|rintro px rfl|refine fun(h:H)=>?_|intro hb)|refine Gs ?_|refine Gt ?_|exact Gz rfl|fail)
  refine tr_fold (cmC c k F X) () ?_; (try simp only[Nr,Nl,Nat.reduceAdd,Nat.reduceMul,Int.reduceToNat])
  refine Tr.some fun o=>?_
  exact .inr ⟨by unfold rdX; rw [em,hp],rfl,o.sub⟩
 | some p =>
  obtain ⟨j,a,n⟩ := p
  refine tr_open (comC c k F.env F.caps X.bad) fun ⟨ca,cn,mb⟩=>?_; (try simp only[Nr,Nl,Nat.reduceAdd,Nat.reduceMul,Int.reduceToNat])
  (repeat' first|refine Gu ?_|(with_reducible first|refine Gn fun b h=>?_|rintro px rfl|refine fun(h:H)=>?_|intro hb)|refine Gs ?_|refine Gt ?_|exact Gz rfl|fail)
  refine Tr.orG (c := decide (rc ∈ X.bad)) (fun _=>?_) ?_
  ·(repeat' first|refine Gu ?_|(with_reducible first|refine Gn fun b h=>?_|apply Gx|apply Gy|rintro px rfl|refine fun(h:H)=>?_|intro hb)|refine Gs ?_|refine Gt ?_|exact Gz rfl|fail)
   rw [lookM_bad,bad_val]
   (repeat' first|refine Gu ?_|(with_reducible first|refine Gn fun b h=>?_|apply Gx|apply Gy|rintro px rfl|refine fun(h:H)=>?_|intro hb)|refine Gs ?_|refine Gt ?_|exact Gz rfl|fail)
   refine Tr.some fun o=>?_
   rw [bad_pos]; exact ⟨by first | rfl | trivial,by first | rfl | trivial⟩
  by_cases hb : rc ∈ X.bad
  ·rw [decide_eq_true hb]
   (repeat' first|refine Gu ?_|(with_reducible first|refine Gn fun b h=>?_|apply Gx|apply Gy|rintro px rfl|refine fun(h:H)=>?_|intro hb)|refine Gs ?_|refine Gt ?_|exact Gz rfl|fail)
   refine tr_fold (comC c k F.env F.caps X.bad) ⟨ca,cn,mb⟩ ?_; (try simp only[Nr,Nl,Nat.reduceAdd,Nat.reduceMul,Int.reduceToNat])
   refine tr_fold (cmC c k F X) () ?_; (try simp only[Nr,Nl,Nat.reduceAdd,Nat.reduceMul,Int.reduceToNat])
   refine Tr.some fun o=>?_
   exact .inr ⟨by unfold rdX; rw [em,hp]; exact if_pos hb,rfl,o.sub⟩
  ·rw [decide_eq_false hb]
   refine Tr.condF rfl ?_
   (repeat' first|refine Gu ?_|(with_reducible first|refine Gn fun b h=>?_|apply Gx|apply Gy|rintro px rfl|refine fun(h:H)=>?_|intro hb)|refine Gs ?_|refine Gt ?_|exact Gz rfl|fail)
   refine tr_fold (comC c k F.env F.caps X.bad) ⟨ca,cn,mb⟩ ?_; (try simp only[Nr,Nl,Nat.reduceAdd,Nat.reduceMul,Int.reduceToNat])
   have J := ct_kDo0 k (F.at X.m) F.N (F.at_ok ok f) ok.hN F.env 1 (F.caps.getD j 0) (a : Int) (n : Int) 0 0 (by decide)
   rw [kread ok f hp] at J
   refine Tr.xCall (J) ?_; rintro _ h ⟨y,d,rfl,o⟩ <;> (refine (?_ : Tr _ _ _ _) o; (try simp only[Nr,Nl,Nat.reduceAdd,Nat.reduceMul,Int.reduceToNat]); (repeat' first|refine Gu ?_|(with_reducible first|refine Gn fun b h=>?_|apply Gx|apply Gy|rintro px rfl|refine fun(h:H)=>?_|intro hb)|refine Gs ?_|refine Gt ?_|exact Gz rfl|fail))
   refine Tr.condF rfl ?_
   (repeat' first|refine Gu ?_|(with_reducible first|refine Gn fun b h=>?_|apply Gx|apply Gy|rintro px rfl|refine fun(h:H)=>?_|intro hb)|refine Gs ?_|refine Gt ?_|exact Gz rfl|fail)
   refine tr_fold (cmC c k F X) () ?_; (try simp only[Nr,Nl,Nat.reduceAdd,Nat.reduceMul,Int.reduceToNat])
   refine Tr.some fun o=>?_
   have e : rdX X rc = some (slice (X.m.getD j []) a n) := by unfold rdX; rw [em,hp]; exact if_neg hb
   exact .inl ⟨_,y,d,e,rdX_len ok f e,rfl,o.sub⟩
theorem ct_cwrite (c k : Nat) (F : Fr) (X : CX) (rc : RecS) (ok : FrOk F) (bs : List UInt8) (g : Bool) (ba : Option Addr) (bc : Nat) (hb : g = true → bs.length = sizeR rc.kind) :
  Ct CALL F_commons_Commons_write [P0 c,.agg ⟨recL rc⟩,.slice ba bs.length bc,.bool g] [cmC c k F X,slC false Y_uint8 1 ba bs.length bc (byteCells bs)] fun v own =>
   v = .bool (wrX X rc bs g).1 ∧ own [cmC c k F (wrX X rc bs g).2,slC false Y_uint8 1 ba bs.length bc (byteCells bs)] := by
 refine Ct.of k_commons_Commons_write rfl fun h r=>Tr.eq (e_commons_Commons_write ..) ?_; (try simp only[Nr,Nl,Nat.reduceAdd,Nat.reduceMul,Int.reduceToNat])
 refine tr_open (cmC c k F X) fun u=>?_; (try simp only[Nr,Nl,Nat.reduceAdd,Nat.reduceMul,Int.reduceToNat])
 refine tr_pureAt 2 rfl fun f=>?_
 (repeat' first|refine Gu ?_|(with_reducible first|refine Gn fun b h=>?_|apply Gx|apply Gy|rintro px rfl|refine fun(h:H)=>?_|intro hb)|refine Gs ?_|refine Gt ?_|exact Gz rfl|fail)
 refine Tr.xCall (ct_cplace c k F.env F.caps X.bad rc ok.small ok.ne) ?_; rintro _ h ⟨rfl,o⟩ <;> (refine (?_ : Tr _ _ _ _) o; (try simp only[Nr,Nl,Nat.reduceAdd,Nat.reduceMul,Int.reduceToNat]); (repeat' first|refine Gu ?_|(with_reducible first|refine Gn fun b h=>?_|rintro px rfl|refine fun(h:H)=>?_|intro hb)|refine Gs ?_|refine Gt ?_|exact Gz rfl|fail))
 have em := f.mlen ok
 cases hp : placeX F.caps.length rc with
 | none =>
  (repeat' first|refine Gu ?_|(with_reducible first|refine Gn fun b h=>?_|rintro px rfl|refine fun(h:H)=>?_|intro hb)|refine Gs ?_|refine Gt ?_|exact Gz rfl|fail)
  refine Tr.bnd (Tr.condT rfl ?_)
  refine Tr.some fun o=>(?_ : Tr _ _ _ _) o; (try simp only[Nr,Nl,Nat.reduceAdd,Nat.reduceMul,Int.reduceToNat])
  refine Tr.bnd (Tr.condT rfl ?_)
  refine Tr.some fun o=>(?_ : Tr _ _ _ _) o; (try simp only[Nr,Nl,Nat.reduceAdd,Nat.reduceMul,Int.reduceToNat])
  (repeat' first|refine Gu ?_|(with_reducible first|refine Gn fun b h=>?_|apply Gx|apply Gy|rintro px rfl|refine fun(h:H)=>?_|intro hb)|refine Gs ?_|refine Gt ?_|exact Gz rfl|fail)
  refine tr_fold (cmC c k F X) () ?_; (try simp only[Nr,Nl,Nat.reduceAdd,Nat.reduceMul,Int.reduceToNat])
  refine Tr.some fun o=>?_
  have e : wrX X rc bs g = (false,X) := by unfold wrX; rw [em,hp]
  rw [e]
  exact ⟨by first | rfl | trivial,o.sub⟩
 | some p =>
  obtain ⟨j,a,n⟩ := p
  refine tr_open (comC c k F.env F.caps X.bad) fun ⟨ca,cn,mb⟩=>?_; (try simp only[Nr,Nl,Nat.reduceAdd,Nat.reduceMul,Int.reduceToNat])
  (repeat' first|refine Gu ?_|(with_reducible first|refine Gn fun b h=>?_|rintro px rfl|refine fun(h:H)=>?_|intro hb)|refine Gs ?_|refine Gt ?_|exact Gz rfl|fail)
  refine Tr.bnd (Tr.condF rfl ?_)
  refine Tr.some fun o=>(?_ : Tr _ _ _ _) o; (try simp only[Nr,Nl,Nat.reduceAdd,Nat.reduceMul,Int.reduceToNat])
  (repeat' first|refine Gu ?_|(with_reducible first|refine Gn fun b h=>?_|rintro px rfl|refine fun(h:H)=>?_|intro hb)|refine Gs ?_|refine Gt ?_|exact Gz rfl|fail)
  refine Tr.orG (c := decide (rc ∈ X.bad)) (fun _=>?_) ?_
  ·(repeat' first|refine Gu ?_|(with_reducible first|refine Gn fun b h=>?_|apply Gx|apply Gy|rintro px rfl|refine fun(h:H)=>?_|intro hb)|refine Gs ?_|refine Gt ?_|exact Gz rfl|fail)
   rw [lookM_bad,bad_val]
   (repeat' first|refine Gu ?_|(with_reducible first|refine Gn fun b h=>?_|apply Gx|apply Gy|rintro px rfl|refine fun(h:H)=>?_|intro hb)|refine Gs ?_|refine Gt ?_|exact Gz rfl|fail)
   refine Tr.some fun o=>?_
   rw [bad_pos]; exact ⟨by first | rfl | trivial,by first | rfl | trivial⟩
  by_cases hg : g = true ∧ ¬ rc ∈ X.bad
  ·have e : wrX X rc bs g = (true,{ X with m := X.m.set j (splice (X.m.getD j []) a bs) }) := by unfold wrX; rw [em,hp]; exact if_pos hg
   have f2 := wrX_fit (r := rc) (b := bs) (ok := g) ok f hb
   rw [e] at f2
   obtain ⟨rfl,hg2⟩ := hg
   rw [e,decide_eq_false hg2]
   refine Tr.condF rfl ?_
   (repeat' first|refine Gu ?_|(with_reducible first|refine Gn fun b h=>?_|apply Gx|apply Gy|rintro px rfl|refine fun(h:H)=>?_|intro hb)|refine Gs ?_|refine Gt ?_|exact Gz rfl|fail)
   refine tr_fold (comC c k F.env F.caps X.bad) ⟨ca,cn,mb⟩ ?_; (try simp only[Nr,Nl,Nat.reduceAdd,Nat.reduceMul,Int.reduceToNat])
   have hl : bs.length = n := by rw [hb rfl,place_size hp]
   have J := ct_kDoC k (F.at X.m) F.N (F.at_ok ok f) ok.hN F.env ⟨2,F.caps.getD j 0,(a : Int),0,0,0,bs⟩ ba bc false (show ((2 : Int) ≠ 5) by decide)
   rw [kwrite ok f hp hl] at J
   refine Tr.xCall (J) ?_; rintro _ h ⟨y,d,rfl,o⟩ <;> (refine (?_ : Tr _ _ _ _) o; (try simp only[Nr,Nl,Nat.reduceAdd,Nat.reduceMul,Int.reduceToNat]); (repeat' first|refine Gu ?_|(with_reducible first|refine Gn fun b h=>?_|apply Gx|apply Gy|rintro px rfl|refine fun(h:H)=>?_|intro hb)|refine Gs ?_|refine Gt ?_|exact Gz rfl|fail))
   refine tr_addpure (show Fit F.S.mem.length F.rg (X.m.set j (splice (X.m.getD j []) a bs)) from f2) ?_
   refine tr_fold (cmC c k F { X with m := X.m.set j (splice (X.m.getD j []) a bs) }) () ?_; (try simp only[Nr,Nl,Nat.reduceAdd,Nat.reduceMul,Int.reduceToNat])
   refine Tr.some fun o=>?_
   exact ⟨rfl,o.sub⟩
  ·have e : wrX X rc bs g = (false,X) := by unfold wrX; rw [em,hp]; exact if_neg hg
   rw [e]
   refine Tr.condT ?_ ?_
   ·cases g with
    | false=>rfl
    | true=>simpa using hg
   refine tr_fold (comC c k F.env F.caps X.bad) ⟨ca,cn,mb⟩ ?_; (try simp only[Nr,Nl,Nat.reduceAdd,Nat.reduceMul,Int.reduceToNat])
   refine tr_fold (cmC c k F X) () ?_; (try simp only[Nr,Nl,Nat.reduceAdd,Nat.reduceMul,Int.reduceToNat])
   refine Tr.some fun o=>?_
   exact ⟨by first | rfl | trivial,o.sub⟩
end Go.EQ

set_option maxRecDepth 10000
namespace Go.EQ
open Go Go.NN
def recX {α : Type} (dec : List UInt8 → α × Int) (z : α) (X : CX) (rc : RecS) : (α × Int) × CX :=
 match rdX X rc with
 | some l=>(dec l,if (dec l).2 = 2 then { X with bad := X.bad ++ [rc] } else X)
 | none=>((z,2),X)
theorem rdX_nbad {X : CX} {rc : RecS} {l : List UInt8} (h : rdX X rc = some l) : ¬ rc ∈ X.bad := by
 unfold rdX at h
 split at h
 ·split at h
  ·cases h
  ·assumption
 ·cases h
theorem decS_z (l : List UInt8) (h : (decS l).2 ≠ 1) : (decS l).1 = .zero := by
 unfold decS at *; split <;> first | rfl | (split <;> first | rfl | (simp_all; done))
theorem decP_z (l : List UInt8) (h : (decP l).2 ≠ 1) : (decP l).1 = .zero := by
 unfold decP at *; split <;> first | rfl | (split <;> first | rfl | (simp_all; done))
theorem ct_recS (c k : Nat) (F : Fr) (X : CX) (rc : RecS) (ok : FrOk F) (hk : sizeR rc.kind = 24) : Ct CALL F_commons_record_api_Proc [P0 c,.agg ⟨recL rc⟩,.func (.func F_pslot_Decode) ⟨[]⟩ ⟨[]⟩] [cmC c k F X] fun v own =>
  v = .tuple ⟨[.agg ⟨procL (recX decS .zero X rc).1.1⟩,int (recX decS .zero X rc).1.2]⟩ ∧ own [cmC c k F (recX decS .zero X rc).2] := by
 refine Ct.of k_commons_record_api_Proc rfl fun h r=>Tr.eq (e_commons_record_api_Proc ..) ?_; (try simp only[Nr,Nl,Nat.reduceAdd,Nat.reduceMul,Int.reduceToNat])
 (repeat' first|refine Gu ?_|(with_reducible first|refine Gn fun b h=>?_|apply Gx|apply Gy|rintro px rfl|refine fun(h:H)=>?_|intro hb)|refine Gs ?_|refine Gt ?_|exact Gz rfl|fail)
 refine Tr.xCall (ct_cread c k F X rc ok) ?_
 rintro v h (⟨l,a,cp,hr,hl,rfl,o⟩ | ⟨hr,rfl,o⟩)
 ·refine (?_ : Tr _ _ _ _) o
  (try simp only[Nr,Nl,Nat.reduceAdd,Nat.reduceMul,Int.reduceToNat])
  have e : recX decS .zero X rc = (decS l,if (decS l).2 = 2 then { X with bad := X.bad ++ [rc] } else X) := by unfold recX; rw [hr]
  have hb := rdX_nbad hr
  rw [e]
  rw [hk] at hl
  rw [hl]
  (repeat' first|refine Gu ?_|(with_reducible first|refine Gn fun b h=>?_|apply Gx|apply Gy|rintro px rfl|refine fun(h:H)=>?_|intro hb)|refine Gs ?_|refine Gt ?_|exact Gz rfl|fail)
  refine Tr.xCall (ct_DecodeS a cp l hl) ?_; rintro _ h ⟨rfl,o⟩ <;> (refine (?_ : Tr _ _ _ _) o; (try simp only[Nr,Nl,Nat.reduceAdd,Nat.reduceMul,Int.reduceToNat]); (repeat' first|refine Gu ?_|(with_reducible first|refine Gn fun b h=>?_|apply Gx|apply Gy|rintro px rfl|refine fun(h:H)=>?_|intro hb)|refine Gs ?_|refine Gt ?_|exact Gz rfl|fail))
  by_cases h2 : (decS l).2 = 2
  ·refine Tr.condT (by simpa using h2) ?_
   have hz := decS_z l (by omega)
   simp only [if_pos h2]
   refine tr_open (cmC c k F X) fun u=>?_; (try simp only[Nr,Nl,Nat.reduceAdd,Nat.reduceMul,Int.reduceToNat])
   refine tr_open (comC c k F.env F.caps X.bad) fun ⟨ca,cn,mb⟩=>?_; (try simp only[Nr,Nl,Nat.reduceAdd,Nat.reduceMul,Int.reduceToNat])
   (repeat' first|refine Gu ?_|(with_reducible first|refine Gn fun b h=>?_|apply Gx|apply Gy|rintro px rfl|refine fun(h:H)=>?_|intro hb)|refine Gs ?_|refine Gt ?_|exact Gz rfl|fail)
   rw [lookM_bad,if_neg hb]
   (repeat' first|refine Gu ?_|(with_reducible first|refine Gn fun b h=>?_|apply Gx|apply Gy|rintro px rfl|refine fun(h:H)=>?_|intro hb)|refine Gs ?_|refine Gt ?_|exact Gz rfl|fail)
   rw [entM_bad hb]
   (repeat' first|refine Gu ?_|(with_reducible first|refine Gn fun b h=>?_|apply Gx|apply Gy|rintro px rfl|refine fun(h:H)=>?_|intro hb)|refine Gs ?_|refine Gt ?_|exact Gz rfl|fail)
   rw [lookM_new hb]
   (repeat' first|refine Gu ?_|(with_reducible first|refine Gn fun b h=>?_|apply Gx|apply Gy|rintro px rfl|refine fun(h:H)=>?_|intro hb)|refine Gs ?_|refine Gt ?_|exact Gz rfl|fail)
   rw [bornN_bad X.bad 0 X.bad.length _ 0 rfl (by omega),Nat.zero_add]
   (repeat' first|refine Gu ?_|(with_reducible first|refine Gn fun b h=>?_|apply Gx|apply Gy|rintro px rfl|refine fun(h:H)=>?_|intro hb)|refine Gs ?_|refine Gt ?_|exact Gz rfl|fail)
   rw [modN_bad]
   refine Tr.jmp k_commons_record_api_Proc (Tr.eq (e_commons_record_api_Proc_R1 ..) ?_); (try simp only[Nr,Nl,wl,Nat.reduceAdd,Nat.reduceMul,Int.reduceToNat])
   refine Tr.condT (by rw [bne_iff_ne]; omega) ?_
   (repeat' first|refine Gu ?_|(with_reducible first|refine Gn fun b h=>?_|apply Gx|apply Gy|rintro px rfl|refine fun(h:H)=>?_|intro hb)|refine Gs ?_|refine Gt ?_|exact Gz rfl|fail)
   rw [show X.bad.length + 1 = (X.bad ++ [rc]).length by simp]
   refine tr_fold (comC c k F.env F.caps (X.bad ++ [rc])) ⟨ca,cn,mb⟩ ?_; (try simp only[Nr,Nl,Nat.reduceAdd,Nat.reduceMul,Int.reduceToNat])
   refine tr_fold (cmC c k F { X with bad := X.bad ++ [rc] }) () ?_; (try simp only[Nr,Nl,Nat.reduceAdd,Nat.reduceMul,Int.reduceToNat])
   refine Tr.some fun o=>?_
   exact ⟨by rw [hz] <;> rfl,o.sub⟩
  ·refine Tr.condF (by simpa using h2) ?_
   simp only [if_neg h2]
   refine Tr.jmp k_commons_record_api_Proc (Tr.eq (e_commons_record_api_Proc_R1 ..) ?_); (try simp only[Nr,Nl,wl,Nat.reduceAdd,Nat.reduceMul,Int.reduceToNat])
   by_cases h1 : (decS l).2 = 1
   ·refine Tr.condF (by simpa using h1) ?_
    (repeat' first|refine Gu ?_|(with_reducible first|refine Gn fun b h=>?_|apply Gx|apply Gy|rintro px rfl|refine fun(h:H)=>?_|intro hb)|refine Gs ?_|refine Gt ?_|exact Gz rfl|fail)
    refine Tr.some fun o=>?_
    exact ⟨rfl,o.sub⟩
   ·refine Tr.condT (by simpa using h1) ?_
    (repeat' first|refine Gu ?_|(with_reducible first|refine Gn fun b h=>?_|apply Gx|apply Gy|rintro px rfl|refine fun(h:H)=>?_|intro hb)|refine Gs ?_|refine Gt ?_|exact Gz rfl|fail)
    refine Tr.some fun o=>?_
    exact ⟨by rw [decS_z l h1] <;> rfl,o.sub⟩
 ·refine (?_ : Tr _ _ _ _) o
  (try simp only[Nr,Nl,Nat.reduceAdd,Nat.reduceMul,Int.reduceToNat])
  have e : recX decS .zero X rc = ((.zero,2),X) := by unfold recX; rw [hr]
  rw [e]
  (repeat' first|refine Gu ?_|(with_reducible first|refine Gn fun b h=>?_|apply Gx|apply Gy|rintro px rfl|refine fun(h:H)=>?_|intro hb)|refine Gs ?_|refine Gt ?_|exact Gz rfl|fail)
  refine Tr.some fun o=>?_
  exact ⟨rfl,o.sub⟩
theorem ct_recP (c k : Nat) (F : Fr) (X : CX) (rc : RecS) (ok : FrOk F) (hk : sizeR rc.kind = 40) : Ct CALL F_commons_record_api_Pipe [P0 c,.agg ⟨recL rc⟩,.func (.func F_ring_Decode) ⟨[]⟩ ⟨[]⟩] [cmC c k F X] fun v own =>
  v = .tuple ⟨[.agg ⟨pipeL (recX decP .zero X rc).1.1⟩,int (recX decP .zero X rc).1.2]⟩ ∧ own [cmC c k F (recX decP .zero X rc).2] := by
 refine Ct.of k_commons_record_api_Pipe rfl fun h r=>Tr.eq (e_commons_record_api_Pipe ..) ?_; (try simp only[Nr,Nl,Nat.reduceAdd,Nat.reduceMul,Int.reduceToNat])
 (repeat' first|refine Gu ?_|(with_reducible first|refine Gn fun b h=>?_|apply Gx|apply Gy|rintro px rfl|refine fun(h:H)=>?_|intro hb)|refine Gs ?_|refine Gt ?_|exact Gz rfl|fail)
 refine Tr.xCall (ct_cread c k F X rc ok) ?_
 rintro v h (⟨l,a,cp,hr,hl,rfl,o⟩ | ⟨hr,rfl,o⟩)
 ·refine (?_ : Tr _ _ _ _) o
  (try simp only[Nr,Nl,Nat.reduceAdd,Nat.reduceMul,Int.reduceToNat])
  have e : recX decP .zero X rc = (decP l,if (decP l).2 = 2 then { X with bad := X.bad ++ [rc] } else X) := by unfold recX; rw [hr]
  have hb := rdX_nbad hr
  rw [e]
  rw [hk] at hl
  rw [hl]
  (repeat' first|refine Gu ?_|(with_reducible first|refine Gn fun b h=>?_|apply Gx|apply Gy|rintro px rfl|refine fun(h:H)=>?_|intro hb)|refine Gs ?_|refine Gt ?_|exact Gz rfl|fail)
  refine Tr.xCall (ct_DecodeP a cp l hl) ?_; rintro _ h ⟨rfl,o⟩ <;> (refine (?_ : Tr _ _ _ _) o; (try simp only[Nr,Nl,Nat.reduceAdd,Nat.reduceMul,Int.reduceToNat]); (repeat' first|refine Gu ?_|(with_reducible first|refine Gn fun b h=>?_|apply Gx|apply Gy|rintro px rfl|refine fun(h:H)=>?_|intro hb)|refine Gs ?_|refine Gt ?_|exact Gz rfl|fail))
  by_cases h2 : (decP l).2 = 2
  ·refine Tr.condT (by simpa using h2) ?_
   have hz := decP_z l (by omega)
   simp only [if_pos h2]
   refine tr_open (cmC c k F X) fun u=>?_; (try simp only[Nr,Nl,Nat.reduceAdd,Nat.reduceMul,Int.reduceToNat])
   refine tr_open (comC c k F.env F.caps X.bad) fun ⟨ca,cn,mb⟩=>?_; (try simp only[Nr,Nl,Nat.reduceAdd,Nat.reduceMul,Int.reduceToNat])
   (repeat' first|refine Gu ?_|(with_reducible first|refine Gn fun b h=>?_|apply Gx|apply Gy|rintro px rfl|refine fun(h:H)=>?_|intro hb)|refine Gs ?_|refine Gt ?_|exact Gz rfl|fail)
   rw [lookM_bad,if_neg hb]
   (repeat' first|refine Gu ?_|(with_reducible first|refine Gn fun b h=>?_|apply Gx|apply Gy|rintro px rfl|refine fun(h:H)=>?_|intro hb)|refine Gs ?_|refine Gt ?_|exact Gz rfl|fail)
   rw [entM_bad hb]
   (repeat' first|refine Gu ?_|(with_reducible first|refine Gn fun b h=>?_|apply Gx|apply Gy|rintro px rfl|refine fun(h:H)=>?_|intro hb)|refine Gs ?_|refine Gt ?_|exact Gz rfl|fail)
   rw [lookM_new hb]
   (repeat' first|refine Gu ?_|(with_reducible first|refine Gn fun b h=>?_|apply Gx|apply Gy|rintro px rfl|refine fun(h:H)=>?_|intro hb)|refine Gs ?_|refine Gt ?_|exact Gz rfl|fail)
   rw [bornN_bad X.bad 0 X.bad.length _ 0 rfl (by omega),Nat.zero_add]
   (repeat' first|refine Gu ?_|(with_reducible first|refine Gn fun b h=>?_|apply Gx|apply Gy|rintro px rfl|refine fun(h:H)=>?_|intro hb)|refine Gs ?_|refine Gt ?_|exact Gz rfl|fail)
   rw [modN_bad]
   refine Tr.jmp k_commons_record_api_Pipe (Tr.eq (e_commons_record_api_Pipe_R1 ..) ?_); (try simp only[Nr,Nl,wl,Nat.reduceAdd,Nat.reduceMul,Int.reduceToNat])
   refine Tr.condT (by rw [bne_iff_ne]; omega) ?_
   (repeat' first|refine Gu ?_|(with_reducible first|refine Gn fun b h=>?_|apply Gx|apply Gy|rintro px rfl|refine fun(h:H)=>?_|intro hb)|refine Gs ?_|refine Gt ?_|exact Gz rfl|fail)
   rw [show X.bad.length + 1 = (X.bad ++ [rc]).length by simp]
   refine tr_fold (comC c k F.env F.caps (X.bad ++ [rc])) ⟨ca,cn,mb⟩ ?_; (try simp only[Nr,Nl,Nat.reduceAdd,Nat.reduceMul,Int.reduceToNat])
   refine tr_fold (cmC c k F { X with bad := X.bad ++ [rc] }) () ?_; (try simp only[Nr,Nl,Nat.reduceAdd,Nat.reduceMul,Int.reduceToNat])
   refine Tr.some fun o=>?_
   exact ⟨by rw [hz] <;> rfl,o.sub⟩
  ·refine Tr.condF (by simpa using h2) ?_
   simp only [if_neg h2]
   refine Tr.jmp k_commons_record_api_Pipe (Tr.eq (e_commons_record_api_Pipe_R1 ..) ?_); (try simp only[Nr,Nl,wl,Nat.reduceAdd,Nat.reduceMul,Int.reduceToNat])
   by_cases h1 : (decP l).2 = 1
   ·refine Tr.condF (by simpa using h1) ?_
    (repeat' first|refine Gu ?_|(with_reducible first|refine Gn fun b h=>?_|apply Gx|apply Gy|rintro px rfl|refine fun(h:H)=>?_|intro hb)|refine Gs ?_|refine Gt ?_|exact Gz rfl|fail)
    refine Tr.some fun o=>?_
    exact ⟨rfl,o.sub⟩
   ·refine Tr.condT (by simpa using h1) ?_
    (repeat' first|refine Gu ?_|(with_reducible first|refine Gn fun b h=>?_|apply Gx|apply Gy|rintro px rfl|refine fun(h:H)=>?_|intro hb)|refine Gs ?_|refine Gt ?_|exact Gz rfl|fail)
    refine Tr.some fun o=>?_
    exact ⟨by rw [decP_z l h1] <;> rfl,o.sub⟩
 ·refine (?_ : Tr _ _ _ _) o
  (try simp only[Nr,Nl,Nat.reduceAdd,Nat.reduceMul,Int.reduceToNat])
  have e : recX decP .zero X rc = ((.zero,2),X) := by unfold recX; rw [hr]
  rw [e]
  (repeat' first|refine Gu ?_|(with_reducible first|refine Gn fun b h=>?_|apply Gx|apply Gy|rintro px rfl|refine fun(h:H)=>?_|intro hb)|refine Gs ?_|refine Gt ?_|exact Gz rfl|fail)
  refine Tr.some fun o=>?_
  exact ⟨rfl,o.sub⟩
def frontB (g : Int) : List UInt8 := [b8 g,211,sum8 [b8 g,211],0]
def decG (l : List UInt8) : Int × Int := if byI l 0 < 8 ∧ frontB (byI l 0) = l then (byI l 0,1) else (0,2)
theorem ct_FrontBytes (g : Int) : Ct CALL F_commons_FrontBytes [int g] [] fun v own =>
  (0 ≤ g ∧ g < 8 ∧ ∃ a c,v = .tuple ⟨[.slice a 4 c,.bool true]⟩ ∧ own [slC false Y_uint8 1 a 4 c (byteCells (frontB g))]) ∨ (¬ (0 ≤ g ∧ g < 8) ∧ v = .tuple ⟨[.slice none 0 0,.bool false]⟩ ∧ own []) := by
 refine Ct.of k_commons_FrontBytes rfl fun h r=>Tr.eq (e_commons_FrontBytes ..) ?_; (try simp only[Nr,Nl,Nat.reduceAdd,Nat.reduceMul,Int.reduceToNat])
 (repeat' first|refine Gu ?_|(with_reducible first|refine Gn fun b h=>?_|apply Gx|apply Gy|rintro px rfl|refine fun(h:H)=>?_|intro hb)|refine Gs ?_|refine Gt ?_|exact Gz rfl|fail)
 by_cases hg : 0 ≤ g ∧ g < 8
 ·refine Tr.condF (by simp; omega) ?_
  rw [b8_val]
  refine Tr.nw fun b h=>?_
  rw [show ([.int .u8 ((b8 g).toNat : Int),.int .u8 211] : List Value) = byteCells [b8 g,211] from rfl]
  refine tr_asSl 0 rfl 1 2 rfl (by omega) ?_
  (try simp only[Nr,Nl,Nat.reduceAdd,Nat.reduceMul,Int.reduceToNat])
  refine Tr.pcall (ct_Sum (slC false Y_uint8 1 (some ⟨b,0,none⟩) 2 2 (byteCells [b8 g,211])) (some ⟨b,0,none⟩) false 2 2 2 [b8 g,211] 2 (by simp) (by simp [most])) ?_
  (repeat' first|refine Gu ?_|(with_reducible first|refine Gn fun b h=>?_|apply Gx|apply Gy|rintro px rfl|refine fun(h:H)=>?_|intro hb)|refine Gs ?_|refine Gt ?_|exact Gz rfl|fail)
  rw [show List.take 2 [b8 g,211] = [b8 g,211] from rfl,sum8_val]
  refine Tr.xApd ⟨rfl,rfl,by simp [most]⟩ fun a' c' h'=>?_
  (try simp only[Nr,Nl,Nat.reduceAdd,Nat.reduceMul,Int.reduceToNat])
  refine Tr.some fun o=>?_
  exact .inl ⟨hg.1,hg.2,a',c',rfl,(show Own h' (_ :: slC false Y_uint8 1 a' 4 c' (byteCells (frontB g)) :: _) from o).sub⟩
 ·refine Tr.condT (by simp; omega) ?_
  refine Tr.some fun o=>?_
  exact .inr ⟨hg,rfl,o.sub⟩
theorem ba_loop (l : List UInt8) : ∀ (m i : Nat) (r : List UInt8),l.length - i = m → ByteArray.toList.loop ⟨⟨l⟩⟩ i r = r.reverse ++ l.drop i := by
 intro m
 induction m with
 | zero =>
  intro i r hm
  unfold ByteArray.toList.loop
  rw [if_neg (show ¬ i < (ByteArray.mk ⟨l⟩).size by show ¬ i < l.length; omega),List.drop_eq_nil_of_le (by omega)]; simp
 | succ m ih =>
  intro i r hm
  have hlt : i < l.length := by omega
  unfold ByteArray.toList.loop
  rw [if_pos (show i < (ByteArray.mk ⟨l⟩).size from hlt),ih (i + 1) _ (by omega),List.drop_eq_getElem_cons hlt]
  have : (ByteArray.mk ⟨l⟩).get! i = l[i] := by
   show (Array.mk l)[i]! = l[i]
   simp [hlt]
  rw [this]; simp
theorem ba_toList (l : List UInt8) : (ByteArray.mk ⟨l⟩).toList = l := by
 unfold ByteArray.toList
 rw [ba_loop l _ 0 [] rfl]; simp
theorem ct_FrontOf (a : Option Addr) (c : Nat) (l : List UInt8) (hl : l.length = 4) : Ct CALL F_commons_FrontOf [.slice a 4 c] [slC false Y_uint8 1 a 4 c (byteCells l)] fun v own=>v = .tuple ⟨[int (decG l).1,int (decG l).2]⟩ ∧ own [slC false Y_uint8 1 a 4 c (byteCells l)] := by
 refine Ct.of k_commons_FrontOf rfl fun h r=>Tr.eq (e_commons_FrontOf ..) ?_; (try simp only[Nr,Nl,Nat.reduceAdd,Nat.reduceMul,Int.reduceToNat])
 refine Tr.condF rfl ?_
 (repeat' first|refine Gu ?_|(with_reducible first|refine Gn fun b h=>?_|apply Gx|apply Gy|rintro px rfl|refine fun(h:H)=>?_|intro hb)|refine Gs ?_|refine Gt ?_|exact Gz rfl|fail)
 refine Tr.xIntS (v := byI l 0) (bc_at (by omega)) ?_
 simp only [byI,wrap_b]
 refine Tr.xCall (ct_FrontBytes (byI l 0)) ?_
 rintro v h (⟨h1,h2,a1,c1,rfl,o⟩ | ⟨hn,rfl,o⟩)
 ·refine (?_ : Tr _ _ _ _) o
  (try simp only[Nr,Nl,Nat.reduceAdd,Nat.reduceMul,Int.reduceToNat])
  (repeat' first|refine Gu ?_|(with_reducible first|refine Gn fun b h=>?_|apply Gx|apply Gy|rintro px rfl|refine fun(h:H)=>?_|intro hb)|refine Gs ?_|refine Gt ?_|exact Gz rfl|fail)
  rw [ba_toList,ba_toList]
  by_cases he : frontB (byI l 0) = l
  ·have e : decG l = (byI l 0,1) := by unfold decG; rw [if_pos ⟨h2,he⟩]
   refine Tr.condF (by simp [he]) ?_
   (repeat' first|refine Gu ?_|(with_reducible first|refine Gn fun b h=>?_|apply Gx|apply Gy|rintro px rfl|refine fun(h:H)=>?_|intro hb)|refine Gs ?_|refine Gt ?_|exact Gz rfl|fail)
   refine Tr.xIntS (v := byI l 0) (bc_at (by omega)) ?_
   refine Tr.some fun o=>?_
   rw [e]; exact ⟨by simp only [byI,wrap_b],o.sub⟩
  ·have e : decG l = (0,2) := by unfold decG; rw [if_neg (fun hh=>he hh.2)]
   refine Tr.condT (by simp [he]) ?_
   refine Tr.some fun o=>?_
   rw [e]; exact ⟨rfl,o.sub⟩
 ·refine (?_ : Tr _ _ _ _) o
  (try simp only[Nr,Nl,Nat.reduceAdd,Nat.reduceMul,Int.reduceToNat])
  (repeat' first|refine Gu ?_|(with_reducible first|refine Gn fun b h=>?_|rintro px rfl|refine fun(h:H)=>?_|intro hb)|refine Gs ?_|refine Gt ?_|exact Gz rfl|fail)
  refine Tr.bnd (Tr.condT rfl ?_)
  refine Tr.some fun o=>(?_ : Tr _ _ _ _) o; (try simp only[Nr,Nl,Nat.reduceAdd,Nat.reduceMul,Int.reduceToNat])
  (repeat' first|refine Gu ?_|(with_reducible first|refine Gn fun b h=>?_|apply Gx|apply Gy|rintro px rfl|refine fun(h:H)=>?_|intro hb)|refine Gs ?_|refine Gt ?_|exact Gz rfl|fail)
  refine Tr.some fun o=>?_
  exact ⟨by unfold decG; rw [if_neg (by simp only [byI] at *; omega)],o.sub⟩
theorem decG_z (l : List UInt8) (h : (decG l).2 ≠ 1) : (decG l).1 = 0 := by
 unfold decG at *; split <;> simp_all
theorem ct_recG (c k : Nat) (F : Fr) (X : CX) (rc : RecS) (ok : FrOk F) (hk : sizeR rc.kind = 4) : Ct CALL F_commons_record_int [P0 c,.agg ⟨recL rc⟩,.func (.func F_commons_FrontOf) ⟨[]⟩ ⟨[]⟩] [cmC c k F X] fun v own =>
  v = .tuple ⟨[int (recX decG 0 X rc).1.1,int (recX decG 0 X rc).1.2]⟩ ∧ own [cmC c k F (recX decG 0 X rc).2] := by
 refine Ct.of k_commons_record_int rfl fun h r=>Tr.eq (e_commons_record_int ..) ?_; (try simp only[Nr,Nl,Nat.reduceAdd,Nat.reduceMul,Int.reduceToNat])
 (repeat' first|refine Gu ?_|(with_reducible first|refine Gn fun b h=>?_|apply Gx|apply Gy|rintro px rfl|refine fun(h:H)=>?_|intro hb)|refine Gs ?_|refine Gt ?_|exact Gz rfl|fail)
 refine Tr.xCall (ct_cread c k F X rc ok) ?_
 rintro v h (⟨l,a,cp,hr,hl,rfl,o⟩ | ⟨hr,rfl,o⟩)
 ·refine (?_ : Tr _ _ _ _) o
  (try simp only[Nr,Nl,Nat.reduceAdd,Nat.reduceMul,Int.reduceToNat])
  have e : recX decG 0 X rc = (decG l,if (decG l).2 = 2 then { X with bad := X.bad ++ [rc] } else X) := by unfold recX; rw [hr]
  have hb := rdX_nbad hr
  rw [e]
  rw [hk] at hl
  rw [hl]
  (repeat' first|refine Gu ?_|(with_reducible first|refine Gn fun b h=>?_|apply Gx|apply Gy|rintro px rfl|refine fun(h:H)=>?_|intro hb)|refine Gs ?_|refine Gt ?_|exact Gz rfl|fail)
  refine Tr.xCall (ct_FrontOf a cp l hl) ?_; rintro _ h ⟨rfl,o⟩ <;> (refine (?_ : Tr _ _ _ _) o; (try simp only[Nr,Nl,Nat.reduceAdd,Nat.reduceMul,Int.reduceToNat]); (repeat' first|refine Gu ?_|(with_reducible first|refine Gn fun b h=>?_|apply Gx|apply Gy|rintro px rfl|refine fun(h:H)=>?_|intro hb)|refine Gs ?_|refine Gt ?_|exact Gz rfl|fail))
  by_cases h2 : (decG l).2 = 2
  ·refine Tr.condT (by simpa using h2) ?_
   have hz := decG_z l (by omega)
   simp only [if_pos h2]
   refine tr_open (cmC c k F X) fun u=>?_; (try simp only[Nr,Nl,Nat.reduceAdd,Nat.reduceMul,Int.reduceToNat])
   refine tr_open (comC c k F.env F.caps X.bad) fun ⟨ca,cn,mb⟩=>?_; (try simp only[Nr,Nl,Nat.reduceAdd,Nat.reduceMul,Int.reduceToNat])
   (repeat' first|refine Gu ?_|(with_reducible first|refine Gn fun b h=>?_|apply Gx|apply Gy|rintro px rfl|refine fun(h:H)=>?_|intro hb)|refine Gs ?_|refine Gt ?_|exact Gz rfl|fail)
   rw [lookM_bad,if_neg hb]
   (repeat' first|refine Gu ?_|(with_reducible first|refine Gn fun b h=>?_|apply Gx|apply Gy|rintro px rfl|refine fun(h:H)=>?_|intro hb)|refine Gs ?_|refine Gt ?_|exact Gz rfl|fail)
   rw [entM_bad hb]
   (repeat' first|refine Gu ?_|(with_reducible first|refine Gn fun b h=>?_|apply Gx|apply Gy|rintro px rfl|refine fun(h:H)=>?_|intro hb)|refine Gs ?_|refine Gt ?_|exact Gz rfl|fail)
   rw [lookM_new hb]
   (repeat' first|refine Gu ?_|(with_reducible first|refine Gn fun b h=>?_|apply Gx|apply Gy|rintro px rfl|refine fun(h:H)=>?_|intro hb)|refine Gs ?_|refine Gt ?_|exact Gz rfl|fail)
   rw [bornN_bad X.bad 0 X.bad.length _ 0 rfl (by omega),Nat.zero_add]
   (repeat' first|refine Gu ?_|(with_reducible first|refine Gn fun b h=>?_|apply Gx|apply Gy|rintro px rfl|refine fun(h:H)=>?_|intro hb)|refine Gs ?_|refine Gt ?_|exact Gz rfl|fail)
   rw [modN_bad]
   refine Tr.jmp k_commons_record_int (Tr.eq (e_commons_record_int_R1 ..) ?_); (try simp only[Nr,Nl,wl,Nat.reduceAdd,Nat.reduceMul,Int.reduceToNat])
   refine Tr.condT (by rw [bne_iff_ne]; omega) ?_
   rw [show X.bad.length + 1 = (X.bad ++ [rc]).length by simp]
   refine tr_fold (comC c k F.env F.caps (X.bad ++ [rc])) ⟨ca,cn,mb⟩ ?_; (try simp only[Nr,Nl,Nat.reduceAdd,Nat.reduceMul,Int.reduceToNat])
   refine tr_fold (cmC c k F { X with bad := X.bad ++ [rc] }) () ?_; (try simp only[Nr,Nl,Nat.reduceAdd,Nat.reduceMul,Int.reduceToNat])
   refine Tr.some fun o=>?_
   exact ⟨by rw [hz],o.sub⟩
  ·refine Tr.condF (by simpa using h2) ?_
   simp only [if_neg h2]
   refine Tr.jmp k_commons_record_int (Tr.eq (e_commons_record_int_R1 ..) ?_); (try simp only[Nr,Nl,wl,Nat.reduceAdd,Nat.reduceMul,Int.reduceToNat])
   by_cases h1 : (decG l).2 = 1
   ·refine Tr.condF (by simpa using h1) ?_
    refine Tr.some fun o=>?_
    exact ⟨rfl,o.sub⟩
   ·refine Tr.condT (by simpa using h1) ?_
    refine Tr.some fun o=>?_
    exact ⟨by rw [decG_z l h1],o.sub⟩
 ·refine (?_ : Tr _ _ _ _) o
  (try simp only[Nr,Nl,Nat.reduceAdd,Nat.reduceMul,Int.reduceToNat])
  have e : recX decG 0 X rc = ((0,2),X) := by unfold recX; rw [hr]
  rw [e]
  (repeat' first|refine Gu ?_|(with_reducible first|refine Gn fun b h=>?_|apply Gx|apply Gy|rintro px rfl|refine fun(h:H)=>?_|intro hb)|refine Gs ?_|refine Gt ?_|exact Gz rfl|fail)
  refine Tr.some fun o=>?_
  exact ⟨rfl,o.sub⟩
end Go.EQ

set_option maxRecDepth 10000
namespace Go.EQ
open Go Go.NN
abbrev procX (X : CX) (i : Int) : (ProcS × Int) × CX := recX decS .zero X ⟨1,i⟩
abbrev fileX (X : CX) (i : Int) : (FileS × Int) × CX := recX decF .zero X ⟨2,i⟩
abbrev pipeX (X : CX) (i : Int) : (PipeS × Int) × CX := recX decP .zero X ⟨3,i⟩
abbrev termX (X : CX) : (PipeS × Int) × CX := recX decP .zero X ⟨4,0⟩
abbrev frontX (X : CX) : (Int × Int) × CX := recX decG 0 X ⟨5,0⟩
abbrev setProcX (X : CX) (i : Int) (p : ProcS) : Bool × CX := wrX X ⟨1,i⟩ (encS p) (okS p)
abbrev freeX (X : CX) (rc : RecS) : Bool × CX := wrX X rc (List.replicate (sizeR rc.kind) 0) true
theorem wrX_no (X : CX) (rc : RecS) (b : List UInt8) : wrX X rc b false = (false,X) := by
 unfold wrX; split <;> simp
theorem ct_cblank (c k : Nat) (F : Fr) (X : CX) (rc : RecS) (ok : FrOk F) : Ct CALL F_commons_Commons_blank [P0 c,.agg ⟨recL rc⟩] [cmC c k F X] fun v own =>
  v = .bool (freeX X rc).1 ∧ own [cmC c k F (freeX X rc).2] := by
 refine Ct.of k_commons_Commons_blank rfl fun h r=>Tr.eq (e_commons_Commons_blank ..) ?_; (try simp only[Nr,Nl,Nat.reduceAdd,Nat.reduceMul,Int.reduceToNat])
 refine tr_open (cmC c k F X) fun u=>?_; (try simp only[Nr,Nl,Nat.reduceAdd,Nat.reduceMul,Int.reduceToNat])
 refine tr_pureAt 2 rfl fun f=>?_
 (repeat' first|refine Gu ?_|(with_reducible first|refine Gn fun b h=>?_|apply Gx|apply Gy|rintro px rfl|refine fun(h:H)=>?_|intro hb)|refine Gs ?_|refine Gt ?_|exact Gz rfl|fail)
 refine Tr.xCall (ct_cplace c k F.env F.caps X.bad rc ok.small ok.ne) ?_; rintro _ h ⟨rfl,o⟩ <;> (refine (?_ : Tr _ _ _ _) o; (try simp only[Nr,Nl,Nat.reduceAdd,Nat.reduceMul,Int.reduceToNat]); (repeat' first|refine Gu ?_|(with_reducible first|refine Gn fun b h=>?_|apply Gx|apply Gy|rintro px rfl|refine fun(h:H)=>?_|intro hb)|refine Gs ?_|refine Gt ?_|exact Gz rfl|fail))
 have em := f.mlen ok
 cases hp : placeX F.caps.length rc with
 | none =>
  (repeat' first|refine Gu ?_|(with_reducible first|refine Gn fun b h=>?_|apply Gx|apply Gy|rintro px rfl|refine fun(h:H)=>?_|intro hb)|refine Gs ?_|refine Gt ?_|exact Gz rfl|fail)
  rw [show manyN (Int.toNat 0) [.int .u8 0] = byteCells [] from rfl]
  refine tr_asSl 0 rfl 1 0 rfl (by omega) ?_
  (try simp only[Nr,Nl,Nat.reduceAdd,Nat.reduceMul,Int.reduceToNat])
  refine tr_fold (cmC c k F X) () ?_; (try simp only[Nr,Nl,Nat.reduceAdd,Nat.reduceMul,Int.reduceToNat])
  refine Tr.xCall (ct_cwrite c k F X rc ok [] false (some ⟨b,0,none⟩) 0 (by simp)) ?_; rintro _ h ⟨rfl,o⟩ <;> (refine (?_ : Tr _ _ _ _) o; (try simp only[Nr,Nl,Nat.reduceAdd,Nat.reduceMul,Int.reduceToNat]); (repeat' first|refine Gu ?_|(with_reducible first|refine Gn fun b h=>?_|apply Gx|apply Gy|rintro px rfl|refine fun(h:H)=>?_|intro hb)|refine Gs ?_|refine Gt ?_|exact Gz rfl|fail))
  refine Tr.some fun o=>?_
  have e : freeX X rc = (false,X) := by unfold freeX wrX; rw [em,hp]
  rw [wrX_no] at o
  rw [e,wrX_no]
  exact ⟨by first | rfl | trivial,o.sub⟩
 | some p =>
  obtain ⟨j,a,n⟩ := p
  have hn := place_size hp
  subst hn
  have h40 : sizeR rc.kind ≤ 40 := by unfold sizeR; (repeat' split) <;> omega
  (repeat' first|refine Gu ?_|(with_reducible first|refine Gn fun b h=>?_|apply Gx|apply Gy|rintro px rfl|refine fun(h:H)=>?_|intro hb)|refine Gs ?_|refine Gt ?_|exact Gz rfl|fail)
  refine Tr.ck ⟨by omega,by omega,by simp only [most]; omega⟩ ?_
  refine Tr.nw fun b1 h=>?_
  rw [Int.toNat_natCast,show manyN (sizeR rc.kind) [.int .u8 0] = byteCells (List.replicate (sizeR rc.kind) 0) by simp [manyN,byteCells]]
  refine tr_asSl 0 rfl 1 (sizeR rc.kind) (by simp [byteCells]) (by omega) ?_
  (try simp only[Nr,Nl,Nat.reduceAdd,Nat.reduceMul,Int.reduceToNat])
  refine tr_fold (cmC c k F X) () ?_; (try simp only[Nr,Nl,Nat.reduceAdd,Nat.reduceMul,Int.reduceToNat])
  have J := ct_cwrite c k F X rc ok (List.replicate (sizeR rc.kind) 0) true (some ⟨b1,0,none⟩) (sizeR rc.kind) (by simp)
  rw [List.length_replicate] at J
  refine Tr.xCall (J) ?_; rintro _ h ⟨rfl,o⟩ <;> (refine (?_ : Tr _ _ _ _) o; (try simp only[Nr,Nl,Nat.reduceAdd,Nat.reduceMul,Int.reduceToNat]); (repeat' first|refine Gu ?_|(with_reducible first|refine Gn fun b h=>?_|apply Gx|apply Gy|rintro px rfl|refine fun(h:H)=>?_|intro hb)|refine Gs ?_|refine Gt ?_|exact Gz rfl|fail))
  refine Tr.some fun o=>?_
  exact ⟨rfl,o.sub⟩
theorem ct_cwrite0 (c k : Nat) (F : Fr) (X : CX) (rc : RecS) (ok : FrOk F) : Ct CALL F_commons_Commons_write [P0 c,.agg ⟨recL rc⟩,.slice none 0 0,.bool false] [cmC c k F X] fun v own=>v = .bool false ∧ own [cmC c k F X] := by
 intro h r o
 have o1 : Own h (slC false Y_uint8 1 none 0 0 (byteCells []) :: cmC c k F X :: r) := o.slNil false Y_uint8 (by omega)
 obtain ⟨v,h',e,rfl,o2⟩ := ct_cwrite c k F X rc ok [] false none 0 (by simp) h r (o1.perm (.swap _ _ _))
 rw [wrX_no] at e o2
 exact ⟨_,h',e,rfl,o2.sub⟩
theorem ct_nproc (i : Int) : Ct CALL F_commons_proc [int i] [] fun v own=>v = .agg ⟨recL ⟨1,i⟩⟩ ∧ own [] := by
 refine Ct.of k_commons_proc rfl fun h r=>Tr.eq (e_commons_proc ..) ?_; (try simp only[Nr,Nl,Nat.reduceAdd,Nat.reduceMul,Int.reduceToNat])
 (repeat' first|refine Gu ?_|(with_reducible first|refine Gn fun b h=>?_|apply Gx|apply Gy|rintro px rfl|refine fun(h:H)=>?_|intro hb)|refine Gs ?_|refine Gt ?_|exact Gz rfl|fail)
 refine Tr.some fun o=>?_
 exact ⟨rfl,o.sub⟩
theorem ct_cProc (c k : Nat) (F : Fr) (X : CX) (ok : FrOk F) (i : Int) : Ct CALL F_commons_Commons_Proc [P0 c,int i] [cmC c k F X] fun v own=>v = .tuple ⟨[.agg ⟨procL (procX X i).1.1⟩,int (procX X i).1.2]⟩ ∧ own [cmC c k F (procX X i).2] := by
 refine Ct.of k_commons_Commons_Proc rfl fun h r=>Tr.eq (e_commons_Commons_Proc ..) ?_; (try simp only[Nr,Nl,Nat.reduceAdd,Nat.reduceMul,Int.reduceToNat])
 (repeat' first|refine Gu ?_|(with_reducible first|refine Gn fun b h=>?_|apply Gx|apply Gy|rintro px rfl|refine fun(h:H)=>?_|intro hb)|refine Gs ?_|refine Gt ?_|exact Gz rfl|fail)
 refine Tr.xCall (ct_nproc i) ?_; rintro _ h ⟨rfl,o⟩ <;> (refine (?_ : Tr _ _ _ _) o; (try simp only[Nr,Nl,Nat.reduceAdd,Nat.reduceMul,Int.reduceToNat]); (repeat' first|refine Gu ?_|(with_reducible first|refine Gn fun b h=>?_|apply Gx|apply Gy|rintro px rfl|refine fun(h:H)=>?_|intro hb)|refine Gs ?_|refine Gt ?_|exact Gz rfl|fail))
 refine Tr.xCall (ct_recS c k F X ⟨1,i⟩ ok rfl) ?_; rintro _ h ⟨rfl,o⟩ <;> (refine (?_ : Tr _ _ _ _) o; (try simp only[Nr,Nl,Nat.reduceAdd,Nat.reduceMul,Int.reduceToNat]); (repeat' first|refine Gu ?_|(with_reducible first|refine Gn fun b h=>?_|apply Gx|apply Gy|rintro px rfl|refine fun(h:H)=>?_|intro hb)|refine Gs ?_|refine Gt ?_|exact Gz rfl|fail))
 refine Tr.some fun o=>?_
 exact ⟨rfl,o.sub⟩
theorem ct_cTerm (c k : Nat) (F : Fr) (X : CX) (ok : FrOk F) : Ct CALL F_commons_Commons_Term [P0 c] [cmC c k F X] fun v own=>v = .tuple ⟨[.agg ⟨pipeL (termX X).1.1⟩,int (termX X).1.2]⟩ ∧ own [cmC c k F (termX X).2] := by
 refine Ct.of k_commons_Commons_Term rfl fun h r=>Tr.eq (e_commons_Commons_Term ..) ?_; (try simp only[Nr,Nl,Nat.reduceAdd,Nat.reduceMul,Int.reduceToNat])
 (repeat' first|refine Gu ?_|(with_reducible first|refine Gn fun b h=>?_|apply Gx|apply Gy|rintro px rfl|refine fun(h:H)=>?_|intro hb)|refine Gs ?_|refine Gt ?_|exact Gz rfl|fail)
 refine Tr.xCall (ct_recP c k F X ⟨4,0⟩ ok rfl) ?_; rintro _ h ⟨rfl,o⟩ <;> (refine (?_ : Tr _ _ _ _) o; (try simp only[Nr,Nl,Nat.reduceAdd,Nat.reduceMul,Int.reduceToNat]); (repeat' first|refine Gu ?_|(with_reducible first|refine Gn fun b h=>?_|apply Gx|apply Gy|rintro px rfl|refine fun(h:H)=>?_|intro hb)|refine Gs ?_|refine Gt ?_|exact Gz rfl|fail))
 refine Tr.some fun o=>?_
 exact ⟨rfl,o.sub⟩
theorem ct_cFront (c k : Nat) (F : Fr) (X : CX) (ok : FrOk F) : Ct CALL F_commons_Commons_Front [P0 c] [cmC c k F X] fun v own=>v = .tuple ⟨[int (frontX X).1.1,.bool ((frontX X).1.2 == 1)]⟩ ∧ own [cmC c k F (frontX X).2] := by
 refine Ct.of k_commons_Commons_Front rfl fun h r=>Tr.eq (e_commons_Commons_Front ..) ?_; (try simp only[Nr,Nl,Nat.reduceAdd,Nat.reduceMul,Int.reduceToNat])
 (repeat' first|refine Gu ?_|(with_reducible first|refine Gn fun b h=>?_|apply Gx|apply Gy|rintro px rfl|refine fun(h:H)=>?_|intro hb)|refine Gs ?_|refine Gt ?_|exact Gz rfl|fail)
 refine Tr.xCall (ct_recG c k F X ⟨5,0⟩ ok rfl) ?_; rintro _ h ⟨rfl,o⟩ <;> (refine (?_ : Tr _ _ _ _) o; (try simp only[Nr,Nl,Nat.reduceAdd,Nat.reduceMul,Int.reduceToNat]); (repeat' first|refine Gu ?_|(with_reducible first|refine Gn fun b h=>?_|apply Gx|apply Gy|rintro px rfl|refine fun(h:H)=>?_|intro hb)|refine Gs ?_|refine Gt ?_|exact Gz rfl|fail))
 refine Tr.some fun o=>?_
 exact ⟨rfl,o.sub⟩
theorem ct_cSetProc (c k : Nat) (F : Fr) (X : CX) (ok : FrOk F) (i : Int) (p : ProcS) : Ct CALL F_commons_Commons_SetProc [P0 c,int i,.agg ⟨procL p⟩] [cmC c k F X] fun v own=>v = .bool (setProcX X i p).1 ∧ own [cmC c k F (setProcX X i p).2] := by
 refine Ct.of k_commons_Commons_SetProc rfl fun h r=>Tr.eq (e_commons_Commons_SetProc ..) ?_; (try simp only[Nr,Nl,Nat.reduceAdd,Nat.reduceMul,Int.reduceToNat])
 (repeat' first|refine Gu ?_|(with_reducible first|refine Gn fun b h=>?_|apply Gx|apply Gy|rintro px rfl|refine fun(h:H)=>?_|intro hb)|refine Gs ?_|refine Gt ?_|exact Gz rfl|fail)
 refine Tr.xCall (ct_EncodeS p) ?_
 rintro v h (⟨hk,a,rfl,o⟩ | ⟨hk,rfl,o⟩)
 ·refine (?_ : Tr _ _ _ _) o
  (try simp only[Nr,Nl,Nat.reduceAdd,Nat.reduceMul,Int.reduceToNat])
  (repeat' first|refine Gu ?_|(with_reducible first|refine Gn fun b h=>?_|apply Gx|apply Gy|rintro px rfl|refine fun(h:H)=>?_|intro hb)|refine Gs ?_|refine Gt ?_|exact Gz rfl|fail)
  refine Tr.xCall (ct_nproc i) ?_; rintro _ h ⟨rfl,o⟩ <;> (refine (?_ : Tr _ _ _ _) o; (try simp only[Nr,Nl,Nat.reduceAdd,Nat.reduceMul,Int.reduceToNat]); (repeat' first|refine Gu ?_|(with_reducible first|refine Gn fun b h=>?_|apply Gx|apply Gy|rintro px rfl|refine fun(h:H)=>?_|intro hb)|refine Gs ?_|refine Gt ?_|exact Gz rfl|fail))
  have J := ct_cwrite c k F X ⟨1,i⟩ ok (encS p) true a 24 (fun _=>encS_len p)
  rw [encS_len] at J
  refine Tr.xCall (J) ?_; rintro _ h ⟨rfl,o⟩ <;> (refine (?_ : Tr _ _ _ _) o; (try simp only[Nr,Nl,Nat.reduceAdd,Nat.reduceMul,Int.reduceToNat]); (repeat' first|refine Gu ?_|(with_reducible first|refine Gn fun b h=>?_|apply Gx|apply Gy|rintro px rfl|refine fun(h:H)=>?_|intro hb)|refine Gs ?_|refine Gt ?_|exact Gz rfl|fail))
  refine Tr.some fun o=>?_
  unfold setProcX; rw [hk]
  exact ⟨rfl,o.sub⟩
 ·refine (?_ : Tr _ _ _ _) o
  (try simp only[Nr,Nl,Nat.reduceAdd,Nat.reduceMul,Int.reduceToNat])
  (repeat' first|refine Gu ?_|(with_reducible first|refine Gn fun b h=>?_|apply Gx|apply Gy|rintro px rfl|refine fun(h:H)=>?_|intro hb)|refine Gs ?_|refine Gt ?_|exact Gz rfl|fail)
  refine Tr.xCall (ct_nproc i) ?_; rintro _ h ⟨rfl,o⟩ <;> (refine (?_ : Tr _ _ _ _) o; (try simp only[Nr,Nl,Nat.reduceAdd,Nat.reduceMul,Int.reduceToNat]); (repeat' first|refine Gu ?_|(with_reducible first|refine Gn fun b h=>?_|apply Gx|apply Gy|rintro px rfl|refine fun(h:H)=>?_|intro hb)|refine Gs ?_|refine Gt ?_|exact Gz rfl|fail))
  refine Tr.xCall (ct_cwrite0 c k F X ⟨1,i⟩ ok) ?_; rintro _ h ⟨rfl,o⟩ <;> (refine (?_ : Tr _ _ _ _) o; (try simp only[Nr,Nl,Nat.reduceAdd,Nat.reduceMul,Int.reduceToNat]); (repeat' first|refine Gu ?_|(with_reducible first|refine Gn fun b h=>?_|apply Gx|apply Gy|rintro px rfl|refine fun(h:H)=>?_|intro hb)|refine Gs ?_|refine Gt ?_|exact Gz rfl|fail))
  refine Tr.some fun o=>?_
  unfold setProcX; rw [hk,wrX_no]
  exact ⟨rfl,o.sub⟩
theorem ct_cFreeProc (c k : Nat) (F : Fr) (X : CX) (ok : FrOk F) (i : Int) : Ct CALL F_commons_Commons_FreeProc [P0 c,int i] [cmC c k F X] fun v own=>v = .bool (freeX X ⟨1,i⟩).1 ∧ own [cmC c k F (freeX X ⟨1,i⟩).2] := by
 refine Ct.of k_commons_Commons_FreeProc rfl fun h r=>Tr.eq (e_commons_Commons_FreeProc ..) ?_; (try simp only[Nr,Nl,Nat.reduceAdd,Nat.reduceMul,Int.reduceToNat])
 refine Tr.xCall (ct_nproc i) ?_; rintro _ h ⟨rfl,o⟩ <;> (refine (?_ : Tr _ _ _ _) o; (try simp only[Nr,Nl,Nat.reduceAdd,Nat.reduceMul,Int.reduceToNat]); (repeat' first|refine Gu ?_|(with_reducible first|refine Gn fun b h=>?_|apply Gx|apply Gy|rintro px rfl|refine fun(h:H)=>?_|intro hb)|refine Gs ?_|refine Gt ?_|exact Gz rfl|fail))
 refine Tr.xCall (ct_cblank c k F X ⟨1,i⟩ ok) ?_; rintro _ h ⟨rfl,o⟩ <;> (refine (?_ : Tr _ _ _ _) o; (try simp only[Nr,Nl,Nat.reduceAdd,Nat.reduceMul,Int.reduceToNat]); (repeat' first|refine Gu ?_|(with_reducible first|refine Gn fun b h=>?_|apply Gx|apply Gy|rintro px rfl|refine fun(h:H)=>?_|intro hb)|refine Gs ?_|refine Gt ?_|exact Gz rfl|fail))
 refine Tr.some fun o=>?_
 exact ⟨rfl,o.sub⟩
end Go.EQ

set_option maxRecDepth 10000
namespace Go.EQ
open Go Go.NN
def loopX (f : CX → Int → CX) : Nat → Int → CX → CX
 | 0,_,X=>X
 | m + 1,i,X=>loopX f m (i + 1) (f X i)
def lookX3 (X : CX) : CX := (frontX (termX X).2).2
def lookX2 (nc : Nat) (X : CX) : CX := lookX3 (loopX (fun X i=>(pipeX X i).2) (3 + nc) 0 X)
def lookX1 (nc : Nat) (X : CX) : CX := lookX2 nc (loopX (fun X i=>(fileX X i).2) 12 0 X)
def lookN (nc : Nat) (X : CX) : CX := lookX1 nc (loopX (fun X i=>(procX X i).2) 8 0 X)
end Go.EQ
