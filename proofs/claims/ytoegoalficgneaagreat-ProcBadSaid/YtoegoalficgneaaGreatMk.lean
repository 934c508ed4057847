/- A process whose own record is bad is told EIO whatever it asks, and nobody's record is changed by it. -/
import Derived.Test.YtoegoalficgneaaGreatMj
import Derived.Test.YtoegoalficgneaaGreatRows
set_option linter.all false
set_option maxRecDepth 10000
namespace Go.EQ
open Go Go.NN
def Di1 (R:RgS) (e name a n:Int):List UInt8 × Int :=
 if (E1 R e name 1 a n).2=0 then ((R.M.drop (E1 R e name 1 a n).1.toNat).take n.toNat,0) else ([],(E1 R e name 1 a n).2)
theorem Iw3 (g:Nat) (R:RgS) (k:RgOkS R) (e name a n:Int):Ct A3 Az1 [P0 g,int e,int name,int a,int n] [rgC g R] fun v own=>v=.tuple ⟨[.string (bs (Di1 R e name a n).1),int (Di1 R e name a n).2]⟩∧own [rgC g R]:=by
 refine Ct.of Ex8 rfl fun h r=>Tr.eq (Ey3 ..) ?_;refine Je ?_
 refine Yc (G95 g R k e name 1 a n) ?_;rintro _ h ⟨rfl,o⟩<;>(refine Jf o ?_;unhygienic intros)
 simp only [v2]
 (refine Ja ?_;unhygienic intros)
 by_cases h0:(E1 R e name 1 a n).2=0
 ·have e1:Di1 R e name a n=((R.M.drop (E1 R e name 1 a n).1.toNat).take n.toNat,0):=by unfold Di1;rw [if_pos h0]
  obtain ⟨c1,c2,c3⟩:=E26 k (show E1 R e name 1 a n=((E1 R e name 1 a n).1,0) by rw [← h0])
  rw [e1]
  generalize (E1 R e name 1 a n).1=p at c1 c3
  refine Yf (by simpa using h0) ?_
  have hm:=k.mem
  have e2:IntKind.wrap .i64 (p+n)=p+n:=by rw [A8];omega
  refine A9 (rgC g R) fun ⟨q,la,lc,za,zc,s⟩=>?_;refine Je ?_
  (refine Ja ?_;unhygienic intros)
  rw [e2]
  refine Je ?_
  have hoff:(bif decide (p.toNat<R.M.length) then p.toNat else 0)=p.toNat∨(n.toNat=0∧(bif decide (p.toNat<R.M.length) then p.toNat else 0)=0):=by
   by_cases hlt:p.toNat<R.M.length
   ·left;simp [hlt]
   ·right;exact ⟨by omega,by simp [hlt]⟩
  rw [show (p+n).toNat-p.toNat=n.toNat by omega]
  refine Tr.xCellsB (xs:=A0 ((R.M.drop p.toNat).take n.toNat)) ⟨?_,?_⟩ ?_
  ·simp only [Al8];rcases hoff with e|⟨e0,e⟩<;>rw [e]<;>omega
  ·rcases hoff with e|⟨e0,e⟩<;>rw [e]
   ·rw [Br7,Di0]
   ·rw [e0,List.take_zero,List.take_zero];rfl
  (refine Ja ?_;unhygienic intros)
  refine A4 (rgC g R) ⟨q,la,lc,za,zc,s⟩ ?_;refine Je ?_
  refine Ys fun o=>?_
  exact ⟨rfl,o.sub⟩
 ·have e1:Di1 R e name a n=([],(E1 R e name 1 a n).2):=by unfold Di1;rw [if_neg h0]
  refine Yt (by simpa using h0) ?_
  (refine Ja ?_;unhygienic intros)
  refine Ys fun o=>?_
  rw [e1];exact ⟨rfl,o.sub⟩
theorem I30 (w:Nat) (K:RKS) (k:RKOk K) (e:Nat) (he:e<K.B.envs.length) (c:CallS) (h2:c.op=1) (ba:Option Addr) (bc:Nat) :
  Ct A3 Ae6 [P0 w,int e,.agg ⟨Am6 c ba bc⟩] [rkC w K] fun v own=>v=.tuple ⟨[int (Di1 K.R e c.cap c.at_ c.n).2,int 0,.string (bs (Di1 K.R e c.cap c.at_ c.n).1)]⟩∧own [rkC w K]:=by
 refine Ct.of Eh7 rfl fun h r=>Tr.eq (Eg8 ..) ?_;refine Je ?_
 refine Yn fun b1 h=>?_
 refine A9 (rkC w K) fun ⟨⟨fa,fc,ea,ec,sa,sc,ss,ha,hc,hs⟩,q,g,ta,tc,ts⟩=>?_;refine Je ?_
 (refine Ja ?_;unhygienic intros)
 refine Yf (by simp;omega) ?_
 (refine Ja ?_;unhygienic intros)
 rw [h2]
 (refine Jd ?_;unhygienic intros)
 refine Yc (Iw3 g K.R k.R e c.cap c.at_ c.n) ?_;rintro _ h ⟨rfl,o⟩<;>(refine Jf o ?_;unhygienic intros)
 refine D8 (rkC w K) ⟨⟨fa,fc,ea,ec,sa,sc,ss,ha,hc,hs⟩,q,g,ta,tc,ts⟩ [1,1,1,1,1,1,1,1,0,0,0,0] rfl ?_;refine Je ?_
 refine Ys fun o=>?_
 exact ⟨rfl,o.sub⟩
theorem Gr7 (n lo hi:Int) (h:NN.H):A3 Q2 [int n,int lo,int hi] h=some (.bool (decide (n≥lo) && decide (n≤hi)),h) :=
 H79.call rfl ((H71 ..).trans (by cases decide (n≥lo)<;>rfl))
theorem I66 (n:Int) (h:NN.H):A3 Ai0 [int n] h=some (.bool (decide (n≥0) && Q4 .i64 n 65534==0),h) :=
 Gr6.call rfl ((Gv0 ..).trans (by cases decide (n≥0)<;>rfl))
theorem E78 (l:List UInt8) (hl:l.length≤1000):∀ (m i:Nat),i+m=l.length →
  U1 E2 Ac5 Bl7 [(0,.string (bs l)),(3,int i)] [] (.bool ((l.drop i).all (·==0)))
 | 0,i,hi=>by
  obtain rfl:i=l.length:=by omega
  refine U1.of D01 fun h r=>Tr.eq (D85 ..) ?_;refine Je ?_
  refine Yf (by rw [O3];simp) ?_
  rw [List.drop_length]
  refine Ys fun o=>?_
  exact ⟨rfl,rfl⟩
 | m+1,i,hi=>by
  have e1:=wN i
  have ih:=E78 l hl m (i+1) (by omega)
  have hd:l.drop i=l.getD i 0::l.drop (i+1):=by rw [List.drop_eq_getElem_cons (by omega),List.getD_eq_getElem?_getD,List.getElem?_eq_getElem (by omega)];rfl
  rw [hd,List.all_cons]
  generalize hx:l.getD i 0=x at *
  refine U1.of D01 fun h r=>Tr.eq (D85 ..) ?_;refine Je ?_
  refine Yt (by rw [O3];simp;omega) ?_
  rw [e1]
  refine Tr.ck (by rw [O3];omega) ?_
  rw [Int.toNat_natCast,hx]
  by_cases h0:x=0
  ·refine Yf (by rw [h0];rfl) ?_
   rw [h0]
   exact Tr.prun ih fun o=>⟨rfl,rfl⟩
  ·refine Yt (by rw [bne_iff_ne];intro h;exact h0 (UInt8.toNat_inj.1 (by simpa using h))) ?_
   refine Ys fun o=>?_
   exact ⟨by rw [beq_eq_false_iff_ne.2 h0];rfl,rfl⟩
theorem Es2 (l:List UInt8) (hl:l.length≤1000):CtP A3 Ac5 [.string (bs l)] [] (.bool (l.all (·==0))):=by
 have J:=E78 l hl l.length 0 (by omega)
 refine CtP.of D01 rfl fun h r=>Tr.eq (Hg6 ..) ?_;refine Je ?_
 exact Tr.prun J fun o=>⟨rfl,rfl⟩
theorem H95 (f:FileS):Ct A3 Br6 [.agg ⟨A69 f⟩] [] fun v own=>v=.bool (okF f)∧own []:=by
 refine Ct.of G14 rfl fun h r=>Tr.eq (G07 ..) ?_;refine Je ?_
 refine Yn fun b h=>?_
 (refine Jb ?_;unhygienic intros)
 simp only [Gr7]
 (refine Ja ?_;unhygienic intros)
 refine Ys fun o=>?_
 refine ⟨?_,o.sub⟩
 refine congrArg Value.bool ?_
 unfold okF
 rw [Bool.eq_iff_iff]
 simp only [Bool.and_eq_true,Bool.or_eq_true,decide_eq_true_eq,bne_iff_ne,beq_iff_eq]
 omega
theorem Ie8 (p:PipeS):Ct A3 Br0 [.agg ⟨E9 p⟩] [] fun v own=>v=.bool (okP p)∧own []:=by
 refine Ct.of G06 rfl fun h r=>Tr.eq (G12 ..) ?_;refine Je ?_
 refine Yn fun b h=>?_
 (refine Jb ?_;unhygienic intros)
 simp only [Gr7]
 (refine Ja ?_;unhygienic intros)
 refine Ys fun o=>?_
 refine ⟨?_,o.sub⟩
 refine congrArg Value.bool ?_
 unfold okP
 rw [Bool.eq_iff_iff]
 simp only [Bool.and_eq_true,Bool.or_eq_true,decide_eq_true_eq,bne_iff_ne,beq_iff_eq]
theorem H78 (l:List UInt8) (hl:l.length=8):Ct A3 Bs5 [.string (bs l)] [] fun v own=>v=.tuple ⟨[.agg ⟨A69 (J7 l).1⟩,int (J7 l).2]⟩∧own []:=by
 have hb:∀ i,(List.getD l i 0).toNat=byI l i:=fun i=>rfl
 refine Ct.of G61 rfl fun h r=>Tr.eq (Gz8 ..) ?_;refine Je ?_
 refine Yn fun b1 h=>?_
 rw [O3,hl]
 refine Yf rfl ?_
 refine Tr.pcall (Es2 l (by omega)) ?_;refine Je ?_;(refine Ja ?_;unhygienic intros)
 cases hz:l.all (·==0) with
 | true =>
  have e:J7 l=(.zero,0):=by unfold J7;rw [hz];rfl
  refine Yt rfl ?_
  (refine Ja ?_;unhygienic intros)
  refine Ys fun o=>?_
  rw [e];exact ⟨rfl,o.sub⟩
 | false =>
  refine Yf rfl ?_
  (refine Jc ?_;unhygienic intros)
  refine Yn fun b2 h=>?_
  simp only [Ab6]
  refine (?_:Tr _ _ (pAgg ⟨b2,0,none⟩ (A69 (Bj5 l)) _ _) _)
  have e:J7 l=if okF (Bj5 l) && decide (Ag6 (Bj5 l)=l) then (Bj5 l,1) else (.zero,2):=by unfold J7 isF;rw [hz];rfl
  rw [e]
  generalize Bj5 l=f
  (refine Jb ?_;unhygienic intros)
  refine Yc (H95 f) ?_;rintro _ h ⟨rfl,o⟩<;>refine Jh o ?_
  (refine Jb ?_;unhygienic intros)
  cases hk:okF f with
  | false =>
   refine Yb (Yt rfl ?_)
   refine Ys fun o=>(?_:Tr _ _ _ _) o;refine Je ?_
   refine Yt rfl ?_
   (refine Ja ?_;unhygienic intros)
   refine Ys fun o=>?_
   exact ⟨rfl,o.sub⟩
  | true =>
   refine Yb (Yf rfl ?_)
   (refine Jb ?_;unhygienic intros)
   refine Yc (G72 f) ?_;rintro _ h ⟨rfl,o⟩<;>refine Jh o ?_
   (refine Jb ?_;unhygienic intros)
   refine Ys fun o=>(?_:Tr _ _ _ _) o;refine Je ?_
   by_cases he:Ag6 f=l
   ·refine Yf (by rw [he];simp) ?_
    (refine Ja ?_;unhygienic intros)
    refine Ys fun o=>?_
    rw [decide_eq_true he];exact ⟨rfl,o.sub⟩
   ·refine Yt (by rw [Ai9,Ai9,beq_eq_false_iff_ne.2 he];rfl) ?_
    (refine Ja ?_;unhygienic intros)
    refine Ys fun o=>?_
    rw [decide_eq_false he];exact ⟨rfl,o.sub⟩
theorem Is7 (p:PipeS) {j:Nat} (h:j<32) (x:UInt8):B13 (E9 p) (4+j) (.int .u8 x.toNat)=some (E9 ⟨p.head,p.count,p.readers,p.writers,p.data.set j x,by rw [List.length_set];exact p.len⟩):=by
 have e:Nat.blt (4+j) (E9 p).length=true:=by rw [Ai7 p.len];exact Nat.ble_eq_true_of_le (by omega)
 unfold B13
 rw [e,show 4+j=j+4 by omega]
 show some ((E9 p).set (j+4) _)=_
 simp only [E9,List.set_cons_succ,A0,List.map_set]
abbrev pfx (l:List UInt8) (i:Nat):List UInt8:=(l.drop 8).take i++List.replicate (32-i) 0
theorem Br4 (l:List UInt8) (hl:l.length=40) (i:Nat) (h:i≤32):(pfx l i).length=32:=by simp [hl];omega
theorem I34 (l:List UInt8) (hl:l.length=40) (i:Nat) (h:i<32):(pfx l i).set i (l.getD (8+i) 0)=pfx l (i+1):=by
 refine List.ext_getElem? fun j=>?_
 rw [List.getElem?_set]
 have e1:((l.drop 8).take i).length=i:=by simp [hl];omega
 have e2:((l.drop 8).take (i+1)).length=i+1:=by simp [hl];omega
 by_cases hj:i=j
 ·subst hj
  rw [if_pos rfl,if_pos (by rw [Br4 l hl i (by omega)];omega),List.getElem?_append_left (by omega),List.getElem?_take,if_pos (by omega),List.getElem?_drop,List.getD_eq_getElem?_getD,List.getElem?_eq_getElem (by omega)];rfl
 ·rw [if_neg hj]
  by_cases h2:j<i
  ·rw [List.getElem?_append_left (by omega),List.getElem?_append_left (by omega),List.getElem?_take,List.getElem?_take,if_pos h2,if_pos (by omega)]
  ·rw [List.getElem?_append_right (by omega),List.getElem?_append_right (by omega),e1,e2,List.getElem?_replicate,List.getElem?_replicate]
   by_cases h3:j<32
   ·rw [if_pos (by omega),if_pos (by omega)]
   ·rw [if_neg (by omega),if_neg (by omega)]
theorem I25 (l:List UInt8) (hl:l.length=40):pfx l 32=Dr6 (l.drop 8):=by
 rw [D23 (by simp [hl])];unfold pfx;rw [show 32-32=0 from rfl,List.replicate_zero,List.append_nil];exact List.take_of_length_le (by simp [hl])
theorem Ev6 (l:List UInt8) (hl:l.length=40) (b1 b2:Nat) (hz:l.all (·==0)=false):∀ (m i:Nat) (hi:i+m=32),
  CtJ E2 Ad5 A65 [(0,.string (bs l)),(2,P0 b1),(4,P0 b2),(5,int i)] [pt b1 (.cells E5 false (E9 .zero)),pt b2 (.cells E5 false (E9 ⟨byI l 1,byI l 2,byI l 3,byI l 4,pfx l i,Br4 l hl i (by omega)⟩))] fun v own=>v=.tuple ⟨[.agg ⟨E9 (D7 l).1⟩,int (D7 l).2]⟩∧own []
 | 0,i,hi=>by
  obtain rfl:i=32:=by omega
  have e:D7 l=if okP (An7 l) && decide (D3 (An7 l)=l) then (An7 l,1) else (.zero,2):=by unfold D7 isP;rw [hz];rfl
  have e2:(⟨byI l 1,byI l 2,byI l 3,byI l 4,pfx l 32,Br4 l hl 32 (by omega)⟩:PipeS)=An7 l:=by unfold An7;simp only [I25 l hl]
  rw [e,e2]
  have hq:(E9 (An7 l)).length=36:=Ai7 (An7 l).len
  generalize An7 l=f at *
  refine CtJ.of Dh3 fun h r=>Tr.eq (Dq5 ..) ?_;refine Je ?_
  refine Yf rfl ?_
  (refine Jb ?_;unhygienic intros)
  refine Yc (Ie8 f) ?_;rintro _ h ⟨rfl,o⟩<;>refine Jh o ?_
  (refine Jb ?_;unhygienic intros)
  cases hk:okP f with
  | false =>
   refine Yb (Yt rfl ?_)
   refine Ys fun o=>(?_:Tr _ _ _ _) o;refine Je ?_
   refine Yt rfl ?_
   (refine Ja ?_;unhygienic intros)
   refine Ys fun o=>?_
   exact ⟨rfl,o.sub⟩
  | true =>
   refine Yb (Yf rfl ?_)
   (refine Jb ?_;unhygienic intros)
   refine Yc (D88 f) ?_;rintro _ h ⟨rfl,o⟩<;>refine Jh o ?_
   (refine Jb ?_;unhygienic intros)
   refine Ys fun o=>(?_:Tr _ _ _ _) o;refine Je ?_
   by_cases he:D3 f=l
   ·refine Yf (by rw [he];simp) ?_
    (refine Ja ?_;unhygienic intros)
    refine Gs (fun h=>?_) (by exact A16 (Ai7 PipeS.zero.len) hq (G90 f))
    (refine Ja ?_;unhygienic intros)
    refine Ys fun o=>?_
    rw [decide_eq_true he];exact ⟨rfl,o.sub⟩
   ·refine Yt (by rw [Ai9,Ai9,beq_eq_false_iff_ne.2 he];rfl) ?_
    (refine Ja ?_;unhygienic intros)
    refine Ys fun o=>?_
    rw [decide_eq_false he];exact ⟨rfl,o.sub⟩
 | m+1,i,hi=>by
  have e1:=wN i
  have e2:IntKind.wrap .i64 (8+(i:Int))=((8+i:Nat):Int):=by rw [A8];omega
  have ih:=Ev6 l hl b1 b2 hz m (i+1) (by omega)
  refine CtJ.of Dh3 fun h r=>Tr.eq (Dq5 ..) ?_;refine Je ?_
  refine Yt (by simp;omega) ?_
  rw [e1,e2,O3,hl]
  refine Tr.ck (by omega) ?_
  have hs:=Is7 ⟨byI l 1,byI l 2,byI l 3,byI l 4,pfx l i,Br4 l hl i (by omega)⟩ (j:=i) (by omega) (l.getD (8+i) 0)
  have hp:=I34 l hl i (by omega)
  have hs2:B13 (E9 ⟨byI l 1,byI l 2,byI l 3,byI l 4,pfx l i,Br4 l hl i (by omega)⟩) (4+i) (.int .u8 (l.getD (8+i) 0).toNat)=some (E9 ⟨byI l 1,byI l 2,byI l 3,byI l 4,pfx l (i+1),Br4 l hl (i+1) (by omega)⟩):=by rw [hs];simp only [hp]
  clear hs hp
  generalize (⟨byI l 1,byI l 2,byI l 3,byI l 4,pfx l i,Br4 l hl i (by omega)⟩:PipeS)=p0 at *
  generalize (⟨byI l 1,byI l 2,byI l 3,byI l 4,pfx l (i+1),Br4 l hl (i+1) (by omega)⟩:PipeS)=p1 at *
  (refine Jb ?_;unhygienic intros)
  exact Yr ih fun v h q=>q
theorem H64 (l:List UInt8) (hl:l.length=40):Ct A3 Ad5 [.string (bs l)] [] fun v own=>v=.tuple ⟨[.agg ⟨E9 (D7 l).1⟩,int (D7 l).2]⟩∧own []:=by
 refine Ct.of Dh3 rfl fun h r=>Tr.eq (G03 ..) ?_;refine Je ?_
 refine Yn fun b1 h=>?_
 rw [O3,hl]
 refine Yf rfl ?_
 refine Tr.pcall (Es2 l (by omega)) ?_;refine Je ?_;(refine Ja ?_;unhygienic intros)
 cases hz:l.all (·==0) with
 | true =>
  have e:D7 l=(.zero,0):=by unfold D7;rw [hz];rfl
  refine Yt rfl ?_
  (refine Ja ?_;unhygienic intros)
  refine Ys fun o=>?_
  rw [e];exact ⟨rfl,o.sub⟩
 | false =>
  have J:=fun b2=>Ev6 l hl b1 b2 hz 32 0 rfl
  refine Yf rfl ?_
  (refine Jc ?_;unhygienic intros)
  refine Yn fun b2 h=>?_
  simp only [Ab6]
  (refine Jb ?_;unhygienic intros)
  refine (?_:Tr (pt b2 (.cells E5 false (E9 ⟨byI l 1,byI l 2,byI l 3,byI l 4,pfx l 0,Br4 l hl 0 (by omega)⟩))::pt b1 (.cells E5 false (E9 .zero))::_) _ _ _)
  refine H7 [1,0] 0 rfl rfl ?_
  exact Yr (J b2) fun v h q=>q
theorem I04 (a b:Int):BitVec.ofInt 64 (Dy7 .i64 a b)=BitVec.ofInt 64 a ||| BitVec.ofInt 64 b:=by
 unfold Dy7;rw [G55];exact Hk1 _
theorem bA0 (a b:Int):B4 .i64 a b=0↔BitVec.ofInt 64 a &&& BitVec.ofInt 64 b=0#64 :=
 ⟨fun h=>by rw [← Gm7,h];rfl,Dz4⟩
theorem Je9 (a b c w:BitVec 64):(a ||| b ||| c) &&& w=0#64↔a &&& w=0#64∧b &&& w=0#64∧c &&& w=0#64:=by
 constructor
 ·intro h
  have hb:∀ i,((a.getLsbD i || b.getLsbD i || c.getLsbD i) && w.getLsbD i)=false:=fun i=>by
   have:=congrArg (·.getLsbD i) h
   simpa only [BitVec.getLsbD_and,BitVec.getLsbD_or,BitVec.getLsbD_zero] using this
  refine ⟨?_,?_,?_⟩<;>(apply BitVec.eq_of_getLsbD_eq;intro i hi;have:=hb i;simp only [BitVec.getLsbD_and,BitVec.getLsbD_zero];revert this;cases a.getLsbD i<;>cases b.getLsbD i<;>cases c.getLsbD i<;>cases w.getLsbD i<;>simp)
 ·rintro ⟨h1,h2,h3⟩
  apply BitVec.eq_of_getLsbD_eq;intro i hi
  have g1:=congrArg (·.getLsbD i) h1
  have g2:=congrArg (·.getLsbD i) h2
  have g3:=congrArg (·.getLsbD i) h3
  simp only [BitVec.getLsbD_and,BitVec.getLsbD_zero] at g1 g2 g3
  simp only [BitVec.getLsbD_and,BitVec.getLsbD_or,BitVec.getLsbD_zero]
  revert g1 g2 g3;cases a.getLsbD i<;>cases b.getLsbD i<;>cases c.getLsbD i<;>cases w.getLsbD i<;>simp
theorem bO3 (a b c w:Int):B4 .i64 (Dy7 .i64 (Dy7 .i64 a b) c) w=0↔B4 .i64 a w=0∧B4 .i64 b w=0∧B4 .i64 c w=0:=by
 rw [bA0,bA0,bA0,bA0,I04,I04];exact Je9 ..
theorem bAz (a:Int):B4 .i64 a 0=0:=Dz4 (by simp)
def Dy6 (p:ProcS):Bool :=
 !(decide (p.state<1) || decide (p.state>3) || decide (p.parent<0) || decide (p.parent>8) || decide (p.group<0) || decide (p.group≥8) || decide (p.code<0) || decide (p.code>255)) &&
 !(!Ap8 p.pending 0 || !Ap8 p.mask 16896 || !Ap8 p.ignored 16896 || !Ap8 p.caught 16896 || B4 .i64 p.ignored p.caught != 0)
def Dl5 (p:ProcS) (s:Bool) (l:List Int):Bool :=
 !(l.any fun f=>decide (f<0) || decide (f>12)) && if p.state=2 then !(s || l.any (· != 0)) && p.pending==0 else p.code==0
theorem Hh7:∀ (l:List Int),l.any (· != 0)=false↔l=List.replicate l.length 0
 | []=>by simp
 | x::l=>by
  have:=Hh7 l
  rw [List.any_cons,Bool.or_eq_false_iff,this,List.length_cons,List.replicate_succ]
  simp
theorem In1 (p:ProcS):okS p=(Dy6 p && Dl5 p false p.fds):=by
 have h8:(p.fds.any (· != 0)=false)↔p.fds=Gc9:=by
  have:=Hh7 p.fds;rw [p.len] at this;exact this
 unfold okS Dy6 Dl5
 rw [Bool.and_assoc]
 congr 2
 congr 1
 by_cases h:p.state=2
 ·rw [if_pos h,if_pos h,Bool.false_or,Bool.and_comm]
  congr 1
  rw [Bool.eq_iff_iff,decide_eq_true_iff,Bool.not_eq_true',h8]
 ·rw [if_neg h,if_neg h]
theorem Ex4 (b:Nat) (p:ProcS):∀ (m i:Nat) (s:Bool),i+m=8 →
  CtJ E2 Ad6 A67 [(1,P0 b),(3,.bool s),(4,int i)] [pt b (.cells B1 false (B6 p))] fun v own=>v=.bool (Dl5 p s (p.fds.drop i))∧own []
 | 0,i,s,hi=>by
  obtain rfl:i=8:=by omega
  have hl:=p.len
  have e:Dl5 p s (p.fds.drop 8)=if p.state=2 then !s && p.pending==0 else p.code==0:=by
   rw [List.drop_eq_nil_of_le (by omega)];unfold Dl5;simp
  rw [e]
  refine CtJ.of Dg6 fun h r=>Tr.eq (Dq6 ..) ?_;refine Je ?_
  refine Yf (by simp) ?_
  (refine Jb ?_;unhygienic intros)
  by_cases h2:p.state=2
  ·rw [if_pos h2]
   refine Yt (by rw [beq_iff_eq];exact h2) ?_
   (refine Ja ?_;unhygienic intros)
   refine Ys fun o=>?_
   exact ⟨rfl,o.sub⟩
  ·rw [if_neg h2]
   refine Yf (by rw [beq_eq_false_iff_ne];exact h2) ?_
   (refine Ja ?_;unhygienic intros)
   refine Ys fun o=>?_
   exact ⟨rfl,o.sub⟩
 | m+1,i,s,hi=>by
  have hl:=p.len
  have e1:=wN i
  have hd:p.fds.drop i=p.fds.getD i 0::p.fds.drop (i+1):=by rw [List.drop_eq_getElem_cons (by omega),List.getD_eq_getElem?_getD,List.getElem?_eq_getElem (by omega)];rfl
  have hx:(B6 p)[8+i]?=some (int (p.fds.getD i 0)):=by
   have h1:(p.fds.map int)[i]?=some (int (p.fds.getD i 0)):=by rw [List.getElem?_map,List.getD_eq_getElem?_getD,List.getElem?_eq_getElem (by omega)];rfl
   rw [show 8+i=i+8 by omega];exact h1
  have ih:=fun s=>Ex4 b p m (i+1) s (by omega)
  have ht:Dl5 p s (p.fds.drop i)=if p.fds.getD i 0<0∨p.fds.getD i 0>12 then false else Dl5 p (s || p.fds.getD i 0 != 0) (p.fds.drop (i+1)):=by
   rw [hd]
   generalize p.fds.getD i 0=x
   generalize p.fds.drop (i+1)=l
   unfold Dl5
   rw [List.any_cons,List.any_cons]
   by_cases h:x<0∨x>12
   ·rw [if_pos h,show (decide (x<0) || decide (x>12))=true by simpa using h];rfl
   ·rw [if_neg h,show (decide (x<0) || decide (x>12))=false by simpa using h,Bool.false_or,Bool.or_assoc]
  rw [ht]
  generalize p.fds.getD i 0=x at *
  refine CtJ.of Dg6 fun h r=>Tr.eq (Dq6 ..) ?_;refine Je ?_
  refine Yt (by simp;omega) ?_
  rw [e1]
  refine Tr.ck (by omega) ?_
  simp only [Gr7]
  (refine Jb ?_;unhygienic intros;repeat(refine Gw ?_;rintro px rfl;refine Jb ?_;unhygienic intros))
  by_cases h:x<0∨x>12
  ·rw [if_pos h]
   refine Yt (by rw [Bool.not_eq_true',Bool.and_eq_false_iff,decide_eq_false_iff_not,decide_eq_false_iff_not];omega) ?_
   refine Ys fun o=>?_
   exact ⟨rfl,o.sub⟩
  ·rw [if_neg h]
   refine Yf (by rw [Bool.not_eq_false',Bool.and_eq_true,decide_eq_true_iff,decide_eq_true_iff];omega) ?_
   refine Tr.orG (c:=x != 0) (fun hb=>?_) ?_
   ·refine Tr.ck (by omega) ?_
    exact Jy
   exact Yr (ih (s || x != 0)) fun v h q=>q
theorem Ie6 (p:ProcS):Dy6 p=true↔((1≤p.state∧p.state≤3)∧(0≤p.parent∧p.parent≤8)∧(0≤p.group∧p.group≤7)∧(0≤p.code∧p.code≤255)) ∧
  Q4 .i64 p.pending 65534=0∧Q4 .i64 p.mask 65534=0∧Q4 .i64 p.ignored 65534=0∧Q4 .i64 p.caught 65534=0∧(B4 .i64 p.mask 16896=0∧B4 .i64 p.ignored 16896=0∧B4 .i64 p.caught 16896=0)∧B4 .i64 p.ignored p.caught=0:=by
 unfold Dy6 Ap8
 rw [bAz]
 simp only [Bool.and_eq_true,Bool.not_eq_true',Bool.or_eq_false_iff,Bool.not_eq_false',decide_eq_false_iff_not,bne_eq_false_iff_eq,beq_iff_eq]
 constructor
 ·rintro ⟨h1,h2⟩
  exact ⟨by omega,by simp_all⟩
 ·rintro ⟨h1,h2⟩
  exact ⟨by omega,by simp_all⟩
structure InW (p:ProcS):Prop where
 a:Q4 .i64 p.pending 65534=0→0≤p.pending∧p.pending≤65535
 b:Q4 .i64 p.mask 65534=0→0≤p.mask∧p.mask≤65535
 c:Q4 .i64 p.ignored 65534=0→0≤p.ignored∧p.ignored≤65535
 d:Q4 .i64 p.caught 65534=0→0≤p.caught∧p.caught≤65535
theorem InS.w {p:ProcS} (k:InS p):InW p:=⟨fun _=>k.a,fun _=>k.b,fun _=>k.c,fun _=>k.d⟩
theorem Ic4 (p:ProcS) (hin:InW p):Ct A3 Ad6 [.agg ⟨B6 p⟩] [] fun v own=>v=.bool (okS p)∧own []:=by
 refine Ct.of Dg6 rfl fun h r=>Tr.eq (G35 ..) ?_;refine Je ?_
 refine Yn fun b h=>?_
 (refine Jb ?_;unhygienic intros)
 simp only [Gr7,I66]
 (refine Ja ?_;unhygienic intros)
 have J:=Ex4 b p 8 0 false rfl
 have hr:=Ie6 p
 rw [List.drop_zero] at J
 rw [In1]
 by_cases hE:(1≤p.state∧p.state≤3)∧(0≤p.parent∧p.parent≤8)∧(0≤p.group∧p.group≤7)∧(0≤p.code∧p.code≤255)
 case neg =>
  refine Yt ?_ ?_
  ·simp only [Bool.or_eq_true,Bool.not_eq_true',Bool.and_eq_false_iff,decide_eq_false_iff_not];omega
  refine Ys fun o=>?_
  rw [show Dy6 p=false by rw [← Bool.not_eq_true,hr];exact fun h=>hE h.1]
  exact ⟨rfl,o.sub⟩
 refine Yf ?_ ?_
 ·simp only [Bool.or_eq_false_iff,Bool.not_eq_false',Bool.and_eq_true,decide_eq_true_iff];omega
 (refine Ja ?_;unhygienic intros)
 by_cases hF:Q4 .i64 p.pending 65534=0∧Q4 .i64 p.mask 65534=0∧Q4 .i64 p.ignored 65534=0∧Q4 .i64 p.caught 65534=0∧(B4 .i64 p.mask 16896=0∧B4 .i64 p.ignored 16896=0∧B4 .i64 p.caught 16896=0)∧B4 .i64 p.ignored p.caught=0
 case neg =>
  refine Yt ?_ ?_
  ·simp only [Bool.or_eq_true,Bool.not_eq_true',Bool.and_eq_false_iff,decide_eq_false_iff_not,bne_iff_ne,beq_eq_false_iff_ne,ne_eq,bO3]
   by_cases a1:Q4 .i64 p.pending 65534=0
   case neg=>simp [a1]
   by_cases a2:Q4 .i64 p.mask 65534=0
   case neg=>simp [a2]
   by_cases a3:Q4 .i64 p.ignored 65534=0
   case neg=>simp [a3]
   by_cases a4:Q4 .i64 p.caught 65534=0
   case neg=>simp [a4]
   by_cases a6:B4 .i64 p.ignored p.caught=0
   case neg=>simp [a6]
   exact .inl (.inr fun a5=>hF ⟨a1,a2,a3,a4,a5,a6⟩)
  refine Ys fun o=>?_
  rw [show Dy6 p=false by rw [← Bool.not_eq_true,hr];exact fun h=>hF h.2]
  exact ⟨rfl,o.sub⟩
 refine Yf ?_ ?_
 ·simp only [Bool.or_eq_false_iff,Bool.not_eq_false',Bool.and_eq_true,decide_eq_true_iff,bne_eq_false_iff_eq,beq_iff_eq,bO3]
  obtain ⟨a1,a2,a3,a4,a5,a6⟩:=hF
  exact ⟨⟨⟨⟨⟨⟨(hin.a a1).1,a1⟩,⟨(hin.b a2).1,a2⟩⟩,⟨(hin.c a3).1,a3⟩⟩,⟨(hin.d a4).1,a4⟩⟩,a5⟩,a6⟩
 rw [show Dy6 p=true from hr.2 ⟨hE,hF⟩,Bool.true_and]
 exact Yr J fun v h q=>q
def Dw7 (l:List UInt8) (i:Nat):List Int:=(List.range 4).map fun j=>if j<i then two l (4+2*j) else 0
def Do1 (l:List UInt8) (i:Nat):List Int:=(List.range 8).map fun j=>if j<i then byI l (12+j) else 0
theorem Bn8 (l:List UInt8) (i:Nat):(Do1 l i).length=8:=by simp [Do1]
theorem Iw6 (l:List UInt8):∀ i,i<4→(Dw7 l i).set i (two l (4+2*i))=Dw7 l (i+1)
 | 0,_=>rfl
 | 1,_=>rfl
 | 2,_=>rfl
 | 3,_=>rfl
theorem Ix0 (l:List UInt8):∀ i,i<8→(Do1 l i).set i (byI l (12+i))=Do1 l (i+1)
 | 0,_=>rfl
 | 1,_=>rfl
 | 2,_=>rfl
 | 3,_=>rfl
 | 4,_=>rfl
 | 5,_=>rfl
 | 6,_=>rfl
 | 7,_=>rfl
theorem I20 (l:List UInt8):InS (An8 l):=by
 have h:∀ j,0≤two l j∧two l j≤65535:=fun j=>by
  have h1:=(l.getD j 0).toNat_lt
  have h2:=(l.getD (j+1) 0).toNat_lt
  unfold two byI;omega
 exact ⟨h 4,h 6,h 8,h 10⟩
theorem Ew1 (l:List UInt8) (hl:l.length=24) (b1 b2:Nat) (hz:l.all (·==0)=false):∀ (m i:Nat),i+m=8 →
  CtJ E2 O5 A68 [(0,.string (bs l)),(2,P0 b1),(6,P0 b2),(7,int i)] [pt b1 (.cells B1 false (B6 .zero)),pt b2 (.cells B1 false (B6 ⟨byI l 0,byI l 1,byI l 2,byI l 3,two l 4,two l 6,two l 8,two l 10,Do1 l i,Bn8 l i⟩))] fun v own=>v=.tuple ⟨[.agg ⟨B6 (H2 l).1⟩,int (H2 l).2]⟩∧own []
 | 0,i,hi=>by
  obtain rfl:i=8:=by omega
  have e:H2 l=if okS (An8 l) && decide (M6 (An8 l)=l) then (An8 l,1) else (.zero,2):=by unfold H2 isS;rw [hz];rfl
  have e2:(⟨byI l 0,byI l 1,byI l 2,byI l 3,two l 4,two l 6,two l 8,two l 10,Do1 l 8,Bn8 l 8⟩:ProcS)=An8 l:=rfl
  have hin:=I20 l
  rw [e,e2]
  have hq:=Av7 (An8 l)
  generalize An8 l=f at *
  refine CtJ.of Bb2 fun h r=>Tr.eq (Dp7 ..) ?_;refine Je ?_
  refine Yf rfl ?_
  (refine Jb ?_;unhygienic intros)
  refine Yc (Ic4 f hin.w) ?_;rintro _ h ⟨rfl,o⟩<;>refine Jh o ?_
  (refine Jb ?_;unhygienic intros)
  cases hk:okS f with
  | false =>
   refine Yb (Yt rfl ?_)
   refine Ys fun o=>(?_:Tr _ _ _ _) o;refine Je ?_
   refine Yt rfl ?_
   (refine Ja ?_;unhygienic intros)
   refine Ys fun o=>?_
   exact ⟨rfl,o.sub⟩
  | true =>
   refine Yb (Yf rfl ?_)
   (refine Jb ?_;unhygienic intros)
   refine Yc (E15 f) ?_;rintro _ h ⟨rfl,o⟩<;>refine Jh o ?_
   rw [H29 hin]
   (refine Jb ?_;unhygienic intros)
   refine Ys fun o=>(?_:Tr _ _ _ _) o;refine Je ?_
   by_cases he:M6 f=l
   ·refine Yf (by rw [he];simp) ?_
    (refine Ja ?_;unhygienic intros)
    refine Gs (fun h=>?_) (by exact A16 (Av7 ProcS.zero) hq (G89 f))
    (refine Ja ?_;unhygienic intros)
    refine Ys fun o=>?_
    rw [decide_eq_true he];exact ⟨rfl,o.sub⟩
   ·refine Yt (by rw [Ai9,Ai9,beq_eq_false_iff_ne.2 he];rfl) ?_
    (refine Ja ?_;unhygienic intros)
    refine Ys fun o=>?_
    rw [decide_eq_false he];exact ⟨rfl,o.sub⟩
 | m+1,i,hi=>by
  have e1:=wN i
  have e2:IntKind.wrap .i64 (12+(i:Int))=((12+i:Nat):Int):=by rw [A8];omega
  have ih:=Ew1 l hl b1 b2 hz m (i+1) (by omega)
  have hs:B13 (B6 ⟨byI l 0,byI l 1,byI l 2,byI l 3,two l 4,two l 6,two l 8,two l 10,Do1 l i,Bn8 l i⟩) (8+i) (int (byI l (12+i)))=some (B6 ⟨byI l 0,byI l 1,byI l 2,byI l 3,two l 4,two l 6,two l 8,two l 10,Do1 l (i+1),Bn8 l (i+1)⟩):=by
   have e:Nat.blt (8+i) (B6 ⟨byI l 0,byI l 1,byI l 2,byI l 3,two l 4,two l 6,two l 8,two l 10,Do1 l i,Bn8 l i⟩).length=true:=by rw [Av7];exact Nat.ble_eq_true_of_le (by omega)
   unfold B13
   rw [e,show 8+i=i+8 by omega]
   show some ((B6 _).set (i+8) _)=_
   have hf:=Ix0 l i (by omega)
   simp only [B6,List.set_cons_succ,← List.map_set,hf]
  generalize (⟨byI l 0,byI l 1,byI l 2,byI l 3,two l 4,two l 6,two l 8,two l 10,Do1 l i,Bn8 l i⟩:ProcS)=p0 at *
  generalize (⟨byI l 0,byI l 1,byI l 2,byI l 3,two l 4,two l 6,two l 8,two l 10,Do1 l (i+1),Bn8 l (i+1)⟩:ProcS)=p1 at *
  refine CtJ.of Bb2 fun h r=>Tr.eq (Dp7 ..) ?_;refine Je ?_
  refine Yt (by simp;omega) ?_
  rw [e1,e2,O3,hl]
  refine Tr.ck (by omega) ?_
  simp only [Ab6]
  (refine Jb ?_;unhygienic intros)
  exact Yr ih fun v h q=>q
theorem Ev9 (l:List UInt8) (hl:l.length=24) (b1 b2:Nat) (hz:l.all (·==0)=false):∀ (m i:Nat),i+m=4 →
  CtJ E2 O5 A79 [(0,.string (bs l)),(2,P0 b1),(4,P0 b2),(5,int i)] [pt b1 (.cells B1 false (B6 .zero)),pt b2 (.cells G11 false ((Dw7 l i).map int))] fun v own=>v=.tuple ⟨[.agg ⟨B6 (H2 l).1⟩,int (H2 l).2]⟩∧own []
 | 0,i,hi=>by
  obtain rfl:i=4:=by omega
  have J:=fun b=>Ew1 l hl b1 b hz 8 0 rfl
  have e:(Dw7 l 4).map int=[int (two l 4),int (two l 6),int (two l 8),int (two l 10)]:=rfl
  rw [e]
  generalize two l 4=t0 at *
  generalize two l 6=t1 at *
  generalize two l 8=t2 at *
  generalize two l 10=t3 at *
  refine CtJ.of Bb2 fun h r=>Tr.eq (Dp8 ..) ?_;refine Je ?_
  refine Yf rfl ?_
  rw [O3,hl]
  simp only [Ab6]
  (refine Jc ?_;unhygienic intros)
  refine Yn fun b3 h=>?_
  (refine Jb ?_;unhygienic intros)
  refine (?_:Tr (pt b3 (.cells B1 false (B6 ⟨byI l 0,byI l 1,byI l 2,byI l 3,t0,t1,t2,t3,Do1 l 0,Bn8 l 0⟩))::_) _ _ _)
  refine H7 [1,0] 1 rfl rfl ?_
  exact Yr (J b3) fun v h q=>q
 | m+1,i,hi=>by
  have e1:=wN i
  have e2:IntKind.wrap .i64 (4+IntKind.wrap .i64 (2*(i:Int)))=((4+2*i:Nat):Int):=by simp only [A8];omega
  have e3:IntKind.wrap .i64 (5+IntKind.wrap .i64 (2*(i:Int)))=((4+2*i+1:Nat):Int):=by simp only [A8];omega
  have ih:=Ev9 l hl b1 b2 hz m (i+1) (by omega)
  have ht:_=two l (4+2*i):=Iq3 (l.getD (4+2*i) 0) (l.getD (4+2*i+1) 0)
  have hs:B13 ((Dw7 l i).map int) i (int (two l (4+2*i)))=some ((Dw7 l (i+1)).map int):=by
   have e:Nat.blt i ((Dw7 l i).map int).length=true:=by simp [Dw7];omega
   unfold B13
   rw [e,← Iw6 l i (by omega),List.map_set];rfl
  generalize (Dw7 l i).map int=c0 at *
  generalize (Dw7 l (i+1)).map int=c1 at *
  refine CtJ.of Bb2 fun h r=>Tr.eq (Dp8 ..) ?_;refine Je ?_
  refine Yt (by simp;omega) ?_
  rw [e1,e2,e3,O3,hl]
  refine Tr.ck (by omega) ?_
  refine Tr.ck (by omega) ?_
  simp only [Int.toNat_natCast]
  rw [ht]
  (refine Jb ?_;unhygienic intros)
  exact Yr ih fun v h q=>q
theorem Id6 (l:List UInt8) (hl:l.length=24):Ct A3 O5 [.string (bs l)] [] fun v own=>v=.tuple ⟨[.agg ⟨B6 (H2 l).1⟩,int (H2 l).2]⟩∧own []:=by
 refine Ct.of Bb2 rfl fun h r=>Tr.eq (G33 ..) ?_;refine Je ?_
 refine Yn fun b1 h=>?_
 rw [O3,hl]
 refine Yf rfl ?_
 refine Tr.pcall (Es2 l (by omega)) ?_;refine Je ?_;(refine Ja ?_;unhygienic intros)
 cases hz:l.all (·==0) with
 | true =>
  have e:H2 l=(.zero,0):=by unfold H2;rw [hz];rfl
  refine Yt rfl ?_
  (refine Ja ?_;unhygienic intros)
  refine Ys fun o=>?_
  rw [e];exact ⟨rfl,o.sub⟩
 | false =>
  have J:=fun b2=>Ev9 l hl b1 b2 hz 4 0 rfl
  refine Yf rfl ?_
  (refine Jc ?_;unhygienic intros)
  refine Yn fun b2 h=>?_
  (refine Jb ?_;unhygienic intros)
  refine (?_:Tr (pt b2 (.cells G11 false ((Dw7 l 0).map int))::pt b1 (.cells B1 false (B6 .zero))::_) _ _ _)
  refine H7 [1,0] 0 rfl rfl ?_
  exact Yr (J b2) fun v h q=>q
theorem Iz6 {α:Type} (r s:RecS) (k:Bool→Option α):A70 PR A6 (G8 r) (G8 s) k=k (decide (r=s)):=by
 have hl:Ak0 PR 8 A6=some [.int .i64,.int .i64]:=by kernel_rfl
 obtain ⟨a,b⟩:=r
 obtain ⟨c,d⟩:=s
 unfold A70
 rw [hl]
 by_cases h1:a=c
 ·by_cases h2:b=d
  ·subst h1;subst h2;simp [H0,eqs,eq1,eqK,ckB]
  ·subst h1;simp [H0,eqs,eq1,eqK,ckB,h2,beq_eq_false_iff_ne.2 h2]
 ·simp [H0,eqs,eq1,eqK,ckB,h1,beq_eq_false_iff_ne.2 h1]
structure RFr where
 K:RKS
 e:Nat
 caps:List Int
 rg:Rg
structure RFrOk (F:RFr):Prop where
 ok:RKOk F.K
 env:F.e<F.K.B.envs.length
 ne:0<F.caps.length
 small:F.caps.length≤40
 len:F.rg.length=F.caps.length
 pl:∀ (j:Nat) (cap:Int) (lo n:Nat),F.caps[j]?=some cap→F.rg[j]?=some (lo,n)→∀ (a m:Nat) (right:Int),right=1∨right=2→a+m≤n→E1 F.K.R F.e cap right a m=(((lo+a:Nat):Int),0)
 dj:RgOk F.rg
 own:∃ lo,F.rg[0]?=some (lo,492)
 brs:∀ (j lo n:Nat),0<j→F.rg[j]?=some (lo,n)→n=40
def RFr.at (F:RFr) (m:List (List UInt8)):RKS:={ F.K with R:={ F.K.R with M:=Ao3 F.K.R.M F.rg m } }
abbrev U0 (r:RecS):Int × Int:=(r.kind,r.index)
abbrev rmF (m w:Nat) (F:RFr) (x:CX):List HP:=[rcC m w F.e F.caps (x.bad.map U0),rkC w (F.at x.m),pu (Fit F.K.R.M.length F.rg x.m)]
def rmC (m w:Nat) (F:RFr) (x:CX):HP:=hex fun _:Unit=>sl (rmF m w F x)
instance {m w:Nat} {F:RFr} {x:CX}:Chk (rmC m w F x) (fun _:Unit=>rmF m w F x):=⟨rfl⟩
def E68 (nc:Nat) (r:RecS):Int × Int × Int × Bool :=
 if r.kind=1 then (0,24*min (max r.index 0) 7,24,decide (0≤r.index∧r.index<8))
 else if r.kind=2 then (0,192+8*min (max r.index 0) 11,8,decide (0≤r.index∧r.index<12))
 else if r.kind=3 then if 4≤r.index∧r.index-3<nc then (r.index-3,0,40,true) else (0,288+40*min (max r.index 0) 3,40,decide (0≤r.index∧r.index<4))
 else if r.kind=4 then (0,448,40,true) else (0,488,4,true)
abbrev I97 (x:Int × Int × Int × Bool):List Value:=[int x.1,int x.2.1,int x.2.2.1,.bool x.2.2.2]
theorem Hu4 {nc:Nat} (hn:0<nc) {r:RecS} (hk:1≤r.kind∧r.kind≤5) (h0:r.kind≤3∨r.index=0) :
  (∃ (j a n:Nat),E3 nc r=some (j,a,n)∧E68 nc r=((j:Int),(a:Int),(n:Int),true))∨(E3 nc r=none∧(E68 nc r).2.2.2=false):=by
 obtain ⟨k,i⟩:=r
 simp only at hk h0
 have hh:k=1∨k=2∨k=3∨k=4∨k=5:=by omega
 unfold E3 E68 I1
 simp only
 rcases hh with rfl|rfl|rfl|rfl|rfl
 ·simp only [if_true]
  by_cases hi:0≤i∧i<8
  ·rw [if_neg (by omega)]
   exact .inl ⟨_,_,_,rfl,by rw [decide_eq_true hi,show 24*min (max i 0) 7=((24*i.toNat:Nat):Int) by omega];rfl⟩
  ·rw [if_pos (by omega)];exact .inr ⟨rfl,decide_eq_false hi⟩
 ·simp only [if_true,show ¬ ((2:Int)=1) by decide,if_false]
  by_cases hi:0≤i∧i<12
  ·rw [if_neg (by omega)]
   exact .inl ⟨_,_,_,rfl,by rw [decide_eq_true hi,show 192+8*min (max i 0) 11=((192+8*i.toNat:Nat):Int) by omega];rfl⟩
  ·rw [if_pos (by omega)];exact .inr ⟨rfl,decide_eq_false hi⟩
 ·simp only [if_true,show ¬ ((3:Int)=1) by decide,show ¬ ((3:Int)=2) by decide,if_false]
  by_cases hi:0≤i∧i<3+nc
  ·rw [if_neg (by omega)]
   by_cases h4:i<4
   ·rw [if_pos h4,if_neg (by omega)]
    exact .inl ⟨_,_,_,rfl,by rw [decide_eq_true (show 0≤i∧i<4 by omega),show 288+40*min (max i 0) 3=((288+40*i.toNat:Nat):Int) by omega];rfl⟩
   ·rw [if_neg h4,if_pos (by omega)]
    exact .inl ⟨_,_,_,rfl,by rw [show i-3=((i.toNat-3:Nat):Int) by omega];rfl⟩
  ·rw [if_pos (by omega)]
   by_cases h4:4≤i∧i-3<nc
   ·omega
   ·rw [if_neg h4];exact .inr ⟨rfl,decide_eq_false (by omega)⟩
 ·obtain rfl:i=0:=by omega
  exact .inl ⟨0,448,40,rfl,rfl⟩
 ·obtain rfl:i=0:=by omega
  exact .inl ⟨0,488,4,rfl,rfl⟩
theorem Im6 (m w:Nat) (e:Int) (caps:List Int) (recs:List (Int × Int)) (hs:caps.length≤40) (r:RecS) (hi:r.kind=3→r.index≤9223372036854775807):Ct A3 Ap0 [P0 m,.agg ⟨G8 r⟩] [rcC m w e caps recs] fun v own =>
  v=.tuple ⟨I97 (E68 caps.length r)⟩∧own [rcC m w e caps recs]:=by
 obtain ⟨k,i⟩:=r
 simp only at hi
 unfold E68
 simp only
 refine Ct.of Ef5 rfl fun h r=>Tr.eq (Eh4 ..) ?_;refine Je ?_
 refine Yn fun b h=>?_
 (refine Jb ?_;unhygienic intros)
 simp only [Ab4,Ab3]
 have e1:IntKind.wrap .i64 (24*min (max i 0) 7)=24*min (max i 0) 7:=by rw [A8];omega
 have e2:IntKind.wrap .i64 (192+IntKind.wrap .i64 (8*min (max i 0) 11))=192+8*min (max i 0) 11:=by simp only [A8];omega
 have e3:IntKind.wrap .i64 (288+IntKind.wrap .i64 (40*min (max i 0) 3))=288+40*min (max i 0) 3:=by simp only [A8];omega
 rw [e1,e2,e3]
 have d:∀ n:Int,(decide (i≥0) && decide (i<n))=decide (0≤i∧i<n):=fun n=>by rw [Bool.decide_and]
 by_cases h1:k=1
 ·rw [if_pos h1]
  refine Yt (by rw [beq_iff_eq];exact h1) ?_
  refine Tr.andG (c:=decide (i<8)) (fun hb=>?_) ?_
  ·exact Jz
  refine Ys fun o=>?_
  exact ⟨by rw [d],o.sub⟩
 rw [if_neg h1]
 refine Yf (by rw [beq_eq_false_iff_ne];exact h1) ?_
 by_cases h2:k=2
 ·rw [if_pos h2]
  refine Yt (by rw [beq_iff_eq];exact h2) ?_
  refine Tr.andG (c:=decide (i<12)) (fun hb=>?_) ?_
  ·exact Jz
  refine Ys fun o=>?_
  exact ⟨by rw [d],o.sub⟩
 rw [if_neg h2]
 refine Yf (by rw [beq_eq_false_iff_ne];exact h2) ?_
 by_cases h3:k=3
 ·rw [if_pos h3]
  refine Yt (by rw [beq_iff_eq];exact h3) ?_
  have hi:=hi h3
  refine A9 (rcC m w e caps recs) fun ⟨a1,c1,a2,c2⟩=>?_;refine Je ?_
  refine Tr.andG (c:=decide (IntKind.wrap .i64 (i-3)<(caps.length:Int))) (fun hb=>?_) ?_
  ·exact Jz
  by_cases h5:4≤i∧i-3<caps.length
  ·rw [if_pos h5]
   have e4:IntKind.wrap .i64 (i-3)=i-3:=by rw [A8];omega
   rw [e4]
   refine Yt (by rw [Bool.and_eq_true,decide_eq_true_iff,decide_eq_true_iff];exact h5) ?_
   refine A4 (rcC m w e caps recs) (a1,c1,a2,c2) ?_;refine Je ?_
   refine Ys fun o=>?_
   exact ⟨rfl,o.sub⟩
  ·rw [if_neg h5]
   refine Yf (by rw [Bool.and_eq_false_iff,decide_eq_false_iff_not,decide_eq_false_iff_not,A8];omega) ?_
   refine Tr.andG (c:=decide (i<4)) (fun hb=>?_) ?_
   ·exact Jz
   refine A4 (rcC m w e caps recs) (a1,c1,a2,c2) ?_;refine Je ?_
   refine Ys fun o=>?_
   exact ⟨by rw [d],o.sub⟩
 rw [if_neg h3]
 refine Yf (by rw [beq_eq_false_iff_ne];exact h3) ?_
 by_cases h4:k=4
 ·rw [if_pos h4]
  refine Yt (by rw [beq_iff_eq];exact h4) ?_
  refine Ys fun o=>?_
  exact ⟨rfl,o.sub⟩
 rw [if_neg h4]
 refine Yf (by rw [beq_eq_false_iff_ne];exact h4) ?_
 refine Ys fun o=>?_
 exact ⟨rfl,o.sub⟩
theorem G22 (recs:List RecS) {i:Nat} {r:RecS} (h:recs[i]?=some r):(((recs.map U0).flatMap brL).drop (i*2)).take 2=G8 r:=by
 have:=A41 (f:=brL) (k:=2) (fun x=>rfl) (l:=recs.map U0) (i:=i) (x:=U0 r) (by rw [List.getElem?_map,h];rfl)
 exact this
theorem Gy7 (m w b:Nat) (e:Int) (caps:List Int) (recs:List RecS) (q:RecS) (hl:recs.length≤1000):∀ (z i:Nat),i+z=recs.length →
  CtJ E2 Q1 An3 [(0,P0 m),(3,P0 b),(5,int i)] [pt b (.cells A6 false (G8 q)),rcC m w e caps (recs.map U0)] fun v own=>v=.bool (decide (q ∈ recs.drop i))∧own [rcC m w e caps (recs.map U0)]
 | 0,i,hi=>by
  obtain rfl:i=recs.length:=by omega
  rw [List.drop_length]
  refine CtJ.of Bk4 fun h r=>Tr.eq (Bw2 ..) ?_;refine Je ?_
  refine A9 (rcC m w e caps (recs.map U0)) fun ⟨a1,c1,a2,c2⟩=>?_;refine Je ?_
  (refine Ja ?_;unhygienic intros)
  refine Yf (by simp) ?_
  refine A4 (rcC m w e caps (recs.map U0)) (a1,c1,a2,c2) ?_;refine Je ?_
  refine Ys fun o=>?_
  exact ⟨by simp,o.sub⟩
 | z+1,i,hi=>by
  have e1:=wN i
  have ih:=Gy7 m w b e caps recs q hl z (i+1) (by omega)
  have hg:recs[i]?=some recs[i]:=List.getElem?_eq_getElem (by omega)
  have hd:recs.drop i=recs[i]::recs.drop (i+1):=List.drop_eq_getElem_cons (by omega)
  have hx:=G22 recs hg
  have hle:((recs.map U0).flatMap brL).length=recs.length*2:=by
   have:=Q7 (f:=brL) (k:=2) (fun x=>rfl) (recs.map U0)
   simpa using this
  rw [hd]
  generalize recs[i]=y at *
  refine CtJ.of Bk4 fun h r=>Tr.eq (Bw2 ..) ?_;refine Je ?_
  refine A9 (rcC m w e caps (recs.map U0)) fun ⟨a1,c1,a2,c2⟩=>?_;refine Je ?_
  (refine Ja ?_;unhygienic intros)
  refine Yt (by simp;omega) ?_
  rw [e1]
  refine Dl9 2 rfl (by simp;omega) fun px e=>?_
  subst e
  (refine Jc ?_;unhygienic intros)
  refine Tr.ck (by simp;omega) ?_
  rw [Int.toNat_natCast]
  refine Tr.xAggS (xs:=G8 y) ⟨by omega,by omega,hx⟩ ?_
  (refine Jb ?_;unhygienic intros)
  rw [Iz6]
  by_cases hy:y=q
  ·rw [decide_eq_true hy]
   refine Yt rfl ?_
   refine H7 [0,0,0,0] 0 rfl rfl ?_
   refine A4 (rcC m w e caps (recs.map U0)) (a1,c1,some px,c2) ?_;refine Je ?_
   refine Ys fun o=>?_
   exact ⟨by rw [hy];simp,o.sub⟩
  ·rw [decide_eq_false hy]
   refine Yf rfl ?_
   refine A4 (rcC m w e caps (recs.map U0)) (a1,c1,some px,c2) ?_;refine Je ?_
   refine H7 [1,0] 0 rfl rfl ?_
   rw [show decide (q ∈ y::recs.drop (i+1))=decide (q ∈ recs.drop (i+1)) by rw [decide_eq_decide,List.mem_cons];exact ⟨fun h=>h.resolve_left fun e=>hy e.symm,.inr⟩]
   exact Yr ih fun v h q=>q
theorem I51 (m w:Nat) (e:Int) (caps:List Int) (recs:List RecS) (q:RecS) (hl:recs.length≤1000):Ct A3 Q1 [P0 m,.agg ⟨G8 q⟩] [rcC m w e caps (recs.map U0)] fun v own=>v=.bool (decide (q ∈ recs))∧own [rcC m w e caps (recs.map U0)]:=by
 have J:=fun b=>Gy7 m w b e caps recs q hl recs.length 0 (by omega)
 refine Ct.of Bk4 rfl fun h r=>Tr.eq (Ey1 ..) ?_;refine Je ?_
 refine Yn fun b h=>?_
 (refine Ja ?_;unhygienic intros)
 exact Yr (J b) fun v h q=>q
theorem Io9 {F:RFr} (k:RFrOk F) {r:RecS} {j a n:Nat} (h:E3 F.caps.length r=some (j,a,n)):∃ lo z,F.rg[j]?=some (lo,z)∧a+n≤z∧j<F.caps.length:=by
 obtain ⟨lo0,h0⟩:=k.own
 have hl:=k.len;have hn:=k.ne
 unfold E3 at h
 split at h;· cases h
 rename_i hi
 split at h
 ·rename_i h1
  have hm:I1 F.caps.length r.kind=8:=by unfold I1;rw [if_pos h1]
  cases h;exact ⟨lo0,492,h0,by omega,hn⟩
 rename_i h1
 split at h
 ·rename_i h2
  have hm:I1 F.caps.length r.kind=12:=by unfold I1;rw [if_neg h1,if_pos h2]
  cases h;exact ⟨lo0,492,h0,by omega,hn⟩
 rename_i h2
 split at h
 ·rename_i h3
  have hm:I1 F.caps.length r.kind=3+F.caps.length:=by unfold I1;rw [if_neg h1,if_neg h2,if_pos h3]
  split at h
  ·cases h;exact ⟨lo0,492,h0,by omega,hn⟩
  ·cases h
   have hlt:r.index.toNat-3<F.rg.length:=by omega
   have hg:=List.getElem?_eq_getElem hlt
   generalize hx:F.rg[r.index.toNat-3]=x at hg
   obtain ⟨lo,z⟩:=x
   have:=k.brs _ lo z (by omega) hg
   exact ⟨lo,z,hg,by omega,by omega⟩
 split at h<;>(cases h;exact ⟨lo0,492,h0,by omega,hn⟩)
theorem RFr.fits {F:RFr} (k:RFrOk F) {m:List (List UInt8)} (f:Fit F.K.R.M.length F.rg m):m.length=F.caps.length:=by rw [f.len,k.len]
theorem RFr.at_ok {F:RFr} (k:RFrOk F) {m:List (List UInt8)} (f:Fit F.K.R.M.length F.rg m):RKOk (F.at m):=by
 have h:=k.ok
 have lp:=B05 f
 exact ⟨⟨h.R.sp,h.R.eq,h.R.few,by show (Ao3 F.K.R.M F.rg m).length≤65536;rw [lp];exact h.R.mem,fun i lo n a b=>by show 0≤lo∧0≤n∧lo+n≤((Ao3 F.K.R.M F.rg m).length:Int);rw [lp];exact h.R.each i lo n a b⟩,h.nm,h.q,h.qe⟩
theorem D72 {F:RFr} (k:RFrOk F) {m:List (List UInt8)} (f:Fit F.K.R.M.length F.rg m) {r:RecS} {j a n:Nat} (h:E3 F.caps.length r=some (j,a,n)) :
  ∃ lo z cap,F.caps[j]?=some cap∧F.rg[j]?=some (lo,z)∧a+n≤z∧m[j]?=some (m.getD j [])∧(m.getD j []).length=z∧lo+z≤F.K.R.M.length∧cap=F.caps.getD j 0:=by
 obtain ⟨lo,z,hr,ha,hj⟩:=Io9 k h
 obtain ⟨h1,x,hx,hl⟩:=f.each j lo z hr
 have e:m.getD j []=x:=by rw [List.getD_eq_getElem?_getD,hx];rfl
 exact ⟨lo,z,F.caps.getD j 0,M7 0 hj,hr,ha,by rw [e];exact hx,by rw [e];exact hl,h1,rfl⟩
theorem Iz1 {F:RFr} (k:RFrOk F) {m:List (List UInt8)} (f:Fit F.K.R.M.length F.rg m) {r:RecS} {j a n:Nat} (h:E3 F.caps.length r=some (j,a,n)) :
  Di1 (F.at m).R F.e (F.caps.getD j 0) (a:Int) (n:Int)=(slice (m.getD j []) a n,0):=by
 obtain ⟨lo,z,cap,hc,hr,ha,hx,hl,hz,rfl⟩:=D72 k f h
 have hp:E1 (F.at m).R F.e (F.caps.getD j 0) 1 (a:Int) (n:Int)=(((lo+a:Nat):Int),0):=k.pl j _ lo z hc hr a n 1 (.inl rfl) ha
 unfold Di1
 rw [hp,if_pos rfl,Int.toNat_natCast,Int.toNat_natCast,← En2 f k.dj hr hx ha];rfl
theorem Fit.setR {F:RFr} (k:RFrOk F) {m:List (List UInt8)} (f:Fit F.K.R.M.length F.rg m) {r:RecS} {j a n:Nat} (h:E3 F.caps.length r=some (j,a,n)) {b:List UInt8} (hb:b.length=n):Fit F.K.R.M.length F.rg (m.set j (B7 (m.getD j []) a b)):=by
 obtain ⟨lo,z,cap,hc,hr,ha,hx,hl,hz,rfl⟩:=D72 k f h
 exact f.set hr (by rw [Q3 (by omega)];exact hl)
structure Rq (q:RecS):Prop where
 a:1≤q.kind∧q.kind≤5
 b:q.kind≤3∨q.index=0
 c:q.kind=3→q.index≤9223372036854775807
theorem D47 (m w:Nat) (F:RFr) (X:CX) (ok:RFrOk F) (q:RecS) (hq:Rq q) (hb:X.bad.length≤1000):Ct A3 U4 [P0 m,.agg ⟨G8 q⟩] [rmC m w F X] fun v own=>v=.tuple ⟨[.string (bs ((rdX X q).getD [])),.bool (rdX X q).isSome]⟩∧own [rmC m w F X]:=by
 refine Ct.of Er2 rfl fun h r=>Tr.eq (Eo6 ..) ?_;refine Je ?_
 refine Yn fun b h=>?_
 refine A9 (rmC m w F X) fun u=>?_;refine Je ?_
 refine L8 2 rfl fun f=>?_
 (refine Ja ?_;unhygienic intros)
 refine Yc (Im6 m w F.e F.caps (X.bad.map U0) ok.small q hq.c) ?_;rintro _ h ⟨rfl,o⟩<;>refine Jh o ?_
 (refine Jb ?_;unhygienic intros)
 rcases Hu4 ok.ne hq.a hq.b with ⟨j,a,n,h1,h2⟩|⟨h1,h2⟩
 ·rw [h2]
  refine Yb (Yf rfl ?_)
  (refine Jb ?_;unhygienic intros)
  refine Yc (I51 m w F.e F.caps X.bad q hb) ?_;rintro _ h ⟨rfl,o⟩<;>refine Jh o ?_
  (refine Jb ?_;unhygienic intros)
  refine Ys fun o=>(?_:Tr _ _ _ _) o;refine Je ?_
  have e:rdX X q=if q ∈ X.bad then none else some (slice (X.m.getD j []) a n):=by unfold rdX;rw [RFr.fits ok f,h1]
  rw [e]
  by_cases hm:q ∈ X.bad
  ·rw [if_pos hm,decide_eq_true hm]
   refine Yt rfl ?_
   refine A4 (rmC m w F X) () ?_;refine Je ?_
   refine Ys fun o=>?_
   exact ⟨rfl,o.sub⟩
  ·rw [if_neg hm,decide_eq_false hm]
   obtain ⟨lo,z,cap,hc,hr,ha,hx,hl,hz,_⟩:=D72 ok f h1
   have hj:j<F.caps.length:=(List.getElem?_eq_some_iff.1 hc).1
   have hcx:(F.caps.map int)[j]?=some (int (F.caps.getD j 0)):=Gd0 hj
   have R:=I30 w (F.at X.m) (RFr.at_ok ok f) F.e ok.env ⟨1,F.caps.getD j 0,a,n,0,0,[]⟩ rfl none 0
   simp only [Iz1 ok f h1] at R
   refine Yf rfl ?_
   refine A9 (rcC m w F.e F.caps (X.bad.map U0)) fun ⟨a1,c1,a2,c2⟩=>?_;refine Je ?_
   (refine Jb ?_;unhygienic intros;repeat(refine Gw ?_;rintro px rfl;refine Jb ?_;unhygienic intros))
   simp only [Am6] at R
   refine Yc (R) ?_;rintro _ h ⟨rfl,o⟩<;>refine Jh o ?_
   (refine Jb ?_;unhygienic intros)
   refine H7 [1,1,1,0,0] 0 rfl rfl ?_
   refine D8 (rcC m w F.e F.caps (X.bad.map U0)) (some px,c1,a2,c2) [0,0,0] rfl ?_;refine Je ?_
   refine D8 (rmC m w F X) () [0,0,0] rfl ?_;refine Je ?_
   refine Ys fun o=>?_
   exact ⟨rfl,o.sub⟩
 ·have e:rdX X q=none:=by unfold rdX;rw [RFr.fits ok f,h1]
  rw [e]
  refine Yb (Yt (by rw [h2];rfl) ?_)
  refine Ys fun o=>(?_:Tr _ _ _ _) o;refine Je ?_
  refine Yt rfl ?_
  refine A4 (rmC m w F X) () ?_;refine Je ?_
  refine Ys fun o=>?_
  exact ⟨rfl,o.sub⟩
def Hf7 (a b:RecS):Bool:=decide (a.kind<b.kind) || (a.kind==b.kind && decide (a.index<b.index))
theorem Gu2 (a b:RecS):Ct A3 Bm3 [.agg ⟨G8 a⟩,.agg ⟨G8 b⟩] [] fun v own=>v=.bool (Hf7 a b)∧own []:=by
 refine Ct.of Gu0 rfl fun h r=>Tr.eq (Gt3 ..) ?_;refine Je ?_
 refine Yn fun b1 h=>?_
 refine Yn fun b2 h=>?_
 (refine Ja ?_;unhygienic intros)
 refine Ys fun o=>?_
 exact ⟨rfl,o.sub⟩
def Ez6 (recs:List RecS) (q:RecS):Nat→Nat
 | 0=>0
 | k+1=>if Hf7 q (recs.getD k ⟨0,0⟩)=true then Ez6 recs q k else k+1
theorem H35 (recs:List RecS) (q:RecS):∀ k,Ez6 recs q k≤k
 | 0=>Nat.le_refl 0
 | k+1=>by
  have:=H35 recs q k
  unfold Ez6;split<;>omega
def E82 (recs:List RecS) (q:RecS):List RecS:=recs.take (Ez6 recs q recs.length)++(q::recs.drop (Ez6 recs q recs.length))
def Ag2 (recs:List RecS):List Value:=(recs.map U0).flatMap brL
theorem D49 (recs:List RecS):(Ag2 recs).length=recs.length*2:=by
 have:=Q7 (f:=brL) (k:=2) (fun x=>rfl) (recs.map U0)
 rw [List.length_map] at this;exact this
theorem Ie3 (recs:List RecS) (k:Nat):(Ag2 recs).take (k*2)=Ag2 (recs.take k):=by
 unfold Ag2
 induction recs generalizing k with
 | nil=>simp
 | cons x l ih =>
  cases k with
  | zero=>simp
  | succ k =>
   rw [List.take_succ_cons,List.map_cons,List.map_cons,List.flatMap_cons,List.flatMap_cons,← ih k,show (k+1)*2=k*2+1+1 by omega];rfl
theorem H87 (recs:List RecS) (k:Nat):(Ag2 recs).drop (k*2)=Ag2 (recs.drop k):=by
 unfold Ag2
 induction recs generalizing k with
 | nil=>simp
 | cons x l ih =>
  cases k with
  | zero=>simp
  | succ k =>
   rw [List.drop_succ_cons,List.map_cons,List.flatMap_cons,← ih k,show (k+1)*2=k*2+1+1 by omega];rfl
theorem Ha9 (a b:List RecS):Ag2 a++Ag2 b=Ag2 (a++b):=by unfold Ag2;rw [List.map_append,List.flatMap_append]
theorem E27 (l:List RecS):(Ag2 l).all Value.oneCell=true:=by
 unfold Ag2;induction l with
 | nil=>rfl
 | cons x l ih=>rw [List.map_cons,List.flatMap_cons,List.all_append,ih];rfl
theorem Iw7 {l:List HP} {h:NN.H} {α:Type} {Q:α→NN.H→Prop} {ro:Bool} {e:TypeId} {sz n c:Nat} {a:Option Addr} {cs:List Value} {kk:List Value→Option (α × NN.H)} (i:Nat) (hi:l[i]?=some (slC ro e sz a n c cs)) (j:Nat) (hj:j≤n) (t:Tr l h (kk (cs.drop (j*sz))) Q):Tr l h (gCells (G4 a (decide (j<c)) (j*sz)) ((n-j)*sz) h kk) Q:=fun ow=>by
 have o1:=ow.front hi
 cases a with
 | none =>
  obtain ⟨h1,h2,h3,_⟩:=o1.slNone
  subst h3
  obtain rfl:j=0:=by omega
  have t':=t ow
  simp only [List.drop_nil] at t'
  rw [h1,show (0-0)*sz=0 by omega]
  exact t'
 | some x =>
  obtain ⟨b,o',sp⟩:=x
  obtain ⟨pre,post,o2,h1,h2,h3,h4,h5,h6,h7⟩:=o1.slOpen
  have hp:=o2.ptAt (l:=pt b (.cells e ro (pre++cs++post))::_) (i:=0) rfl
  have hm:(n-j)*sz+j*sz=n*sz:=by rw [← Nat.add_mul,Nat.sub_add_cancel hj]
  rw [De8,Dn0 hp]
  ·by_cases hjc:j<c
   ·rw [decide_eq_true hjc,cond_true,h4 (by omega),List.append_assoc,← List.drop_drop,List.drop_left,List.drop_append_of_le_length (by omega),List.take_append_of_le_length (by simp;omega),List.take_of_length_le (by simp;omega)]
    exact t ow
   ·obtain rfl:j=n:=by omega
    rw [Nat.sub_self,Nat.zero_mul,List.take_zero]
    have t':=t ow
    rw [List.drop_eq_nil_of_le (by omega)] at t'
    exact t'
  ·simp only [List.length_append]
   by_cases hjc:j<c
   ·rw [decide_eq_true hjc,cond_true,h4 (by omega)];omega
   ·rw [decide_eq_false hjc,cond_false]
    have hz:n-j=0:=by omega
    rw [hz,Nat.zero_mul]
    by_cases hc:c=0
    ·have:=h7 hc;omega
    ·have:=h4 (by omega);omega
theorem Hz3 (m w b:Nat) (e:Int) (caps:List Int) (recs:List RecS) (q:RecS) (hl:recs.length≤1000):∀ (k:Nat),k≤recs.length →
  CtJ E2 G0 Y0 [(0,P0 m),(3,P0 b),(4,int k)] [pt b (.cells A6 false (G8 q)),rcC m w e caps (recs.map U0)] fun v own =>
   v=.tuple ⟨[]⟩∧own [rcC m w e caps ((recs.take (Ez6 recs q k)++(q::recs.drop (Ez6 recs q k))).map U0)]:=by
 have fin:∀ k:Nat,k≤recs.length→(k=0∨Hf7 q (recs.getD (k-1) ⟨0,0⟩)=false)→CtJ E2 G0 Y0 [(0,P0 m),(3,P0 b),(4,int k)] [pt b (.cells A6 false (G8 q)),rcC m w e caps (recs.map U0)] fun v own =>
   v=.tuple ⟨[]⟩∧own [rcC m w e caps ((recs.take k++(q::recs.drop k)).map U0)]:=by
  intro k hk hz
  refine CtJ.of Ba8 fun h r=>Tr.eq (Bp6 ..) ?_;refine Je ?_
  refine A9 (rcC m w e caps (recs.map U0)) fun ⟨a1,c1,a2,c2⟩=>?_;refine Je ?_
  refine Yb fun o=>Wp.mono (Q:=fun v h'=>v=false∧Own h' (pt m (.cells B85 false [P0 w,int e,.slice a1 caps.length c1,.slice a2 (recs.map U0).length c2])::slC false B2 1 a1 caps.length c1 (caps.map int)::slC false A6 2 a2 (recs.map U0).length c2 (Ag2 recs)::pt b (.cells A6 false (G8 q))::r)) ?_ ?_
  ·refine Jh o ?_
   cases k with
   | zero =>
    refine Yf rfl ?_
    refine Ys fun o=>?_
    exact ⟨rfl,o⟩
   | succ k =>
    have hz:=hz.resolve_left (by omega)
    rw [show k+1-1=k by omega] at hz
    have e1:IntKind.wrap .i64 (((k+1:Nat):Int)-1)=(k:Int):=by rw [A8];omega
    have hg:recs[k]?=some recs[k]:=List.getElem?_eq_getElem (by omega)
    have hx:=G22 recs hg
    have hle:=D49 recs
    unfold Ag2 at hle
    have hy:recs.getD k ⟨0,0⟩=recs[k]:=by rw [List.getD_eq_getElem?_getD,hg];rfl
    rw [hy] at hz
    generalize recs[k]=y at *
    refine Yt (by simp) ?_
    rw [e1]
    (refine Ja ?_;unhygienic intros)
    refine Dl9 2 rfl (by simp;omega) fun px e=>?_
    subst e
    (refine Jc ?_;unhygienic intros)
    refine Tr.ck (by simp;omega) ?_
    rw [Int.toNat_natCast]
    refine Tr.xAggS (xs:=G8 y) ⟨by omega,by omega,hx⟩ ?_
    (refine Jb ?_;unhygienic intros)
    refine Yc (Gu2 q y) ?_;rintro _ h ⟨rfl,o⟩<;>refine Jh o ?_
    rw [hz]
    (refine Jb ?_;unhygienic intros)
    refine Ys fun o=>?_
    exact ⟨rfl,o⟩
  rintro v h ⟨rfl,o⟩
  refine (?_:Tr _ _ _ _) o
  refine Yf rfl ?_
  (refine Jc ?_;unhygienic intros)
  refine Yn fun b1 h=>?_
  refine Aa8 3 rfl fun f1 f2 f3=>?_
  (refine Jc ?_;unhygienic intros)
  simp only [List.length_map] at f2
  refine Tr.ck (by omega) ?_
  (refine Jc ?_;unhygienic intros)
  refine Yn fun b2 h=>?_
  (refine Jc ?_;unhygienic intros)
  refine Tr.ck (by simp;omega) ?_
  rw [Int.toNat_natCast,List.length_map]
  refine Ai6 1 rfl 2 0 rfl (by omega) ?_
  refine Je ?_
  refine Tr.xCellsP (n:=recs.length) (sz:=2) (cs:=Ag2 recs) (xs:=Ag2 (recs.take k)) ⟨by omega,Ie3 ..⟩ ?_
  (refine Jc ?_;unhygienic intros)
  refine Tr.xApd (new:=Ag2 (recs.take k)) ⟨by rw [D49,List.length_take];omega,E27 _,by simp only [A5];omega⟩ fun a3 c3 h=>?_
  rw [List.nil_append,Nat.zero_add]
  (refine Jc ?_;unhygienic intros)
  rw [show List.take 2 (List.drop 0 [int q.kind,int q.index])=Ag2 [q] from rfl]
  refine Tr.xApd (new:=Ag2 [q]) ⟨rfl,E27 _,by simp only [A5];omega⟩ fun a4 c4 h=>?_
  rw [Ha9]
  (refine Jc ?_;unhygienic intros)
  refine Iw7 4 rfl k (by omega) ?_
  rw [H87]
  (refine Jc ?_;unhygienic intros)
  refine Tr.xApd (new:=Ag2 (recs.drop k)) ⟨by rw [D49,List.length_drop],E27 _,by simp only [A5];omega⟩ fun a5 c5 h=>?_
  rw [Ha9]
  (refine Jc ?_;unhygienic intros)
  have hN:k+1+(recs.length-k)=((recs.take k++(q::recs.drop k)).map U0).length:=by simp;omega
  rw [hN,show recs.take k++[q]++recs.drop k=recs.take k++(q::recs.drop k) by simp]
  unfold Ag2
  generalize recs.take k++(q::recs.drop k)=recs2
  refine H7 [2,2,1] 3 rfl rfl ?_
  refine D8 (rcC m w e caps (recs2.map U0)) (a1,c1,a5,c5) [0,0,0] rfl ?_;refine Je ?_
  refine Ys fun o=>?_
  exact ⟨rfl,o.sub⟩
 intro k
 induction k with
 | zero=>intro h;exact fin 0 h (.inl rfl)
 | succ k ih =>
  intro h
  rw [Ez6]
  by_cases hq:Hf7 q (recs.getD k ⟨0,0⟩)=true
  case neg=>rw [if_neg hq];exact fin (k+1) h (.inr (by simpa using hq))
  rw [if_pos hq]
  have ih:=ih (by omega)
  have e1:IntKind.wrap .i64 (((k+1:Nat):Int)-1)=(k:Int):=by rw [A8];omega
  have hg:recs[k]?=some recs[k]:=List.getElem?_eq_getElem (by omega)
  have hx:=G22 recs hg
  have hle:=D49 recs
  unfold Ag2 at hle
  have hy:recs.getD k ⟨0,0⟩=recs[k]:=by rw [List.getD_eq_getElem?_getD,hg];rfl
  rw [hy] at hq
  generalize recs[k]=y at *
  refine CtJ.of Ba8 fun h r=>Tr.eq (Bp6 ..) ?_;refine Je ?_
  refine A9 (rcC m w e caps (recs.map U0)) fun ⟨a1,c1,a2,c2⟩=>?_;refine Je ?_
  refine Yb (Yt (by simp) ?_)
  rw [e1]
  (refine Ja ?_;unhygienic intros)
  refine Dl9 2 rfl (by simp;omega) fun px e=>?_
  subst e
  (refine Jc ?_;unhygienic intros)
  refine Tr.ck (by simp;omega) ?_
  rw [Int.toNat_natCast]
  refine Tr.xAggS (xs:=G8 y) ⟨by omega,by omega,hx⟩ ?_
  (refine Jb ?_;unhygienic intros)
  refine Yc (Gu2 q y) ?_;rintro _ h ⟨rfl,o⟩<;>refine Jh o ?_
  rw [hq]
  (refine Jb ?_;unhygienic intros)
  refine Ys fun o=>(?_:Tr _ _ _ _) o;refine Je ?_
  refine Yt rfl ?_
  refine A4 (rcC m w e caps (recs.map U0)) (a1,c1,some px,c2) ?_;refine Je ?_
  refine H7 [1,0] 0 rfl rfl ?_
  exact Yr ih fun v h q=>q
theorem Iw9 (m w:Nat) (e:Int) (caps:List Int) (recs:List RecS) (q:RecS) (hl:recs.length≤1000):Ct A3 G0 [P0 m,.agg ⟨G8 q⟩] [rcC m w e caps (recs.map U0)] fun v own=>v=.tuple ⟨[]⟩∧own [rcC m w e caps ((E82 recs q).map U0)]:=by
 have J:=fun b=>Hz3 m w b e caps recs q hl recs.length (Nat.le_refl _)
 refine Ct.of Ba8 rfl fun h r=>Tr.eq (Eg6 ..) ?_;refine Je ?_
 refine Yn fun b h=>?_
 refine A9 (rcC m w e caps (recs.map U0)) fun ⟨a1,c1,a2,c2⟩=>?_;refine Je ?_
 (refine Ja ?_;unhygienic intros)
 refine A4 (rcC m w e caps (recs.map U0)) (a1,c1,a2,c2) ?_;refine Je ?_
 rw [List.length_map]
 refine H7 [1,0] 0 rfl rfl ?_
 exact Yr (J b) fun v h q=>q
def Gr9 (X:CX) (q:RecS):CX:=⟨X.m,E82 X.bad q⟩
theorem Ic1 (recs:List RecS) (q:RecS):(E82 recs q).length=recs.length+1:=by
 have:=H35 recs q recs.length
 unfold E82;simp;omega
theorem Eq1 (m w:Nat) (F:RFr) (X:CX) (q:RecS) (hb:X.bad.length≤1000):Ct A3 G0 [P0 m,.agg ⟨G8 q⟩] [rmC m w F X] fun v own=>v=.tuple ⟨[]⟩∧own [rmC m w F (Gr9 X q)]:=by
 intro h r o
 obtain ⟨u,o2⟩:=Own.unfold (rmC m w F X) o
 obtain ⟨v,h',e,rfl,o3⟩:=Iw9 m w F.e F.caps X.bad q hb h _ o2
 exact ⟨_,h',e,rfl,Own.shut (f:=fun _:Unit=>rmF m w F (Gr9 X q)) () o3⟩
theorem Ez9 (m w:Nat) (F:RFr) (X:CX) (q:RecS) (hb:X.bad.length≤1000) (d:Int):Ct A3 Z2 [P0 m,.agg ⟨G8 q⟩,int d] [rmC m w F X] fun v own=>v=int d∧own [rmC m w F (if d=2 then Gr9 X q else X)]:=by
 refine Ct.of Ek6 rfl fun h r=>Tr.eq (En4 ..) ?_;refine Je ?_
 refine Yn fun b h=>?_
 by_cases hd:d=2
 ·rw [if_pos hd]
  refine Yt (by rw [beq_iff_eq];exact hd) ?_
  (refine Ja ?_;unhygienic intros)
  refine Yc (Eq1 m w F X q hb) ?_;rintro _ h ⟨rfl,o⟩<;>refine Jh o ?_
  (refine Ja ?_;unhygienic intros)
  refine Ys fun o=>?_
  exact ⟨rfl,o.sub⟩
 ·rw [if_neg hd]
  refine Yf (by rw [beq_eq_false_iff_ne];exact hd) ?_
  refine Ys fun o=>?_
  exact ⟨rfl,o.sub⟩
def rrX {α:Type} (dec:List UInt8→α × Int) (z:α) (X:CX) (q:RecS):(α × Int) × CX :=
 match rdX X q with
 | some l=>(dec l,if (dec l).2=2 then Gr9 X q else X)
 | none=>((z,2),X)
def Ja8 (F:RFr) (X:CX):Prop:=Fit F.K.R.M.length F.rg X.m
theorem Et3 {F:RFr} (k:RFrOk F) {X:CX} (f:Ja8 F X) {q:RecS} {l:List UInt8} (h:rdX X q=some l):l.length=O6 q.kind:=by
 unfold rdX at h
 rw [RFr.fits k f] at h
 cases hp:E3 F.caps.length q with
 | none=>rw [hp] at h;cases h
 | some p =>
  obtain ⟨j,a,n⟩:=p
  rw [hp] at h
  obtain ⟨lo,z,cap,_,_,ha,hx,hl,_⟩:=D72 k f hp
  simp only at h
  split at h
  ·cases h
  ·cases h;rw [D62 (by omega),B80 hp]
theorem Gc7 {l:List HP} {h:NN.H} {α:Type} {Q:α→NN.H→Prop} {x:Option (α × NN.H)} {m w:Nat} {F:RFr} {X:CX} (i:Nat) (hi:l[i]?=some (rmC m w F X)) (t:Ja8 F X→Tr l h x Q):Tr l h x Q:=fun o=>by
 obtain ⟨u,o2⟩:=Own.unfold (rmC m w F X) (o.front hi)
 exact t (o2.front (i:=2) rfl).pure o
theorem G74 (m w:Nat) (F:RFr) (X:CX) (ok:RFrOk F) (hb:X.bad.length≤1000) (i:Int):Ct A3 Z0 [P0 m,int i] [rmC m w F X] fun v own=>v=.tuple ⟨[.agg ⟨B6 (rrX H2 .zero X ⟨1,i⟩).1.1⟩,int (rrX H2 .zero X ⟨1,i⟩).1.2]⟩∧own [rmC m w F (rrX H2 .zero X ⟨1,i⟩).2]:=by
 have J:=D47 m w F X ok ⟨1,i⟩ ⟨by simp,by simp,by simp⟩ hb
 refine Ct.of Et4 rfl fun h r=>Tr.eq (Eq0 ..) ?_;refine Je ?_
 refine Gc7 0 rfl fun f=>?_
 refine Yn fun b h=>?_
 refine Yn fun b1 h=>?_
 (refine Ja ?_;unhygienic intros)
 refine Yc (J) ?_;rintro _ h ⟨rfl,o⟩<;>refine Jh o ?_
 unfold rrX
 cases hr:rdX X ⟨1,i⟩ with
 | none =>
  (refine Jb ?_;unhygienic intros)
  refine Yt rfl ?_
  (refine Ja ?_;unhygienic intros)
  refine Ys fun o=>?_
  exact ⟨rfl,o.sub⟩
 | some l =>
  have hl:=Et3 ok f hr
  (refine Jb ?_;unhygienic intros)
  refine Yf rfl ?_
  refine Yc (Id6 l hl) ?_;rintro _ h ⟨rfl,o⟩<;>refine Jh o ?_
  generalize H2 l=d
  (refine Jc ?_;unhygienic intros)
  refine Yn fun b2 h=>?_
  (refine Jb ?_;unhygienic intros)
  refine Yc (Ez9 m w F X ⟨1,i⟩ hb d.2) ?_;rintro _ h ⟨rfl,o⟩<;>refine Jh o ?_
  (refine Ja ?_;unhygienic intros)
  refine Ys fun o=>?_
  exact ⟨rfl,o.sub⟩
theorem Ih5 (m w:Nat) (F:RFr) (X:CX) (ok:RFrOk F) (hb:X.bad.length≤1000) (i:Int):Ct A3 At2 [P0 m,int i] [rmC m w F X] fun v own=>v=.tuple ⟨[.agg ⟨A69 (rrX J7 .zero X ⟨2,i⟩).1.1⟩,int (rrX J7 .zero X ⟨2,i⟩).1.2]⟩∧own [rmC m w F (rrX J7 .zero X ⟨2,i⟩).2]:=by
 have J:=D47 m w F X ok ⟨2,i⟩ ⟨by simp,by simp,by simp⟩ hb
 refine Ct.of El9 rfl fun h r=>Tr.eq (El0 ..) ?_;refine Je ?_
 refine Gc7 0 rfl fun f=>?_
 refine Yn fun b h=>?_
 refine Yn fun b1 h=>?_
 (refine Ja ?_;unhygienic intros)
 refine Yc (J) ?_;rintro _ h ⟨rfl,o⟩<;>refine Jh o ?_
 unfold rrX
 cases hr:rdX X ⟨2,i⟩ with
 | none =>
  (refine Jb ?_;unhygienic intros)
  refine Yt rfl ?_
  (refine Ja ?_;unhygienic intros)
  refine Ys fun o=>?_
  exact ⟨rfl,o.sub⟩
 | some l =>
  have hl:=Et3 ok f hr
  (refine Jb ?_;unhygienic intros)
  refine Yf rfl ?_
  refine Yc (H78 l hl) ?_;rintro _ h ⟨rfl,o⟩<;>refine Jh o ?_
  generalize J7 l=d
  (refine Jc ?_;unhygienic intros)
  refine Yn fun b2 h=>?_
  (refine Jb ?_;unhygienic intros)
  refine Yc (Ez9 m w F X ⟨2,i⟩ hb d.2) ?_;rintro _ h ⟨rfl,o⟩<;>refine Jh o ?_
  (refine Ja ?_;unhygienic intros)
  refine Ys fun o=>?_
  exact ⟨rfl,o.sub⟩
theorem Gh2 (m w:Nat) (F:RFr) (X:CX) (ok:RFrOk F) (hb:X.bad.length≤1000) (q:RecS) (hq:Rq q) (h40:O6 q.kind=40):Ct A3 Ac6 [P0 m,.agg ⟨G8 q⟩] [rmC m w F X] fun v own=>v=.tuple ⟨[.agg ⟨E9 (rrX D7 .zero X q).1.1⟩,int (rrX D7 .zero X q).1.2]⟩∧own [rmC m w F (rrX D7 .zero X q).2]:=by
 have J:=D47 m w F X ok q hq hb
 refine Ct.of Ec4 rfl fun h r=>Tr.eq (D94 ..) ?_;refine Je ?_
 refine Gc7 0 rfl fun f=>?_
 refine Yn fun b1 h=>?_
 refine Yn fun b h=>?_
 (refine Ja ?_;unhygienic intros)
 refine Yc (J) ?_;rintro _ h ⟨rfl,o⟩<;>refine Jh o ?_
 unfold rrX
 cases hr:rdX X q with
 | none =>
  (refine Jb ?_;unhygienic intros)
  refine Yt rfl ?_
  (refine Ja ?_;unhygienic intros)
  refine Ys fun o=>?_
  exact ⟨rfl,o.sub⟩
 | some l =>
  have hl:=Et3 ok f hr
  (refine Jb ?_;unhygienic intros)
  refine Yf rfl ?_
  refine Yc (H64 l (hl.trans h40)) ?_;rintro _ h ⟨rfl,o⟩<;>refine Jh o ?_
  generalize D7 l=d
  have hd:(E9 d.1).length=36:=Ai7 d.1.len
  (refine Jc ?_;unhygienic intros)
  refine Yn fun b2 h=>?_
  (refine Jb ?_;unhygienic intros)
  refine Yc (Ez9 m w F X q hb d.2) ?_;rintro _ h ⟨rfl,o⟩<;>refine Jh o ?_
  (refine Ja ?_;unhygienic intros)
  refine Ys fun o=>?_
  exact ⟨rfl,o.sub⟩
theorem Im0 (m w:Nat) (F:RFr) (X:CX) (ok:RFrOk F) (hb:X.bad.length≤1000) (i:Int) (hi:i≤9223372036854775807):Ct A3 At3 [P0 m,int i] [rmC m w F X] fun v own=>v=.tuple ⟨[.agg ⟨E9 (rrX D7 .zero X ⟨3,i⟩).1.1⟩,int (rrX D7 .zero X ⟨3,i⟩).1.2]⟩∧own [rmC m w F (rrX D7 .zero X ⟨3,i⟩).2]:=by
 have J:=Gh2 m w F X ok hb ⟨3,i⟩ ⟨by simp,by simp,fun _=>hi⟩ rfl
 generalize rrX D7 .zero X ⟨3,i⟩=d at *
 have hd:(E9 d.1.1).length=36:=Ai7 d.1.1.len
 refine Ct.of El8 rfl fun h r=>Tr.eq (Er5 ..) ?_;refine Je ?_
 refine Yn fun b h=>?_
 refine Yc (J) ?_;rintro _ h ⟨rfl,o⟩<;>refine Jh o ?_
 (refine Ja ?_;unhygienic intros)
 refine Ys fun o=>?_
 exact ⟨rfl,o.sub⟩
theorem Im5 (m w:Nat) (F:RFr) (X:CX) (ok:RFrOk F) (hb:X.bad.length≤1000):Ct A3 Ar4 [P0 m] [rmC m w F X] fun v own=>v=.tuple ⟨[.agg ⟨E9 (rrX D7 .zero X ⟨4,0⟩).1.1⟩,int (rrX D7 .zero X ⟨4,0⟩).1.2]⟩∧own [rmC m w F (rrX D7 .zero X ⟨4,0⟩).2]:=by
 have J:=Gh2 m w F X ok hb ⟨4,0⟩ ⟨by simp,by simp,by simp⟩ rfl
 generalize rrX D7 .zero X ⟨4,0⟩=d at *
 have hd:(E9 d.1.1).length=36:=Ai7 d.1.1.len
 refine Ct.of El6 rfl fun h r=>Tr.eq (Er4 ..) ?_;refine Je ?_
 refine Yn fun b h=>?_
 refine Yc (J) ?_;rintro _ h ⟨rfl,o⟩<;>refine Jh o ?_
 (refine Ja ?_;unhygienic intros)
 refine Ys fun o=>?_
 exact ⟨rfl,o.sub⟩
theorem Id7 (m w:Nat) (F:RFr) (X:CX) (ok:RFrOk F) (hb:X.bad.length≤1000):Ct A3 Ap4 [P0 m] [rmC m w F X] fun v own=>v=.tuple ⟨[int (rrX S5 0 X ⟨5,0⟩).1.1,.bool ((rrX S5 0 X ⟨5,0⟩).1.2==1)]⟩∧own [rmC m w F (rrX S5 0 X ⟨5,0⟩).2]:=by
 have J:=D47 m w F X ok ⟨5,0⟩ ⟨by simp,by simp,by simp⟩ hb
 refine Ct.of Eh6 rfl fun h r=>Tr.eq (Ej6 ..) ?_;refine Je ?_
 refine Gc7 0 rfl fun f=>?_
 refine Yn fun b h=>?_
 (refine Ja ?_;unhygienic intros)
 refine Yc (J) ?_;rintro _ h ⟨rfl,o⟩<;>refine Jh o ?_
 unfold rrX
 cases hr:rdX X ⟨5,0⟩ with
 | none =>
  (refine Jb ?_;unhygienic intros)
  refine Yt rfl ?_
  (refine Ja ?_;unhygienic intros)
  refine Ys fun o=>?_
  exact ⟨rfl,o.sub⟩
 | some l =>
  have hl:l.length=4:=Et3 ok f hr
  (refine Jb ?_;unhygienic intros)
  refine Yf rfl ?_
  simp only [Option.getD_some]
  have hz:(bs l).size=4:=by rw [O3];exact hl
  refine Tr.ck (by rw [hz];omega) ?_
  simp only [Ab6]
  refine (?_:Tr _ _ (bnd (cond (decide (byI l 0>7)) _ _) _) _)
  by_cases h7:byI l 0>7
  ·have e:S5 l=(0,2):=by unfold S5;rw [if_neg (by omega)]
   rw [e,if_pos rfl]
   refine Yb (Yt (by simpa using h7) ?_)
   refine Ys fun o=>(?_:Tr _ _ _ _) o;refine Je ?_
   refine Yt rfl ?_
   (refine Ja ?_;unhygienic intros)
   refine Yc (Eq1 m w F X ⟨5,0⟩ hb) ?_;rintro _ h ⟨rfl,o⟩<;>refine Jh o ?_
   (refine Ja ?_;unhygienic intros)
   refine Ys fun o=>?_
   exact ⟨rfl,o.sub⟩
  ·refine Yb (Yf (by simpa using h7) ?_)
   refine Tr.ck (by rw [hz];omega) ?_
   refine (?_:Tr _ _ (bnd (A3 Ae5 [int (byI l 0)] _) _) _)
   refine Yc (G78 (byI l 0)) ?_;rintro _ h ⟨rfl,o⟩<;>refine Jh o ?_
   (refine Jb ?_;unhygienic intros)
   refine Ys fun o=>(?_:Tr _ _ _ _) o;refine Je ?_
   by_cases he:E42 (byI l 0)=l
   ·have e:S5 l=(byI l 0,1):=by unfold S5;rw [if_pos ⟨by omega,he⟩]
    rw [e,if_neg (show ¬ ((1:Int)=2) by decide)]
    refine Yf (by rw [Ai9,Ai9,show [b8 (byI l 0),211,Bd1 [b8 (byI l 0),211],0]=l from he];simp) ?_
    refine Tr.ck (by rw [hz];omega) ?_
    (refine Ja ?_;unhygienic intros)
    refine Ys fun o=>?_
    exact ⟨rfl,o.sub⟩
   ·have e:S5 l=(0,2):=by unfold S5;rw [if_neg (fun h=>he h.2)]
    rw [e,if_pos rfl]
    refine Yt (by rw [Ai9,Ai9,Bool.not_eq_true',beq_eq_false_iff_ne];exact fun h=>he h.symm) ?_
    (refine Ja ?_;unhygienic intros)
    refine Yc (Eq1 m w F X ⟨5,0⟩ hb) ?_;rintro _ h ⟨rfl,o⟩<;>refine Jh o ?_
    (refine Ja ?_;unhygienic intros)
    refine Ys fun o=>?_
    exact ⟨rfl,o.sub⟩
section
variable (m w:Nat) (F:RFr) (X:CX) (ok:RFrOk F) (hb:X.bad.length≤1000)
include ok hb
end
section
variable (m w:Nat) (F:RFr) (X:CX) (ok:RFrOk F) (hb:X.bad.length≤1000)
include ok hb
end
abbrev rS1 (X:CX) (i:Int):(ProcS × Int) × CX:=rrX H2 .zero X ⟨1,i⟩
abbrev rF1 (X:CX) (i:Int):(FileS × Int) × CX:=rrX J7 .zero X ⟨2,i⟩
abbrev rP1 (X:CX) (i:Int):(PipeS × Int) × CX:=rrX D7 .zero X ⟨3,i⟩
def Gs9 (X:CX):CX:=(rrX S5 0 (rrX D7 .zero X ⟨4,0⟩).2 ⟨5,0⟩).2
def Gw0 (nc:Nat) (X:CX):CX:=Gs9 (Al0 (fun X i=>(rP1 X i).2) (3+nc) 0 X)
def Gt4 (nc:Nat) (X:CX):CX:=Gw0 nc (Al0 (fun X i=>(rF1 X i).2) 12 0 X)
def Gq3 (nc:Nat) (X:CX):CX:=Gt4 nc (Al0 (fun X i=>(rS1 X i).2) 8 0 X)
theorem Ga2 {α:Type} (dec:List UInt8→α × Int) (z:α) (X:CX) (q:RecS):(rrX dec z X q).2.bad.length≤X.bad.length+1:=by
 unfold rrX
 split
 ·dsimp only
  split
  ·show (E82 X.bad q).length≤_;rw [Ic1];omega
  ·omega
 ·dsimp only;omega
theorem E89 (m w:Nat) (F:RFr) (ok:RFrOk F):∀ (z:Nat) (i:Int) (X:CX),X.bad.length+z≤900→0≤i→i+z=3+F.caps.length →
  CtJ E2 D2 Ak4 [(0,P0 m),(4,int i)] [rmC m w F X] fun v own=>v=.tuple ⟨[]⟩∧own [rmC m w F (Gs9 (Al0 (fun X i=>(rP1 X i).2) z i X))]
 | 0,i,X,hb,h0,hi=>by
  have hs:=ok.small
  have b1:=Ga2 D7 PipeS.zero X ⟨4,0⟩
  have J1:=Im5 m w F X ok (by omega)
  have J2:=Id7 m w F (rrX D7 .zero X ⟨4,0⟩).2 ok (by omega)
  have hd:(E9 (rrX D7 .zero X ⟨4,0⟩).1.1).length=36:=Ai7 (rrX D7 .zero X ⟨4,0⟩).1.1.len
  show CtJ _ _ _ _ _ fun v own=>v=.tuple ⟨[]⟩∧own [rmC m w F (rrX S5 0 (rrX D7 .zero X ⟨4,0⟩).2 ⟨5,0⟩).2]
  generalize rrX D7 .zero X ⟨4,0⟩=d at *
  generalize rrX S5 0 d.2 ⟨5,0⟩=g at *
  have e1:IntKind.wrap .i64 (3+(F.caps.length:Int))=3+F.caps.length:=by rw [A8];omega
  refine CtJ.of U2 fun h r=>Tr.eq (Bu3 ..) ?_;refine Je ?_
  refine A9 (rmC m w F X) fun u=>?_;refine Je ?_
  refine A9 (rcC m w F.e F.caps (X.bad.map U0)) fun ⟨a1,c1,a2,c2⟩=>?_;refine Je ?_
  (refine Ja ?_;unhygienic intros)
  rw [e1]
  refine Yf (by simp;omega) ?_
  refine A4 (rcC m w F.e F.caps (X.bad.map U0)) (a1,c1,a2,c2) ?_;refine Je ?_
  refine A4 (rmC m w F X) () ?_;refine Je ?_
  refine Yc (J1) ?_;rintro _ h ⟨rfl,o⟩<;>refine Jh o ?_
  (refine Ja ?_;unhygienic intros)
  refine Yc (J2) ?_;rintro _ h ⟨rfl,o⟩<;>refine Jh o ?_
  (refine Ja ?_;unhygienic intros)
  refine Ys fun o=>?_
  exact ⟨rfl,o.sub⟩
 | z+1,i,X,hb,h0,hi=>by
  have hs:=ok.small
  have b1:=Ga2 D7 PipeS.zero X ⟨3,i⟩
  have J1:=Im0 m w F X ok (by omega) i (by omega)
  have ih:=E89 m w F ok z (i+1) (rrX D7 .zero X ⟨3,i⟩).2 (by show (rrX D7 PipeS.zero X ⟨3,i⟩).2.bad.length+z≤900;omega) (by omega) (by omega)
  have hd:(E9 (rrX D7 .zero X ⟨3,i⟩).1.1).length=36:=Ai7 (rrX D7 .zero X ⟨3,i⟩).1.1.len
  show CtJ _ _ _ _ _ fun v own=>v=.tuple ⟨[]⟩∧own [rmC m w F (Gs9 (Al0 (fun X i=>(rP1 X i).2) z (i+1) (rrX D7 .zero X ⟨3,i⟩).2))]
  generalize rrX D7 .zero X ⟨3,i⟩=d at *
  have e1:IntKind.wrap .i64 (3+(F.caps.length:Int))=3+F.caps.length:=by rw [A8];omega
  have e2:=wI i
  refine CtJ.of U2 fun h r=>Tr.eq (Bu3 ..) ?_;refine Je ?_
  refine A9 (rmC m w F X) fun u=>?_;refine Je ?_
  refine A9 (rcC m w F.e F.caps (X.bad.map U0)) fun ⟨a1,c1,a2,c2⟩=>?_;refine Je ?_
  (refine Ja ?_;unhygienic intros)
  rw [e1,e2]
  refine Yt (by simp;omega) ?_
  refine A4 (rcC m w F.e F.caps (X.bad.map U0)) (a1,c1,a2,c2) ?_;refine Je ?_
  refine A4 (rmC m w F X) () ?_;refine Je ?_
  refine Yc (J1) ?_;rintro _ h ⟨rfl,o⟩<;>refine Jh o ?_
  (refine Ja ?_;unhygienic intros)
  exact Yr ih fun v h q=>q
theorem E98 (m w:Nat) (F:RFr) (ok:RFrOk F):∀ (z:Nat) (i:Int) (X:CX),X.bad.length+z≤850→0≤i→i+z=12 →
  CtJ E2 D2 Ak1 [(0,P0 m),(3,int i)] [rmC m w F X] fun v own=>v=.tuple ⟨[]⟩∧own [rmC m w F (Gw0 F.caps.length (Al0 (fun X i=>(rF1 X i).2) z i X))]
 | 0,i,X,hb,h0,hi=>by
  have hs:=ok.small
  have J:=E89 m w F ok (3+F.caps.length) 0 X (by omega) (by omega) (by omega)
  refine CtJ.of U2 fun h r=>Tr.eq (Bu4 ..) ?_;refine Je ?_
  refine Yf (by simp;omega) ?_
  exact Yr J fun v h q=>q
 | z+1,i,X,hb,h0,hi=>by
  have b1:=Ga2 J7 FileS.zero X ⟨2,i⟩
  have J1:=Ih5 m w F X ok (by omega) i
  have ih:=E98 m w F ok z (i+1) (rrX J7 .zero X ⟨2,i⟩).2 (by omega) (by omega) (by omega)
  show CtJ _ _ _ _ _ fun v own=>v=.tuple ⟨[]⟩∧own [rmC m w F (Gw0 F.caps.length (Al0 (fun X i=>(rF1 X i).2) z (i+1) (rrX J7 .zero X ⟨2,i⟩).2))]
  generalize rrX J7 .zero X ⟨2,i⟩=d at *
  have e2:=wI i
  refine CtJ.of U2 fun h r=>Tr.eq (Bu4 ..) ?_;refine Je ?_
  refine Yt (by simp;omega) ?_
  rw [e2]
  refine Yc (J1) ?_;rintro _ h ⟨rfl,o⟩<;>refine Jh o ?_
  (refine Ja ?_;unhygienic intros)
  exact Yr ih fun v h q=>q
theorem E23 (m w:Nat) (F:RFr) (ok:RFrOk F):∀ (z:Nat) (i:Int) (X:CX),X.bad.length+z≤830→0≤i→i+z=8 →
  CtJ E2 D2 Ak6 [(0,P0 m),(2,int i)] [rmC m w F X] fun v own=>v=.tuple ⟨[]⟩∧own [rmC m w F (Gt4 F.caps.length (Al0 (fun X i=>(rS1 X i).2) z i X))]
 | 0,i,X,hb,h0,hi=>by
  have hs:=ok.small
  have J:=E98 m w F ok 12 0 X (by omega) (by omega) (by omega)
  refine CtJ.of U2 fun h r=>Tr.eq (Bt8 ..) ?_;refine Je ?_
  refine Yf (by simp;omega) ?_
  exact Yr J fun v h q=>q
 | z+1,i,X,hb,h0,hi=>by
  have b1:=Ga2 H2 ProcS.zero X ⟨1,i⟩
  have J1:=G74 m w F X ok (by omega) i
  have ih:=E23 m w F ok z (i+1) (rrX H2 .zero X ⟨1,i⟩).2 (by omega) (by omega) (by omega)
  show CtJ _ _ _ _ _ fun v own=>v=.tuple ⟨[]⟩∧own [rmC m w F (Gt4 F.caps.length (Al0 (fun X i=>(rS1 X i).2) z (i+1) (rrX H2 .zero X ⟨1,i⟩).2))]
  generalize rrX H2 .zero X ⟨1,i⟩=d at *
  have e2:=wI i
  refine CtJ.of U2 fun h r=>Tr.eq (Bt8 ..) ?_;refine Je ?_
  refine Yt (by simp;omega) ?_
  rw [e2]
  refine Yc (J1) ?_;rintro _ h ⟨rfl,o⟩<;>refine Jh o ?_
  (refine Ja ?_;unhygienic intros)
  exact Yr ih fun v h q=>q
theorem Ik4 (m w:Nat) (F:RFr) (X:CX) (ok:RFrOk F) (hb:X.bad.length≤800):Ct A3 D2 [P0 m] [rmC m w F X] fun v own=>v=.tuple ⟨[]⟩∧own [rmC m w F (Gq3 F.caps.length X)]:=by
 have J:=E23 m w F ok 8 0 X (by omega) (by omega) (by omega)
 refine Ct.of U2 rfl fun h r=>Tr.eq (Em1 ..) ?_;refine Je ?_
 exact Yr J fun v h q=>q
theorem Ip5 (m w:Nat) (F:RFr) (X:CX) (ok:RFrOk F) (hb:X.bad.length≤800) (Y:CX) (hY:Gq3 F.caps.length X=Y) (hyb:Y.bad.length≤1000) (i:Int) (p:ProcS) (st:Int) (Z:CX) (hZ:rrX H2 .zero Y ⟨1,i⟩=((p,st),Z)):Ct A3 L5 [P0 m,int i] [rmC m w F X] fun v own =>
  v=.tuple ⟨[.agg ⟨B6 (if st=1∧p.state=1 then p else .zero)⟩,int (if st=1∧p.state=1 then 0 else 105)]⟩∧own [rmC m w F Z]:=by
 have J1:=Ik4 m w F X ok hb
 have J2:=G74 m w F Y ok hyb i
 rw [hY] at J1
 rw [hZ] at J2
 refine Ct.of En0 rfl fun h r=>Tr.eq (En6 ..) ?_;refine Je ?_
 refine Yn fun b h=>?_
 refine Yc (J1) ?_;rintro _ h ⟨rfl,o⟩<;>refine Jh o ?_
 (refine Ja ?_;unhygienic intros)
 refine Yc (J2) ?_;rintro _ h ⟨rfl,o⟩<;>refine Jh o ?_
 (refine Jc ?_;unhygienic intros)
 refine Yn fun b1 h=>?_
 (refine Jb ?_;unhygienic intros)
 refine Tr.orG (c:=p.state != 1) (fun hb=>?_) ?_
 ·exact Jz
 by_cases h1:st=1∧p.state=1
 ·rw [if_pos h1,if_pos h1]
  refine Yf (by rw [h1.1,h1.2];rfl) ?_
  (refine Ja ?_;unhygienic intros)
  refine Ys fun o=>?_
  exact ⟨rfl,o.sub⟩
 ·rw [if_neg h1,if_neg h1]
  refine Yt (by simp only [Bool.or_eq_true,bne_iff_ne];omega) ?_
  (refine Ja ?_;unhygienic intros)
  refine Ys fun o=>?_
  exact ⟨rfl,o.sub⟩
def FR:RFr:=⟨K0,0,[256,257,258],rgP 0⟩
def Hm6 (obj n:Int):CapS:={ CapS.zero with obj:=obj,n:=n,rights:=3 }
theorem Jc3:K0.R.M.length=2560:=by kernel_rfl
theorem D59:K0.R.lo=[0,1280,512,1856]:=by kernel_rfl
theorem Gz7:K0.R.n=[492,492,40,40]:=by kernel_rfl
theorem I00:Ba0 K0.R.N K0.R.C 0 256=some (Hm6 0 492):=by kernel_rfl
theorem I08:Ba0 K0.R.N K0.R.C 0 257=some (Hm6 2 40):=by kernel_rfl
theorem I10:Ba0 K0.R.N K0.R.C 0 258=some (Hm6 3 40):=by kernel_rfl
theorem I53 {right:Int} (h:right=1∨right=2):(B4 .i64 3 right==0)=false:=by rcases h with rfl|rfl<;>decide
theorem Es0 {a n size:Int} (h0:0≤a) (h1:0≤n) (h2:a+n≤size) (hs:size≤100000):Al1 a n size=true:=by
 unfold Al1
 have e:IntKind.wrap .i64 (size-a)=size-a:=by rw [A8];omega
 rw [e]
 simp only [Bool.and_eq_true,decide_eq_true_eq];omega
theorem Bt3 {R:RgS} {name obj n lo:Int} (hg:Ba0 R.N R.C 0 name=some (Hm6 obj n)) (ho:0≤obj∧obj<R.lo.length) (hn:R.n.getD obj.toNat 0=n) (hl:R.lo.getD obj.toNat 0=lo) (hs:0≤n∧n≤1000) (hlo:0≤lo∧lo≤10000)
  {a m right:Int} (hr:right=1∨right=2) (h0:0≤a) (h1:0≤m) (h2:a+m≤n):E1 R 0 name right a m=(lo+a,0):=by
 obtain ⟨c,hc⟩:∃ c,c=Hm6 obj n:=⟨_,rfl⟩
 rw [← hc] at hg
 have c1:c.obj=obj:=by rw [hc];rfl
 have c2:c.n=n:=by rw [hc];rfl
 have c3:c.lo=0:=by rw [hc];rfl
 have c4:c.rights=3:=by rw [hc];rfl
 clear hc
 have b1:(B4 .i64 c.rights right==0)=false:=by rw [c4];exact I53 hr
 have b2:(!Al1 a m c.n || decide (c.obj<0) || decide (c.obj≥R.lo.length))=false:=by
  rw [c2,Es0 h0 h1 h2 (by omega),decide_eq_false (show ¬ c.obj<0 by omega),decide_eq_false (show ¬ c.obj≥R.lo.length by omega)];rfl
 have e:IntKind.wrap .i64 (c.lo+a)=a:=by rw [A8];omega
 have b3:(!Al1 c.lo a (R.n.getD c.obj.toNat 0) || !Al1 (IntKind.wrap .i64 (c.lo+a)) m (R.n.getD c.obj.toNat 0))=false:=by
  rw [e,c1,hn,Es0 (by omega) h0 (by omega) (by omega),Es0 h0 h1 h2 (by omega)];rfl
 have b4:IntKind.wrap .i64 (IntKind.wrap .i64 (R.lo.getD c.obj.toNat 0+c.lo)+a)=lo+a:=by rw [c1,hl];simp only [A8];omega
 unfold E1
 rw [hg]
 simp only [b1,b2,b3,b4]
 rfl
theorem Hf8:RFrOk FR:=by
 have hl:K0.R.lo.length=4:=by rw [D59];rfl
 refine ⟨Gs2,Ef7,by simp [FR],by simp [FR],by simp [FR,rgP],?_,?_,⟨0,rfl⟩,?_⟩
 ·intro j cap lo n hc hr a m right hx hs
  have hj:j=0∨j=1∨j=2:=by
   have:=(List.getElem?_eq_some_iff.1 hc).1
   simp [FR] at this;omega
  rcases hj with rfl|rfl|rfl
  ·cases hc;cases hr
   have:=Bt3 (R:=K0.R) (lo:=0) I00 (by omega) (by rw [Gz7];rfl) (by rw [D59];rfl) (by omega) (by omega) (a:=a) (m:=m) hx (by omega) (by omega) (by omega)
   show E1 K0.R 0 256 right a m=_
   rw [this];congr 1
  ·cases hc;cases hr
   have:=Bt3 (R:=K0.R) (lo:=512) I08 (by omega) (by rw [Gz7];rfl) (by rw [D59];rfl) (by omega) (by omega) (a:=a) (m:=m) hx (by omega) (by omega) (by omega)
   show E1 K0.R 0 257 right a m=_
   rw [this];congr 1
  ·cases hc;cases hr
   have:=Bt3 (R:=K0.R) (lo:=1856) I10 (by omega) (by rw [Gz7];rfl) (by rw [D59];rfl) (by omega) (by omega) (a:=a) (m:=m) hx (by omega) (by omega) (by omega)
   show E1 K0.R 0 258 right a m=_
   rw [this];congr 1
 ·exact Bs1.dj
 ·intro j lo n h0 h
  exact Bs1.brs j lo n h0 h
def By8 (b:List UInt8):List (List UInt8):=[b,D3 q1,D3 q1]
theorem Hq3 {size:Nat} (hs:size=2560) {b:List UInt8} (hb:b.length=492):Fit size (rgP 0) (By8 b):=by
 refine ⟨rfl,fun j lo n h=>?_⟩
 have hj:j=0∨j=1∨j=2:=by
  have:=(List.getElem?_eq_some_iff.1 h).1
  simp [rgP] at this;omega
 rcases hj with rfl|rfl|rfl
 ·cases h;exact ⟨by omega,b,rfl,hb⟩
 ·cases h;exact ⟨by omega,D3 q1,rfl,M8⟩
 ·cases h;exact ⟨by omega,D3 q1,rfl,M8⟩
theorem Hg5 (K:RKS) {cap lo:Int} {b:List UInt8} (h:E1 K.R 0 cap 2 0 b.length=(lo,0)):wrR K cap b={ K with R:={ K.R with M:=B7 K.R.M lo.toNat b } }:=by
 unfold wrR Z8
 rw [h,if_pos rfl];rfl
theorem Jc7 (K:RKS) {b x y:List UInt8} (h0:E1 K.R 0 256 2 0 b.length=(0,0)) (h1:E1 K.R 0 257 2 0 x.length=(512,0)) (h2:E1 K.R 0 258 2 0 y.length=(1856,0)) :
  wrR (wrR (wrR K 256 b) 257 x) 258 y={ K with R:={ K.R with M:=B7 (B7 (B7 K.R.M 0 b) 512 x) 1856 y } }:=by
 have e0:wrR K 256 b=⟨K.B,K.Q,⟨B7 K.R.M 0 b,K.R.lo,K.R.n,K.R.N,K.R.C⟩,K.T,K.now⟩:=Hg5 K h0
 have e1:wrR ⟨K.B,K.Q,⟨B7 K.R.M 0 b,K.R.lo,K.R.n,K.R.N,K.R.C⟩,K.T,K.now⟩ 257 x=⟨K.B,K.Q,⟨B7 (B7 K.R.M 0 b) 512 x,K.R.lo,K.R.n,K.R.N,K.R.C⟩,K.T,K.now⟩:=Hg5 ⟨K.B,K.Q,⟨B7 K.R.M 0 b,K.R.lo,K.R.n,K.R.N,K.R.C⟩,K.T,K.now⟩ (show E1 K.R 0 257 2 0 x.length=(512,0) from h1)
 have e2:wrR ⟨K.B,K.Q,⟨B7 (B7 K.R.M 0 b) 512 x,K.R.lo,K.R.n,K.R.N,K.R.C⟩,K.T,K.now⟩ 258 y=⟨K.B,K.Q,⟨B7 (B7 (B7 K.R.M 0 b) 512 x) 1856 y,K.R.lo,K.R.n,K.R.N,K.R.C⟩,K.T,K.now⟩:=Hg5 ⟨K.B,K.Q,⟨B7 (B7 K.R.M 0 b) 512 x,K.R.lo,K.R.n,K.R.N,K.R.C⟩,K.T,K.now⟩ (show E1 K.R 0 258 2 0 y.length=(1856,0) from h2)
 rw [e0,e1,e2]
theorem Je3 (b:List UInt8) (hb:b.length=492):wrR (wrR (wrR K0 256 b) 257 (D3 q1)) 258 (D3 q1)=FR.at (By8 b):=by
 have hl:K0.R.lo.length=4:=by rw [D59];rfl
 have p0:=Bt3 (R:=K0.R) (lo:=0) I00 (by omega) (by rw [Gz7];rfl) (by rw [D59];rfl) (by omega) (by omega) (a:=0) (m:=b.length) (right:=2) (.inr rfl) (by omega) (by omega) (by omega)
 have p1:=Bt3 (R:=K0.R) (lo:=512) I08 (by omega) (by rw [Gz7];rfl) (by rw [D59];rfl) (by omega) (by omega) (a:=0) (m:=(D3 q1).length) (right:=2) (.inr rfl) (by omega) (by omega) (by rw [M8];omega)
 have p2:=Bt3 (R:=K0.R) (lo:=1856) I10 (by omega) (by rw [Gz7];rfl) (by rw [D59];rfl) (by omega) (by omega) (a:=0) (m:=(D3 q1).length) (right:=2) (.inr rfl) (by omega) (by omega) (by rw [M8];omega)
 have:=Jc7 K0 p0 p1 p2
 unfold RFr.at FR By8
 rw [this];rfl
def T1 (b:List UInt8):KS:=Ao8 S0 (B7 S0.mem 0 b)
def T2 (b:List UInt8):KS:=Ao8 (T1 b) (B7 (T1 b).mem 512 (D3 q1))
def T3 (b:List UInt8):KS:=Ao8 (T2 b) (B7 (T2 b).mem 1856 (D3 q1))
section
variable {bb:List UInt8} (hbb:bb.length=492)
include hbb
theorem E40:Like (T1 bb):=Dg2 A77 (by rw [Q3 (by rw [A77.mem];omega)];exact A77.mem)
theorem Il5:Like (T2 bb):=Dg2 (E40 hbb) (by rw [Q3 (by rw [M8,(E40 hbb).mem];omega)];exact (E40 hbb).mem)
theorem Je1:W0 S0 0 ⟨2,256,0,0,0,0,bb⟩=((0,0,[]),T1 bb):=Ga0 A77 Eq6 (j:=0) rfl rfl (by omega)
theorem Jd1:W0 (T1 bb) 0 ⟨2,257,0,0,0,0,D3 q1⟩=((0,0,[]),T2 bb):=Ga0 (E40 hbb) Eq6 (j:=1) rfl rfl (by rw [M8];omega)
theorem Jd3:W0 (T2 bb) 0 ⟨2,258,0,0,0,0,D3 q1⟩=((0,0,[]),T3 bb):=Ga0 (Il5 hbb) Eq6 (j:=2) rfl rfl (by rw [M8];omega)
end
theorem H36 (S:KS) (m m2:List UInt8):Ao8 (Ao8 S m) m2=Ao8 S m2:=rfl
theorem Gt0 (S:KS) (m:List UInt8):(Ao8 S m).mem=m:=rfl
theorem Jd0 (bb:List UInt8):T3 bb=F0.at (By8 bb):=by
 unfold T3 T2 T1
 rw [H36,H36,Gt0,Gt0];rfl
theorem Hx4 (k w m c:Nat) (b1:Nat) (cs:List Value) (hcs:cs.length=7) (K:RKS) (hK:RKOk K) (hB:0<K.B.envs.length) {bb:List UInt8} (hbb:bb.length=492) :
  CtJ E2 W8 A39 [(6,P0 k),(7,P0 c),(8,P0 w),(9,P0 m),(10,P0 b1),(11,.string (bs (D3 q1))),(12,int 1)] [pt b1 (.cells As4 false cs),D5 k (T1 bb),rkC w K] fun v own =>
   v=.tuple ⟨[P0 k,P0 c,P0 w,P0 m]⟩∧own [D5 k (T3 bb),rkC w (wrR (wrR K 257 (D3 q1)) 258 (D3 q1))]:=by
 have hset:∀ xs:List Value,xs.length=7→∀ vs:List Value,vs.length=7→vs.all Value.oneCell=true→D90 xs 0 vs=some vs:=fun xs h vs h1 h2=>A16 h h1 h2
 refine CtJ.of An6 fun h r=>Tr.eq (Aq0 ..) ?_;refine Je ?_
 refine Yt rfl ?_
 rw [O3,M8]
 refine Tr.ck (by simp [A5]) ?_
 refine Yn fun b2 h=>?_
 refine Bq3 (n:=40) 0 rfl (by rw [N8];exact M8) ?_
 refine Je ?_
 rw [show IntKind.wrap .i64 (256+1)=257 by decide]
 refine Gs (fun h=>?_) (by exact hset cs hcs _ rfl rfl)
 (refine Ja ?_;unhygienic intros)
 have J1:=B46 k (T1 bb) 0 (E40 hbb).ok (by omega) 0 ⟨2,257,0,0,0,0,D3 q1⟩ (some (G9 b2)) 40 false (show ((2:Int)≠5) by decide)
 rw [Jd1 hbb] at J1
 simp only [Am6,M8] at J1
 refine Am5 J1 [2,0] rfl ?_
 rintro _ h ⟨y,z,rfl,o⟩
 refine (?_:Tr _ _ _ _) o
 refine Je ?_
 (refine Ja ?_;unhygienic intros)
 have R1:=Dg1 w K hK 0 hB ⟨2,257,0,0,0,0,D3 q1⟩ rfl (by rw [M8];simp [A5]) (slC false A1 1 (some (G9 b2)) (D3 q1).length 40 (A0 (D3 q1))) (some (G9 b2)) 40 false
 simp only [Am6,M8] at R1
 refine Am5 R1 [4,2] rfl ?_
 rintro _ h ⟨rfl,o⟩
 rw [show ({ K with R:=(Z8 K.R ((0:Nat):Int) 257 0 (D3 q1)).2 }:RKS)=wrR K 257 (D3 q1) from rfl] at o
 have hK1:=Eg4 hK 257 (D3 q1)
 refine (?_:Tr _ _ _ _) o
 refine Je ?_
 (refine Ja ?_;unhygienic intros)
 refine Tr.jmp An6 (Tr.eq (Aq0 ..) ?_);(try simp only[Nr,Nl,wl,Nat.reduceAdd,Nat.reduceMul,Int.reduceToNat])
 refine Yt rfl ?_
 rw [O3,M8]
 refine Tr.ck (by simp [A5]) ?_
 refine Yn fun b3 h=>?_
 refine Bq3 (n:=40) 0 rfl (by rw [N8];exact M8) ?_
 refine Je ?_
 rw [show IntKind.wrap .i64 (256+2)=258 by decide]
 refine Gs (fun h=>?_) (by exact hset _ rfl _ rfl rfl)
 (refine Ja ?_;unhygienic intros)
 have J2:=B46 k (T2 bb) 0 (Il5 hbb).ok (by omega) 0 ⟨2,258,0,0,0,0,D3 q1⟩ (some (G9 b3)) 40 false (show ((2:Int)≠5) by decide)
 rw [Jd3 hbb] at J2
 simp only [Am6,M8] at J2
 refine Am5 J2 [4,0] rfl ?_
 rintro _ h ⟨y2,z2,rfl,o⟩
 refine (?_:Tr _ _ _ _) o
 refine Je ?_
 (refine Ja ?_;unhygienic intros)
 have R2:=Dg1 w (wrR K 257 (D3 q1)) hK1 0 hB ⟨2,258,0,0,0,0,D3 q1⟩ rfl (by rw [M8];simp [A5]) (slC false A1 1 (some (G9 b3)) (D3 q1).length 40 (A0 (D3 q1))) (some (G9 b3)) 40 false
 simp only [Am6,M8] at R2
 refine Am5 R2 [3,2] rfl ?_
 rintro _ h ⟨rfl,o⟩
 rw [show ({ wrR K 257 (D3 q1) with R:=(Z8 (wrR K 257 (D3 q1)).R ((0:Nat):Int) 258 0 (D3 q1)).2 }:RKS)=wrR (wrR K 257 (D3 q1)) 258 (D3 q1) from rfl] at o
 refine (?_:Tr _ _ _ _) o
 refine Je ?_
 (refine Ja ?_;unhygienic intros)
 refine Tr.jmp An6 (Tr.eq (Aq0 ..) ?_);(try simp only[Nr,Nl,wl,Nat.reduceAdd,Nat.reduceMul,Int.reduceToNat])
 refine Yf rfl ?_
 refine Ys fun o=>?_
 exact ⟨rfl,o.fin [3,0] 5 rfl rfl⟩
theorem Is3 (a:Option Addr) {bb:List UInt8} (hbb:bb.length=492):Ct A3 W8 [.slice a 492 492] [slC false A1 1 a 492 492 (A0 bb)] fun v own=>∃ k c w m,v=.tuple ⟨[P0 k,P0 c,P0 w,P0 m]⟩∧own [cmC c k F0 ⟨By8 bb,[]⟩,rmC m w FR ⟨By8 bb,[]⟩,slC false A1 1 a 492 492 (A0 bb)]:=by
 refine Ct.of An6 rfl fun h r=>Tr.eq (E76 ..) ?_;refine Je ?_
 refine Yc (Hi9) ?_;rintro _ h ⟨A,rfl,o⟩<;>refine Jh o ?_
 (refine Ja ?_;unhygienic intros)
 refine Yc (Hn3 A) ?_
 rintro _ h ⟨k,c,w,m,rfl,o⟩
 refine (?_:Tr _ _ _ _) o
 refine Je ?_
 (refine Jb ?_;unhygienic intros)
 refine Yb (Yf rfl ?_)
 refine Ys fun o=>(?_:Tr _ _ _ _) o;refine Je ?_
 refine Yf rfl ?_
 refine Ip6 c k F0 X0 fun f=>?_
 rw [show F0.at X0.m=S0 from Fr.at_cut Bs1 (Dw6 A77 (by omega) 0)]
 refine (?_:Tr (D5 k S0::N4 c k 0 Ie9 []::_) _ _ _)
 refine Yn fun b1 h=>?_
 (refine Ja ?_;unhygienic intros)
 refine Yc (D88 q1) ?_;rintro _ h ⟨rfl,o⟩<;>refine Jh o ?_
 (refine Ja ?_;unhygienic intros)
 have J1:=B46 k S0 0 A77.ok (by omega) 0 ⟨2,256,0,0,0,0,bb⟩ a 492 false (show ((2:Int)≠5) by decide)
 rw [Je1 hbb] at J1
 simp only [Am6,hbb] at J1
 refine Am5 J1 [1,4] rfl ?_
 rintro _ h ⟨y,z,rfl,o⟩
 refine (?_:Tr _ _ _ _) o
 refine Je ?_
 (refine Ja ?_;unhygienic intros)
 have R1:=Dg1 w K0 Gs2 0 Ef7 ⟨2,256,0,0,0,0,bb⟩ rfl (by rw [hbb];simp [A5]) (slC false A1 1 a bb.length 492 (A0 bb)) a 492 false
 simp only [Am6,hbb] at R1
 refine Am5 R1 [5,2] rfl ?_
 rintro _ h ⟨rfl,o⟩
 rw [show ({ K0 with R:=(Z8 K0.R ((0:Nat):Int) 256 0 bb).2 }:RKS)=wrR K0 256 bb from rfl] at o
 refine (?_:Tr _ _ _ _) o
 refine Je ?_
 (refine Ja ?_;unhygienic intros)
 refine Dv2 (Hx4 k w m c b1 _ rfl (wrR K0 256 bb) (Eg4 Gs2 256 bb) Ef7 hbb) [4,3,0] rfl ?_
 rintro _ h ⟨rfl,o⟩
 rw [Je3 bb hbb,Jd0] at o
 refine ⟨k,c,w,m,rfl,?_⟩
 have hc:Bz0 K0 0=[256,257,258]:=by kernel_rfl
 rw [hc] at o
 have o1:=o.fin [0,3,3,0,0] 1 rfl rfl
 have f0:Fit F0.S.mem.length F0.rg (By8 bb):=Hq3 A77.mem hbb
 have fR:Fit FR.K.R.M.length FR.rg (By8 bb):=Hq3 Jc3 hbb
 have o3:=(Own.inpure f0 o1).picks [1,1,0] rfl
 have o4:=Own.shut (f:=fun _:Unit=>cmF c k F0 ⟨By8 bb,[]⟩) () o3
 have o6:=(Own.inpure fR o4).picks [2,2,0] rfl
 have o7:=Own.shut (f:=fun _:Unit=>rmF m w FR ⟨By8 bb,[]⟩) () o6
 exact o7.picks [1,0] rfl
theorem Du8 (e:Int):Ct A3 Af8 [int e] [] fun v own=>v=.agg ⟨Q5 0 e false⟩∧own []:=by
 refine Ct.of Hx6 rfl fun h r=>Tr.eq (Hu6 ..) ?_;refine Je ?_
 (refine Ja ?_;unhygienic intros)
 refine Ys fun o=>?_
 exact ⟨rfl,o.sub⟩
structure NoR (nc:Nat) (X Y:CX) (i:Int):Prop where
 look:Gq3 nc X=Y
 none:rrX H2 .zero Y ⟨1,i⟩=((.zero,2),Y)
 bx:X.bad.length≤800
 bdy:Y.bad.length≤800
section
variable (m w:Nat) (F:RFr) (ok:RFrOk F) {X Y:CX} {i:Int} (N:NoR F.caps.length X Y i)
include ok N
theorem Ds2:Ct A3 L5 [P0 m,int i] [rmC m w F X] fun v own=>v=.tuple ⟨[.agg ⟨I05⟩,int 105]⟩∧own [rmC m w F Y]:=by
 have J:=Ip5 m w F X ok N.bx Y N.look (by have:=N.bdy;omega) i .zero 2 Y N.none
 rw [if_neg (show ¬ ((2:Int)=1∧ProcS.zero.state=1) by decide),if_neg (show ¬ ((2:Int)=1∧ProcS.zero.state=1) by decide)] at J
 exact J
theorem H85:Ct A3 Ah5 [P0 m,int i] [rmC m w F X] fun v own=>v=.agg ⟨Q5 0 105 false⟩∧own [rmC m w F Y]:=by
 refine Ct.of Eq7 rfl fun h r=>Tr.eq (En9 ..) ?_;refine Je ?_
 refine Yn fun b0 h=>?_
 refine Yc (Ds2 m w F ok N) ?_;rintro _ h ⟨rfl,o⟩<;>refine Jh o ?_
 (refine Jc ?_;unhygienic intros)
 refine Yn fun b1 h=>?_
 (refine Ja ?_;unhygienic intros)
 refine Yt rfl ?_
 refine Yc (Du8 105) ?_;rintro _ h ⟨rfl,o⟩<;>(refine Jf o ?_;unhygienic intros)
 refine Ys fun o=>?_
 exact ⟨rfl,o.sub⟩
theorem H60 (code:Int):Ct A3 Ai4 [P0 m,int i,int code] [rmC m w F X] fun v own=>v=.agg ⟨Q5 0 105 false⟩∧own [rmC m w F Y]:=by
 refine Ct.of Eo7 rfl fun h r=>Tr.eq (Em8 ..) ?_;refine Je ?_
 refine Yn fun b0 h=>?_
 refine Yc (Ds2 m w F ok N) ?_;rintro _ h ⟨rfl,o⟩<;>refine Jh o ?_
 (refine Jc ?_;unhygienic intros)
 refine Yn fun b1 h=>?_
 (refine Ja ?_;unhygienic intros)
 refine Yt rfl ?_
 refine Yc (Du8 105) ?_;rintro _ h ⟨rfl,o⟩<;>(refine Jf o ?_;unhygienic intros)
 refine Ys fun o=>?_
 exact ⟨rfl,o.sub⟩
theorem Ia7:Ct A3 Ag8 [P0 m,int i] [rmC m w F X] fun v own=>v=.agg ⟨Q5 0 105 false⟩∧own [rmC m w F Y]:=by
 refine Ct.of Ep9 rfl fun h r=>Tr.eq (Ek3 ..) ?_;refine Je ?_
 refine Yn fun b0 h=>?_
 refine Yc (Ds2 m w F ok N) ?_;rintro _ h ⟨rfl,o⟩<;>refine Jh o ?_
 (refine Jc ?_;unhygienic intros)
 refine Yn fun b1 h=>?_
 (refine Ja ?_;unhygienic intros)
 refine Yt rfl ?_
 refine Yc (Du8 105) ?_;rintro _ h ⟨rfl,o⟩<;>(refine Jf o ?_;unhygienic intros)
 refine Ys fun o=>?_
 exact ⟨rfl,o.sub⟩
theorem H74 (t n:Int):Ct A3 Y9 [P0 m,int i,int t,int n] [rmC m w F X] fun v own=>v=.agg ⟨Q5 0 105 false⟩∧own [rmC m w F Y]:=by
 refine Ct.of Et6 rfl fun h r=>Tr.eq (En3 ..) ?_;refine Je ?_
 refine Yn fun b0 h=>?_
 refine Yc (Ds2 m w F ok N) ?_;rintro _ h ⟨rfl,o⟩<;>refine Jh o ?_
 (refine Jc ?_;unhygienic intros)
 refine Yn fun b1 h=>?_
 (refine Ja ?_;unhygienic intros)
 refine Yt rfl ?_
 refine Yc (Du8 105) ?_;rintro _ h ⟨rfl,o⟩<;>(refine Jf o ?_;unhygienic intros)
 refine Ys fun o=>?_
 exact ⟨rfl,o.sub⟩
end
abbrev q2:RecS:=⟨1,2⟩
theorem Ij0:Rin 3 q2:=⟨by simp,by simp,by simp,by simp [I1]⟩
def XB (x:List UInt8) (bad:List RecS):CX:=⟨(setR X1 q2 x).m,bad⟩
structure BadB (x:List UInt8):Prop where
 len:x.length=24
 bad:H2 x=(.zero,2)
theorem Hh6 (x:List UInt8) (bad:List RecS):(XB x bad).m.length=3:=by
 show (setR X1 q2 x).m.length=3
 unfold setR
 split
 ·rw [List.length_set];exact Ax8.len
 ·exact Ax8.len
section
variable {x:List UInt8} (B:BadB x)
include B
theorem I11 {bad:List RecS} {r:RecS} (h:Rin 3 r):rdX (XB x bad) r=if r ∈ bad then none else some (if r=q2 then x else rd X1 r):=by
 have e:=Ad7 Ax8 Ij0 h (b:=x) (by rw [B.len];rfl)
 obtain ⟨j,a,hp,_⟩:=h.place (by omega)
 have e2:rd (setR X1 q2 x) r=slice ((setR X1 q2 x).m.getD j []) a (O6 r.kind):=by
  unfold rd
  rw [show (setR X1 q2 x).m.length=3 from Hh6 x [],hp]
 unfold rdX
 rw [Hh6,hp]
 show (if r ∈ bad then none else some (slice ((setR X1 q2 x).m.getD j []) a (O6 r.kind)))=_
 rw [← e2,e]
theorem Jc9 {bad:List RecS} {r:RecS} (h:Rin 3 r) (hr:r≠q2) (hb:¬ r ∈ bad):rdX (XB x bad) r=some (rd X1 r):=by
 rw [I11 B h,if_neg hb,if_neg hr]
end
theorem Ej2 {α:Type} {dec:List UInt8→α × Int} {z:α} {X:CX} {r:RecS} {l:List UInt8} (h:rdX X r=some l) (h2:(dec l).2≠2):M0 dec z X r=(dec l,X):=by
 unfold M0;rw [h];dsimp only;rw [if_neg h2]
theorem E19 {α:Type} {dec:List UInt8→α × Int} {z:α} {X:CX} {r:RecS} {l:List UInt8} (h:rdX X r=some l) (h2:(dec l).2≠2):rrX dec z X r=(dec l,X):=by
 unfold rrX;rw [h];dsimp only;rw [if_neg h2]
theorem I73 {α:Type} {dec:List UInt8→α × Int} {z:α} {X:CX} {r:RecS} (h:rdX X r=none):M0 dec z X r=((z,2),X):=by
 unfold M0;rw [h]
theorem Jb2 {α:Type} {dec:List UInt8→α × Int} {z:α} {X:CX} {r:RecS} (h:rdX X r=none):rrX dec z X r=((z,2),X):=by
 unfold rrX;rw [h]
theorem Gv2 {k i:Int} (h:k≠1∨i≠2):(⟨k,i⟩:RecS)≠q2:=fun e=>by
 have e1:=congrArg RecS.kind e
 have e2:=congrArg RecS.index e
 simp only at e1 e2;omega
section
variable {x:List UInt8} (B:BadB x) {bad:List RecS} (hb:bad=[]∨bad=[q2])
include B hb
theorem Gt1 {r:RecS} (h:Rin 3 r) (hr:r≠q2):rdX (XB x bad) r=some (rd X1 r):=by
 refine Jc9 B h hr ?_
 rcases hb with rfl|rfl
 ·simp
 ·simpa using hr
theorem Gz9 {j:Int} (h:0≤j∧j<8) (h2:j≠2):(Dj7 (XB x bad) j).2=XB x bad∧(rS1 (XB x bad) j).2=XB x bad:=by
 have e:=Gt1 B hb (Bj9 h) (Gv2 (.inr h2))
 have k:(H2 (rd X1 ⟨1,j⟩)).2≠2:=Ax8.ok ⟨1,j⟩ (by simp) (by simp) h.1 h.2
 exact ⟨by show (M0 H2 ProcS.zero _ _).2=_;rw [Ej2 e k],by rw [rS1,E19 e k]⟩
theorem Jc4 {j:Int} (h:0≤j∧j<12):(D52 (XB x bad) j).2=XB x bad∧(rF1 (XB x bad) j).2=XB x bad:=by
 have e:=Gt1 B hb (Bj8 h) (Gv2 (.inl (by decide)))
 have k:(J7 (rd X1 ⟨2,j⟩)).2≠2:=Ax8.ok ⟨2,j⟩ (by simp) (by simp) h.1 h.2
 exact ⟨by show (M0 J7 FileS.zero _ _).2=_;rw [Ej2 e k],by rw [rF1,E19 e k]⟩
theorem I95 {j:Int} (h:0≤j∧j<3+(3:Nat)):(D77 (XB x bad) j).2=XB x bad∧(rP1 (XB x bad) j).2=XB x bad:=by
 have e:=Gt1 B hb (Bk0 h) (Gv2 (.inl (by decide)))
 have k:(D7 (rd X1 ⟨3,j⟩)).2≠2:=Ax8.ok ⟨3,j⟩ (by simp) (by simp) h.1 h.2
 exact ⟨by show (M0 D7 PipeS.zero _ _).2=_;rw [Ej2 e k],by rw [rP1,E19 e k]⟩
theorem I84:(Ej9 (XB x bad)).2=XB x bad∧(rrX D7 .zero (XB x bad) ⟨4,0⟩).2=XB x bad:=by
 have e:=Gt1 B hb (r:=⟨4,0⟩) ⟨by simp,by simp,by simp,by simp [I1]⟩ (Gv2 (.inl (by decide)))
 have k:(D7 (rd X1 ⟨4,0⟩)).2≠2:=Ax8.ok ⟨4,0⟩ (by simp) (by simp) (by simp) (by simp [I1])
 exact ⟨by show (M0 D7 PipeS.zero _ _).2=_;rw [Ej2 e k],by rw [E19 e k]⟩
theorem Ja6:(Ei5 (XB x bad)).2=XB x bad∧(rrX S5 0 (XB x bad) ⟨5,0⟩).2=XB x bad:=by
 have e:=Gt1 B hb (r:=⟨5,0⟩) ⟨by simp,by simp,by simp,by simp [I1]⟩ (Gv2 (.inl (by decide)))
 have k:(S5 (rd X1 ⟨5,0⟩)).2≠2:=Ax8.ok ⟨5,0⟩ (by simp) (by simp) (by simp) (by simp [I1])
 exact ⟨by show (M0 S5 (0:Int) _ _).2=_;rw [Ej2 e k],by rw [E19 e k]⟩
theorem H81:Dj7 (XB x bad) 2=((.zero,2),XB x [q2])∧rS1 (XB x bad) 2=((.zero,2),XB x [q2]):=by
 have e:=I11 B (bad:=bad) Ij0
 rcases hb with rfl|rfl
 ·rw [if_neg (by simp),if_pos rfl] at e
  constructor
  ·show M0 H2 ProcS.zero _ _=_
   unfold M0;rw [e];dsimp only;rw [B.bad];rfl
  ·unfold rS1 rrX;rw [e];dsimp only;rw [B.bad];rfl
 ·rw [if_pos (by simp)] at e
  exact ⟨I73 e,Jb2 e⟩
end
theorem Hg3 {f:CX→Int→CX} {X Y:CX} (h0:f X 0=X) (h1:f X 1=X) (h2:f X 2=Y) (h3:∀ j,3≤j→j<8→f Y j=Y):Al0 f 8 0 X=Y:=by
 show Al0 f 7 (0+1) (f X 0)=Y
 rw [h0]
 show Al0 f 6 (0+1+1) (f X 1)=Y
 rw [h1]
 show Al0 f 5 (0+1+1+1) (f X 2)=Y
 rw [h2]
 exact Ar7 5 _ fun j a b=>h3 j (by omega) (by omega)
section
variable {x:List UInt8} (B:BadB x) {bad:List RecS} (hb:bad=[]∨bad=[q2])
include B hb
theorem I47:D68 (XB x bad)=XB x [q2]:=by
 have hb2:([q2]:List RecS)=[]∨[q2]=[q2]:=.inr rfl
 unfold D68 lookN
 rw [Hh6,Hg3 (Gz9 B hb (by omega) (by decide)).1 (Gz9 B hb (by omega) (by decide)).1 (congrArg Prod.snd (H81 B hb).1) fun j a b=>(Gz9 B hb2 (by omega) (by omega)).1]
 unfold Gs8
 rw [Ar7 12 0 fun j a b=>(Jc4 B hb2 (by omega)).1]
 unfold Gv4
 rw [Ar7 (3+3) 0 fun j a b=>(I95 B hb2 (by omega)).1]
 unfold E35
 rw [(I84 B hb2).1,(Ja6 B hb2).1]
theorem Iu5:Gq3 3 (XB x bad)=XB x [q2]:=by
 have hb2:([q2]:List RecS)=[]∨[q2]=[q2]:=.inr rfl
 unfold Gq3
 rw [Hg3 (Gz9 B hb (by omega) (by decide)).2 (Gz9 B hb (by omega) (by decide)).2 (congrArg Prod.snd (H81 B hb).2) fun j a b=>(Gz9 B hb2 (by omega) (by omega)).2]
 unfold Gt4
 rw [Ar7 12 0 fun j a b=>(Jc4 B hb2 (by omega)).2]
 unfold Gw0
 rw [Ar7 (3+3) 0 fun j a b=>(I95 B hb2 (by omega)).2]
 unfold Gs9
 rw [(I84 B hb2).2,(Ja6 B hb2).2]
theorem Iq0:NoS (XB x bad) (XB x [q2]) 2:=⟨I47 B hb,(H81 B (.inr rfl)).1⟩
theorem I86:NoR 3 (XB x bad) (XB x [q2]) 2:=⟨Iu5 B hb,(H81 B (.inr rfl)).2,by rcases hb with rfl|rfl<;>simp [XB],by simp [XB]⟩
end
theorem Hk5:∀ (l:List UInt8) (j:Nat) (v:UInt8),j<l.length→Ax7 (l.set j v)=Ax7 l-((l.getD j 0).toNat:Int)+(v.toNat:Int)
 | [],j,v,h=>by simp at h
 | x::l,0,v,h=>by
  show Ax7 (v::l)=Ax7 (x::l)-(x.toNat:Int)+v.toNat
  simp only [Ax7,List.map_cons,List.sum_cons];omega
 | x::l,j+1,v,h=>by
  have:=Hk5 l j v (by simpa using h)
  show Ax7 (x::l.set j v)=Ax7 (x::l)-((l.getD j 0).toNat:Int)+v.toNat
  simp only [Ax7,List.map_cons,List.sum_cons] at this ⊢;omega
theorem Iu6 (l:List UInt8) (j:Nat) (v:UInt8) (h:j<l.length) (hv:l.getD j 0≠v):Bd1 (l.set j v)≠Bd1 l:=by
 intro e
 have e1:=E14 (l.set j v)
 have e2:=E14 l
 rw [e,List.length_set,Hk5 l j v h,e2] at e1
 have h1:=(l.getD j 0).toNat_lt
 have h2:=v.toNat_lt
 exact hv (UInt8.toNat_inj.1 (by omega))
theorem Iy0 (p:ProcS):(Au5 p).getD 20 0=167:=by
 have:=p.len
 show (p.fds.map b8++[167]).getD 8 0=167
 rw [List.getD_eq_getElem?_getD,List.getElem?_append_right (by simp;omega)]
 simp [p.len]
theorem Hj0 {l m:List UInt8} (h:l.length=m.length) (e:∀ k,k<l.length→l.getD k 0=m.getD k 0):l=m:=by
 refine List.ext_getElem h fun k h1 h2=>?_
 have:=e k h1
 rw [List.getD_eq_getElem?_getD,List.getD_eq_getElem?_getD,List.getElem?_eq_getElem h1,List.getElem?_eq_getElem h2] at this
 exact this
theorem Ht3 {l:List UInt8} (h:l.all (·==0)=true) (k:Nat):l.getD k 0=0:=by
 rw [List.getD_eq_getElem?_getD]
 by_cases hk:k<l.length
 ·rw [List.getElem?_eq_getElem hk]
  have:=List.all_eq_true.1 h _ (List.getElem_mem hk)
  simpa using this
 ·rw [List.getElem?_eq_none (by omega)];rfl
theorem H94 {p:ProcS} (ok:okS p=true) {j:Nat} (hj:j<24) {v:UInt8} (hv:(M6 p).getD j 0≠v):BadB ((M6 p).set j v):=by
 have hl:=Dm4 p
 have hy:((M6 p).set j v).length=24:=by rw [List.length_set];exact Bg1 p
 have at_:∀ k,((M6 p).set j v).getD k 0=if k=j then v else (M6 p).getD k 0:=fun k=>by
  rw [List.getD_eq_getElem?_getD,List.getElem?_set]
  by_cases h:j=k
  ·subst h;rw [if_pos rfl,if_pos (by rw [Bg1];exact hj),if_pos rfl];rfl
  ·rw [if_neg h,if_neg (fun e=>h e.symm),List.getD_eq_getElem?_getD]
 have eh:∀ (q:ProcS) (k:Nat),k<21→(M6 q).getD k 0=(Au5 q).getD k 0:=fun q k h=>by
  unfold M6;rw [List.getD_eq_getElem?_getD,List.getElem?_append_left (by rw [Dm4];exact h),List.getD_eq_getElem?_getD]
 have et:∀ (q:ProcS),(M6 q).getD 21 0=Bd1 (Au5 q)∧(M6 q).getD 22 0=0∧(M6 q).getD 23 0=0:=fun q=>by
  have h:=Dm4 q
  unfold M6
  refine ⟨?_,?_,?_⟩<;>(rw [List.getD_eq_getElem?_getD,List.getElem?_append_right (by omega),h];rfl)
 refine ⟨hy,?_⟩
 generalize hyy:(M6 p).set j v=y at *
 have hz:y.all (·==0)=false:=by
  rw [← Bool.not_eq_true]
  intro h
  by_cases h20:j=20
  ·have h1:=Ht3 h 0
   rw [at_ 0,if_neg (by omega),eh p 0 (by omega)] at h1
   have h2:b8 p.state=0:=h1
   have h3:=congrArg (fun z:UInt8=>(z.toNat:Int)) h2
   simp only [← A13,B73] at h3
   unfold okS at ok
   simp only [Bool.and_eq_true,Bool.not_eq_true',Bool.or_eq_false_iff,decide_eq_false_iff_not] at ok
   have:(0:UInt8).toNat=0:=rfl
   rw [this] at h3
   omega
  ·have h1:=Ht3 h 20
   rw [at_ 20,if_neg (fun e=>h20 e.symm),eh p 20 (by omega),Iy0] at h1
   exact absurd h1 (by decide)
 have hs:isS y=false:=by
  rw [← Bool.not_eq_true]
  intro h
  unfold isS at h
  simp only [Bool.and_eq_true,decide_eq_true_eq] at h
  obtain ⟨_,h⟩:=h
  generalize An8 y=q at *
  have hq:=Dm4 q
  obtain ⟨t1,t2,t3⟩:=et q
  obtain ⟨u1,u2,u3⟩:=et p
  have hk:∀ k,k<21→(Au5 q).getD k 0=if k=j then v else (Au5 p).getD k 0:=fun k hk=>by
   rw [← eh q k hk,h,at_ k]
   split
   ·rfl
   ·exact eh p k hk
  rw [h,at_] at t1 t2 t3
  by_cases j1:j<21
  ·have hh:Au5 q=(Au5 p).set j v:=Hj0 (by rw [List.length_set,hq,hl]) fun k h1=>by
    rw [hk k (by omega),List.getD_eq_getElem?_getD (l:=(Au5 p).set j v),List.getElem?_set]
    by_cases e:j=k
    ·subst e;rw [if_pos rfl,if_pos rfl,if_pos (by omega)];rfl
    ·rw [if_neg (fun e2=>e e2.symm),if_neg e,List.getD_eq_getElem?_getD]
   rw [if_neg (by omega),u1,hh] at t1
   exact Iu6 (Au5 p) j v (by omega) (by rw [← eh p j j1];exact hv) t1.symm
  ·have hh:Au5 q=Au5 p:=Hj0 (by rw [hq,hl]) fun k h1=>by rw [hk k (by omega),if_neg (by omega)]
   rw [hh] at t1
   have:j=21∨j=22∨j=23:=by omega
   rcases this with rfl|rfl|rfl
   ·rw [if_pos rfl] at t1;exact hv (by rw [u1,t1])
   ·rw [if_pos rfl] at t2;exact hv (by rw [u2,t2])
   ·rw [if_pos rfl] at t3;exact hv (by rw [u3,t3])
 unfold H2
 rw [hz,hs];rfl
theorem Dj3 (e:Int):Ct A3 Aa9 [.agg ⟨Q5 0 e false⟩,.agg ⟨Q5 0 e false⟩] [] fun v own=>v=.bool true∧own []:=by
 refine Ct.of Gr2 rfl fun h r=>Tr.eq (Gu4 ..) ?_;refine Je ?_
 refine Yn fun b1 h=>?_
 refine Yn fun b2 h=>?_
 (refine Jb ?_;unhygienic intros)
 refine Yb (Yt rfl ?_)
 (refine Jb ?_;unhygienic intros)
 refine Ys fun o=>(?_:Tr _ _ _ _) o;refine Je ?_
 refine Yb (Yt (by simp) ?_)
 (refine Jb ?_;unhygienic intros)
 refine Ys fun o=>(?_:Tr _ _ _ _) o;refine Je ?_
 refine Yb (Yt (by simp) ?_)
 (refine Jb ?_;unhygienic intros)
 refine Ys fun o=>(?_:Tr _ _ _ _) o;refine Je ?_
 refine Ys fun o=>?_
 exact ⟨rfl,o.sub⟩
theorem I54 {S:KS} (kS:Like S) {r:List HP} {h:H} {α:Type} {Q:α→H→Prop} {kk:Value→H→Option (α × H)} (c k:Nat) (X:CX)
  (t:∀ y d h',Tr (slC false A1 1 y 492 d (A0 (X.m.getD 0 []))::cmC c k (frP S 0 0) X::r) h' (kk (.tuple ⟨[.slice y 492 d,int 0]⟩) h') Q) :
  Tr (cmC c k (frP S 0 0) X::r) h (bnd (A3 V3 [P0 k] h) fun v hv=>aPtr v fun x=>bnd (A3 Ah7 [.pointer x,int 0] hv) kk) Q:=by
 have hr:((frP S 0 0).at X.m).regs=Ga1:=by rw [I68,Je5,kS.regs,Gx3]
 have h2:((frP S 0 0).at X.m).mem=Ao3 S.mem (rgP 0) X.m:=(frP S 0 0).mem_at X.m
 refine A9 (cmC c k (frP S 0 0) X) fun u=>?_;refine Je ?_
 refine L8 2 rfl fun f=>?_
 have hv:=Je7 kS Eq6 f
 have hl:((frP S 0 0).at X.m).mem.length=2560:=by rw [h2];exact (B05 f).trans kS.mem
 have hv2:slice ((frP S 0 0).at X.m).mem 0 492=X.m.getD 0 []:=by rw [h2];exact hv
 refine A9 (D5 k ((frP S 0 0).at X.m)) fun ⟨m,s,q,rg,ea,ec,ma,mc,ms,sa,sc,ss⟩=>?_;refine Je ?_
 refine Tr.pcall (Hs0 k ((frP S 0 0).at X.m) ⟨m,s,q,rg,ea,ec,ma,mc,ms,sa,sc,ss⟩) ?_;refine Je ?_;(refine Ja ?_;unhygienic intros)
 try dsimp only
 rw [hr]
 refine Yc (Jb6 rg m s ((frP S 0 0).at X.m).mem hl) ?_;rintro _ h ⟨y,d,rfl,o⟩<;>refine Jh o ?_
 rw [hv2,← hr]
 refine A4 (D5 k ((frP S 0 0).at X.m)) ⟨m,s,q,rg,ea,ec,ma,mc,ms,sa,sc,ss⟩ ?_;refine Je ?_
 refine A4 (cmC c k (frP S 0 0) X) () ?_;refine Je ?_
 refine H7 [1,0] 0 rfl rfl ?_
 exact t y d _
theorem It0 {S:KS} {r:List HP} {h:H} {α:Type} {Q:α→H→Prop} {kk:Option Addr→H→Option (α × H)} (c k:Nat) (X:CX)
  (t:∀ rg:Nat,Tr (cmC c k (frP S 0 0) X::r) h (kk (some ⟨rg,0,none⟩) h) Q) :
  Tr (cmC c k (frP S 0 0) X::r) h (bnd (A3 V3 [P0 k] h) fun v hv=>aPtr v fun x=>kk x hv) Q:=by
 refine A9 (cmC c k (frP S 0 0) X) fun u=>?_;refine Je ?_
 refine L8 2 rfl fun f=>?_
 refine A9 (D5 k ((frP S 0 0).at X.m)) fun ⟨m,s,q,rg,ea,ec,ma,mc,ms,sa,sc,ss⟩=>?_;refine Je ?_
 refine Tr.pcall (Hs0 k ((frP S 0 0).at X.m) ⟨m,s,q,rg,ea,ec,ma,mc,ms,sa,sc,ss⟩) ?_;refine Je ?_;(refine Ja ?_;unhygienic intros)
 try dsimp only
 refine A4 (D5 k ((frP S 0 0).at X.m)) ⟨m,s,q,rg,ea,ec,ma,mc,ms,sa,sc,ss⟩ ?_;refine Je ?_
 refine A4 (cmC c k (frP S 0 0) X) () ?_;refine Je ?_
 exact t rg
theorem Jf0:X1.m=By8 S6:=by kernel_rfl
theorem H53 (x:List UInt8):(⟨By8 (B7 S6 48 x),[]⟩:CX)=XB x []:=by
 unfold XB setR
 rw [Jf0];rfl
section
variable {x:List UInt8} (B:BadB x) {bad:List RecS} (hb:bad=[]∨bad=[q2]) (c k m w:Nat)
include B hb
theorem Iw5 (op a b:Int) (h3:0≤op∧op≤3):Ct A3 Dt6 [P0 c,P0 m,.agg ⟨[int op,int 2,int a,int b]⟩] [cmC c k F0 (XB x bad),rmC m w FR (XB x bad)] fun v own=>v=.bool true∧own [cmC c k F0 (XB x [q2]),rmC m w FR (XB x [q2])]:=by
 have N:=Iq0 B hb
 have R:NoR FR.caps.length (XB x bad) (XB x [q2]) 2:=I86 B hb
 refine Ct.of Ig2 rfl fun h r=>Tr.eq (Ia4 ..) ?_;refine Je ?_
 refine Yn fun b1 h=>?_
 (refine Jb ?_;unhygienic intros)
 by_cases h0:op=0
 ·refine Yt (by rw [beq_iff_eq];exact h0) ?_
  (refine Jb ?_;unhygienic intros)
  refine Yc (Hj1 c k F0 Bs1 N) ?_;rintro _ h ⟨rfl,o⟩<;>refine Jh o ?_
  (refine Jb ?_;unhygienic intros)
  refine Yc (H85 m w FR Hf8 R) ?_;rintro _ h ⟨rfl,o⟩<;>refine Jh o ?_
  (refine Jb ?_;unhygienic intros)
  refine Yc (Dj3 105) ?_;rintro _ h ⟨rfl,o⟩<;>refine Jh o ?_
  (refine Jb ?_;unhygienic intros)
  refine Ys fun o=>?_
  exact ⟨rfl,o.fin [1,0] 1 rfl rfl⟩
 refine Yf (by rw [beq_eq_false_iff_ne];exact h0) ?_
 by_cases h1:op=1
 ·refine Yt (by rw [beq_iff_eq];exact h1) ?_
  (refine Jb ?_;unhygienic intros)
  refine Yc (Ir8 c k F0 Bs1 N a) ?_;rintro _ h ⟨rfl,o⟩<;>refine Jh o ?_
  (refine Jb ?_;unhygienic intros)
  refine Yc (H60 m w FR Hf8 R a) ?_;rintro _ h ⟨rfl,o⟩<;>refine Jh o ?_
  (refine Jb ?_;unhygienic intros)
  refine Yc (Dj3 105) ?_;rintro _ h ⟨rfl,o⟩<;>refine Jh o ?_
  (refine Jb ?_;unhygienic intros)
  refine Ys fun o=>?_
  exact ⟨rfl,o.fin [1,0] 1 rfl rfl⟩
 refine Yf (by rw [beq_eq_false_iff_ne];exact h1) ?_
 by_cases h2:op=2
 ·refine Yt (by rw [beq_iff_eq];exact h2) ?_
  (refine Jb ?_;unhygienic intros)
  refine Yc (Iu2 c k F0 Bs1 N) ?_;rintro _ h ⟨rfl,o⟩<;>refine Jh o ?_
  (refine Jb ?_;unhygienic intros)
  refine Yc (Ia7 m w FR Hf8 R) ?_;rintro _ h ⟨rfl,o⟩<;>refine Jh o ?_
  (refine Jb ?_;unhygienic intros)
  refine Yc (Dj3 105) ?_;rintro _ h ⟨rfl,o⟩<;>refine Jh o ?_
  (refine Jb ?_;unhygienic intros)
  refine Ys fun o=>?_
  exact ⟨rfl,o.fin [1,0] 1 rfl rfl⟩
 refine Yf (by rw [beq_eq_false_iff_ne];exact h2) ?_
 have h4:op=3:=by omega
 refine Yt (by rw [beq_iff_eq];exact h4) ?_
 (refine Jb ?_;unhygienic intros)
 refine Yc (Ir1 c k F0 Bs1 N a b) ?_;rintro _ h ⟨rfl,o⟩<;>refine Jh o ?_
 (refine Jb ?_;unhygienic intros)
 refine Yc (H74 m w FR Hf8 R a b) ?_;rintro _ h ⟨rfl,o⟩<;>refine Jh o ?_
 (refine Jb ?_;unhygienic intros)
 refine Yc (Dj3 105) ?_;rintro _ h ⟨rfl,o⟩<;>refine Jh o ?_
 (refine Jb ?_;unhygienic intros)
 refine Ys fun o=>?_
 exact ⟨rfl,o.fin [1,0] 1 rfl rfl⟩
end
theorem Jf7 (x:List UInt8) (bad:List RecS):(XB x bad).m.getD 0 []=B7 S6 48 x:=by
 have:=congrArg CX.m (H53 x)
 show (XB x []).m.getD 0 []=_
 rw [← this];rfl
theorem H43:Ds7 3 [q2]=[q2]:=by kernel_rfl
theorem Ja2 {α:Type} (kk:Bool→Option α):A70 PR A6 (G8 q2) [int 1,int 2] kk=kk true:=by
 have:=Iz6 q2 q2 kk
 rw [decide_eq_true rfl] at this;exact this
theorem Ir0 {x:List UInt8} (B:BadB x) (c k m w bo:Nat) (a:Option Addr) (ac:Nat) (op oa ob:Int) (h3:0≤op∧op≤3) :
  CtJ E2 D6 A35 [(7,P0 bo),(9,.slice a 492 ac),(11,P0 k),(12,P0 c),(14,P0 m)] [pt bo (.cells A29 false [int op,int 2,int oa,int ob]),slC false A1 1 a 492 ac (A0 (B7 S6 48 x)),cmC c k F0 (XB x []),rmC m w FR (XB x [])] fun v own=>v=.bool true∧own []:=by
 have J:=Iw5 B (.inl rfl) c k m w op oa ob h3
 have N:=Iq0 B (bad:=[q2]) (.inr rfl)
 have hlen:(B7 S6 48 x).length=492:=by rw [Q3 (by rw [An0,B.len];omega)];exact An0
 refine CtJ.of B83 fun h r=>Tr.eq (E54 ..) ?_;refine Je ?_
 (refine Ja ?_;unhygienic intros)
 refine Yc (J) ?_;rintro _ h ⟨rfl,o⟩<;>refine Jh o ?_
 (refine Jb ?_;unhygienic intros)
 refine Yc (Dw4 c k F0 Bs1 N) ?_;rintro _ h ⟨rfl,o⟩<;>refine Jh o ?_
 (refine Jc ?_;unhygienic intros)
 refine Yn fun b1 h=>?_
 (refine Jb ?_;unhygienic intros)
 refine Yc (Hj1 c k F0 Bs1 N) ?_;rintro _ h ⟨rfl,o⟩<;>refine Jh o ?_
 (refine Jc ?_;unhygienic intros)
 refine Yn fun b2 h=>?_
 (refine Jb ?_;unhygienic intros)
 refine H7 [1,0,3] 3 rfl rfl ?_
 refine I54 A77 c k (XB x [q2]) fun y d h=>?_
 refine Je ?_
 rw [Jf7]
 refine (?_:Tr (slC false A1 1 y 492 d (A0 (B7 S6 48 x))::cmC c k F0 (XB x [q2])::pt b2 (.cells O8 false (Q5 0 105 false))::slC false A1 1 a 492 ac (A0 (B7 S6 48 x))::r) _ _ _)
 generalize B7 S6 48 x=bb at *
 (refine Jb ?_;unhygienic intros)
 refine Yb (Yt rfl ?_)
 (refine Jb ?_;unhygienic intros)
 refine Ys fun o=>(?_:Tr _ _ _ _) o;refine Je ?_
 refine Yb (Yt rfl ?_)
 refine Ys fun o=>(?_:Tr _ _ _ _) o;refine Je ?_
 refine Yb (Yt rfl ?_)
 (refine Jb ?_;unhygienic intros)
 refine Ys fun o=>(?_:Tr _ _ _ _) o;refine Je ?_
 refine Yb (Yt (by simp) ?_)
 refine Yc (Hq4 c k F0 (XB x [q2]) Bs1) ?_;rintro _ h ⟨a1,c1,rfl,o⟩<;>refine Jh o ?_
 rw [show Ds7 F0.caps.length (XB x [q2]).bad=[q2] from H43] at o ⊢
 (refine Jb ?_;unhygienic intros)
 refine Ys fun o=>(?_:Tr _ _ _ _) o;refine Je ?_
 refine Yb (Yt rfl ?_)
 refine Yc (Hq4 c k F0 (XB x [q2]) Bs1) ?_;rintro _ h ⟨a2,c2,rfl,o⟩<;>refine Jh o ?_
 rw [show Ds7 F0.caps.length (XB x [q2]).bad=[q2] from H43] at o ⊢
 rw [show ([q2]:List RecS).length=1 from rfl]
 (refine Jc ?_;unhygienic intros;repeat(refine Gw ?_;rintro px rfl;refine Jc ?_;unhygienic intros))
 refine Tr.xAggS (xs:=G8 q2) ⟨by decide,by decide,rfl⟩ ?_
 rw [Ja2]
 refine Ys fun o=>(?_:Tr _ _ _ _) o;refine Je ?_
 refine Yb (Yt rfl ?_)
 refine Yc (Id1) ?_;rintro _ h ⟨rfl,o⟩<;>refine Jh o ?_
 (refine Jb ?_;unhygienic intros)
 refine Ys fun o=>(?_:Tr _ _ _ _) o;refine Je ?_
 refine Ys fun o=>?_
 exact ⟨rfl,o.sub⟩
def Di9 (p:ProcS) (j:Nat) (by_:Int):List UInt8:=(M6 p).set j (b8 (((M6 p).getD j 0).toNat+by_))
theorem Ik5 {p:ProcS} (ok:okS p=true) {j:Nat} (hj:j<24) {by_:Int} (hb:1≤by_∧by_≤255):BadB (Di9 p j by_):=by
 refine H94 ok hj fun e=>?_
 have h:=congrArg (fun z:UInt8=>(z.toNat:Int)) e
 simp only [← A13,B73] at h
 have:=((M6 p).getD j 0).toNat_lt
 omega
theorem H92 (a:Int):B4 .i64 a 65535=a%65536:=B37 a 16 (by omega)
theorem Jf2 (n:Int):0≤B4 .i64 n 3∧B4 .i64 n 3≤3:=by rw [Ht4];omega
theorem Hm1 {p:ProcS} (ok:okS p=true) (bo bx:Nat) (a:Option Addr) (at_ by_:Int) (hb:1≤by_∧by_≤255) (op oi oa ob:Int) :
  CtJ E2 D6 A27 [(1,int at_),(2,.int .u8 by_),(7,P0 bo),(9,.slice a 492 492),(10,.slice (some (G9 bx)) 24 24)] [pt bo (.cells A29 false [int op,int oi,int oa,int ob]),slC false A1 1 a 492 492 (A0 S6),slC false A1 1 (some (G9 bx)) 24 24 (A0 (M6 p))] fun v own=>v=.bool true∧own []:=by
 have hA:0≤B4 .i64 at_ 65535:=by rw [H92];omega
 have hj:0≤Int.tmod (B4 .i64 at_ 65535) 24∧Int.tmod (B4 .i64 at_ 65535) 24<24:=by
  rw [Id2 hA];omega
 obtain ⟨j,hje⟩:∃ j:Nat,Int.tmod (B4 .i64 at_ 65535) 24=j:=⟨_,(Int.toNat_of_nonneg hj.1).symm⟩
 rw [hje] at hj
 have hjl:j<24:=by omega
 have B:=Ik5 ok hjl hb
 have hel:=Bg1 p
 have hg:(A0 (M6 p))[j]?=some (.int .u8 ((M6 p).getD j 0).toNat):=Ac7 (by omega)
 have h3:=Jf2 op
 have hsp:(B7 S6 48 (Di9 p j by_)).length=492:=by rw [Q3 (by rw [An0,B.len];omega)];exact An0
 have J:=fun c k m w oa ob=>Ir0 B c k m w bo a 492 (B4 .i64 op 3) oa ob h3
 refine CtJ.of B83 fun h r=>Tr.eq (E10 ..) ?_;refine Je ?_
 (refine Jc ?_;unhygienic intros)
 rw [hje,Int.toNat_natCast]
 refine Tr.xIntS (v:=((M6 p).getD j 0).toNat) hg ?_
 refine Tr.ck (by omega) ?_
 rw [A13]
 refine Tr.xVS (cs':=A0 (Di9 p j by_)) ⟨by rw [N8];omega,rfl,by unfold Di9 A0;rw [List.map_set]⟩ fun h=>?_
 (refine Ja ?_;unhygienic intros)
 refine Dl9 1 rfl (by omega) fun px e=>?_
 subst e
 rw [Gd7 (by omega),D06]
 refine Tr.xPAggS (cs':=A0 (B7 S6 48 (Di9 p j by_))) ⟨H62 (by rw [B.len];omega),by rw [N8,N8,B.len,An0];omega,Ad2 _,E72 _ _ 48⟩ fun h=>?_
 refine Yc (Is3 (some px) hsp) ?_;rintro _ h ⟨k,c,w,m,rfl,o⟩<;>refine Jh o ?_
 refine Je ?_
 rw [H53]
 refine Yb (Yf rfl ?_)
 refine (?_:Tr (cmC c k (frP S0 0 0) (XB (Di9 p j by_) [])::rmC m w FR (XB (Di9 p j by_) [])::slC false A1 1 (some px) 492 492 (A0 (B7 S6 48 (Di9 p j by_)))::pt bo (.cells A29 false [int op,int oi,int oa,int ob])::slC false A1 1 (some (G9 bx)) 24 24 (A0 (Di9 p j by_))::r) _ _ _)
 refine It0 (S:=S0) c k (XB (Di9 p j by_) []) fun rg=>?_
 refine Ys fun o=>(?_:Tr _ _ _ _) o;refine Je ?_
 refine Yf rfl ?_
 (refine Jc ?_;unhygienic intros)
 by_cases h4:B4 .i64 op 3=3
 ·refine Yt (by rw [beq_iff_eq];exact h4) ?_
  (refine Jc ?_;unhygienic intros)
  simp only [List.set_cons_zero,List.set_cons_succ]
  refine Yr (J c k m w (B4 .i64 oa 15) (B4 .i64 ob 15)) ?_;rintro _ h ⟨rfl,o⟩
  exact ⟨rfl,o.sub⟩
 refine Yf (by rw [beq_eq_false_iff_ne];exact h4) ?_
 simp only [List.set_cons_zero,List.set_cons_succ]
 refine Yr (J c k m w oa ob) ?_;rintro _ h ⟨rfl,o⟩
 exact ⟨rfl,o.sub⟩
theorem Ie1 (q:HP) (a:Option Addr) (ro:Bool) (ac:Nat) (l:List Int) [ks:IsSl q a ro B2 1 l.length ac (l.map int)] (at_ by_:Int) (hb:0≤by_∧by_≤255) (op oi oa ob:Int) :
  Ct A3 D6 [.slice a l.length ac,int at_,.int .u8 by_,.agg ⟨[int op,int oi,int oa,int ob]⟩] [q] fun v own=>v=.bool true∧own []:=by
 have hr:=Iv5 l
 refine Ct.of B83 rfl fun h r=>Tr.eq (Gs0 ..) ?_;refine Je ?_
 refine Yn fun bo h=>?_
 refine Yc (Hi1) ?_;rintro _ h ⟨a2,rfl,o⟩<;>refine Jh o ?_
 (refine Jc ?_;unhygienic intros)
 refine Yc (It4 q a ro ac l) ?_;rintro _ h ⟨rfl,o⟩<;>refine Jh o ?_
 (refine Jc ?_;unhygienic intros)
 refine Yc (E15 (Dj4 l)) ?_;rintro _ h ⟨rfl,o⟩<;>refine Jh o ?_
 (refine Jc ?_;unhygienic intros)
 rw [H29 hr.2,O3,Bg1]
 refine Tr.ck (by simp [A5]) ?_
 refine Yn fun bx h=>?_
 rw [show (bs (M6 (Dj4 l))).data.toList=M6 (Dj4 l) by simp [bs]]
 refine Bq3 (n:=24) 0 rfl (by rw [N8];exact Bg1 _) ?_
 refine Je ?_
 by_cases h0:by_=0
 ·refine Yt (by rw [beq_iff_eq];exact h0) ?_
  refine Yr (Hm1 hr.1 bo bx a2 at_ 1 (by omega) op oi oa ob) ?_;rintro _ h ⟨rfl,o⟩
  exact ⟨rfl,o.sub⟩
 refine Yf (by rw [beq_eq_false_iff_ne];exact h0) ?_
 refine Yr (Hm1 hr.1 bo bx a2 at_ by_ (by omega) op oi oa ob) ?_;rintro _ h ⟨rfl,o⟩
 exact ⟨rfl,o.sub⟩
end Go.EQ

set_option maxRecDepth 100000
namespace Go.EQ
open Go Go.NN Go.Proofs Go.ChangeShapes Go.WideShapes Go.RowKit
theorem I27:∀ f,(cutsOf f).globs=0:=E52 I09 (by kernel_rfl)
theorem I17:∀ f,(cutsOf f).globs≤PR.globals.size:=fun f=>by rw [I27 f];exact Nat.zero_le _
theorem I24:PR.follows .mixedOrders=true:=by kernel_rfl
theorem I90:laidOutB PR=true:=by kernel_rfl
theorem Jd2:ownKnob PR.godebug=none:=by kernel_rfl
end Go.EQ

set_option maxRecDepth 100000
namespace Go.EQ
open Go Go.NN Go.Proofs Go.Proofs.YtoegoalficgneaaGreat Go.ChangeShapes Go.WideShapes Go.RowKit
theorem Jf4 {W:World}:V8 PR W A29 (fun (_:Unit) (x:Int × Int × Int × Int)=>[int x.1,int x.2.1,int x.2.2.1,int x.2.2.2]) (fun _ _=>sl []) (fun _=>True) :=
 (V8.struct Gu5 (by kernel_rfl) (D09.cons (V8.int Ga3) (D09.cons (V8.int Ga3) (D09.cons (V8.int Ga3) (D09.cons (V8.int Ga3) D09.nil))))).as
  fun ⟨k,i,a,b,_⟩ _=>⟨(k,i,a,b),trivial,fun _=>⟨(),rfl,fun hh r o=>o.of_sl 0 rfl⟩⟩
theorem I57 {H:Type} {enc:TypeId × Value→H} {W:World} {v0 v1 v2 v3:Value} {d0 d1 d2 d3:DataW H} {p0 p1 p2 p3:List MemPlace} {b0:Nat} (k0:Value.okWide PR W .any b0 L0 v0) (k1:Value.okWide PR W .any b0 B2 v1) (k2:Value.okWide PR W .any b0 A1 v2) (k3:Value.okWide PR W .any b0 A29 v3)
  (h0:DataW.Trod enc PR W 0 (fun _=>true) true L0 v0 d0 p0) (h1:DataW.Trod enc PR W 0 (fun _=>true) true B2 v1 d1 p1) (h2:DataW.Trod enc PR W 0 (fun _=>true) true A1 v2 d2 p2) (h3:DataW.Trod enc PR W 0 (fun _=>true) true A29 v3 d3 p3) :
  Calls PR D6 #[v0,v1,v2,v3] W fun e W'=>e=.returned (.bool true)∧Below W.heap.size W W':=by
 obtain ⟨x0,hl0,i0⟩:=(V8.ints (P:=PR) (W:=W) B2 H26 Ga3 (by kernel_rfl)).arg (Hx0 H26 k0) h0
 obtain ⟨x1,_,i1⟩:=V8.argInt Ga3 k1 h1
 obtain ⟨x2,wf,i2⟩:=V8.argInt I39 k2 h2
 obtain ⟨⟨o0,o1,o2,o3⟩,_,i3⟩:=Jf4.argAgg Gu5 k3 h3
 have hb:0≤x2∧x2≤255:=by
  simp only [Lit.wf] at wf
  rw [Bool.and_eq_true,decide_eq_true_iff,decide_eq_true_iff] at wf
  exact wf
 refine (i0.app (i1.app (i2.app i3))).run I24 I17 fun vs ps J hh r o=>?_
 obtain ⟨_,_,_,_,hv0,hp0,⟨⟨a0,c0⟩,e0a,e0b⟩,_,_,_,_,hv1,hp1,⟨e1a,e1b⟩,_,_,_,_,hv2,hp2,⟨e2a,e2b⟩,⟨_,e3a,e3b⟩⟩:=J
 subst e0a
 subst e0b
 subst e1a
 subst e1b
 subst e2a
 subst e2b
 subst e3a
 subst e3b
 subst hv2
 subst hp2
 subst hv1
 subst hp1
 subst hv0
 subst hp0
 have O:Own hh ([(slC true B2 1 a0 x0.length c0 (x0.map int))]++r):=by
  have o2:Own hh (sl []::slC true B2 1 a0 x0.length c0 (x0.map int)::r):=o
  exact o2.join
 obtain ⟨v,h',e,rfl,_⟩:=Ie1 (slC true B2 1 a0 x0.length c0 (x0.map int)) a0 true c0 x0 x1 x2 hb o0 o1 o2 o3 hh r O
 exact ⟨h',e⟩
theorem Ix8 (os:Os) (started:os.Started) (H:Type) (enc:TypeId × Value→H) :
  ReturnsInHanded {} Tryz.checked os D6 .any (Rows.procBadSpec.pre6 enc Tryz.prog Tryz.f4 Rows.procBadRow.domain false) (Rows.procBadSpec.post enc Tryz.prog Tryz.f4 false true false false):=by
 refine returnsInHanded_of_change (C:=Tryz.checked) Jd2 started (by kernel_rfl) Tryz.func4
  (ChangeSpec.witness6 (enc:=enc) (C:=Tryz.checked) false ⟨#[],#[.slice none 0 0,.int .i64 0,.int .u8 0,.agg #[.int .i64 0,.int .i64 0,.int .i64 0,.int .i64 0]],[]⟩ 8 (by kernel_rfl) (by kernel_rfl) (by kernel_rfl) (by kernel_rfl)) ?_
 intro W base args ds gs before hval hW hcnd _
 have hW':=hW
 obtain ⟨p,q,hA,hV,rfl,hfz,hnd⟩:=hW
 rw [Tryz.params4] at hA hval
 obtain ⟨v0,v1,v2,v3,d0,d1,d2,d3,p0,p1,p2,p3,rfl,rfl,rfl,h0,h1,h2,h3⟩:=trodAll_four hA
 refine (I57 (hval 0 _ v0 rfl rfl) (hval 1 _ v1 rfl rfl) (hval 2 _ v2 rfl rfl) (hval 3 _ v3 rfl rfl) h0 h1 h2 h3).mono fun e W' ⟨he,hb⟩=>?_
 subst he
 refine ⟨_,rfl,Im2 I90 ?_ rfl Jb8 rfl (fun ds gs hl=>?_) hW' hb⟩
 ·rw [Tryz.params4];intro t ht;simp at ht;rcases ht with rfl|rfl|rfl|rfl<;>exact ⟨by kernel_rfl,of_decide_eq_true (by kernel_rfl)⟩
 ·replace hl:ds.length=4:=hl
  cases gs with
  | cons _ _=>exact .inr (by simp)
  | nil=>match ds,hl with|[_,_,_,_],_=>exact .inl rfl
theorem I77:Tryz.pinned.checked.prog.funcNamed Rows.procBadRow.func=some D6:=by kernel_rfl
theorem A7 {a b:Bool} (x:(a && b)=true):a=true:=by cases a<;>simp_all
theorem A43 {a b:Bool} (x:(a && b)=true):b=true:=by cases a<;>simp_all
theorem Aw8 {a b:Bool} (x:a=true) (y:b=true):(a && b)=true:=by rw [x,y];rfl
theorem Jf8:(Rows.procBadRow.wf (OpenSpec.ofChange Rows.procBadSpec) && laidOutB Tryz.pinned.checked.prog && mapsRowed Tryz.pinned.checked.prog && Tryz.f4.params.all (Tryz.pinned.checked.prog.readableRec ·) && namedTie Tryz.pinned.checked.prog Rows.procBadRow.named Rows.procBadSpec.vars && (Rows.procBadRow.stops==[]) && (Tryz.pinned.checked.prog.stops==[]) && (Rows.procBadRow.knobs==[]) && (Tryz.pinned.checked.prog.stopKnobs==[]))=true:=by kernel_rfl
theorem Ib5:((Rows.procBadRow.inPlace==Tryz.pinned.checked.prog.inPlace D6) && (Rows.procBadRow.unfollowed==Tryz.pinned.checked.prog.unfollowed D6) && (Rows.procBadRow.recurses==Tryz.pinned.checked.prog.recurses D6) && (Rows.procBadRow.named==Tryz.pinned.checked.prog.varsNamed D6))=true:=by kernel_rfl
theorem Bd5:((Rows.procBadRow.maps==(Tryz.f4.params.toList++Rows.procBadSpec.plain.varTypes Tryz.pinned.checked.prog).any (Tryz.pinned.checked.prog.mapsRec ·)) && (Rows.procBadRow.ifaces==(Tryz.f4.params.toList++Rows.procBadSpec.plain.varTypes Tryz.pinned.checked.prog).any (Tryz.pinned.checked.prog.ifacesRec ·)) && (Rows.procBadRow.mapsOut==Tryz.pinned.checked.prog.mapsAmong Tryz.f4.resultTypes.toList) && (Rows.procBadRow.loops==(Tryz.f4.params.toList++Rows.procBadSpec.plain.varTypes Tryz.pinned.checked.prog).any (Tryz.pinned.checked.prog.loopsFrom ·)) && (Rows.procBadRow.wideKeys==(Tryz.f4.params.toList++Rows.procBadSpec.plain.varTypes Tryz.pinned.checked.prog++Tryz.f4.resultTypes.toList).any (Tryz.pinned.checked.prog.wideKeysFrom ·)) && Rows.procBadSpec.vars.all (Tryz.pinned.checked.prog.varReadable ·) && Tryz.f4.resultTypes.all (fun t=>Tryz.pinned.checked.prog.readableRec t && decide (t<Tryz.pinned.checked.prog.types.size)) && (Rows.procBadRow.ifacesOut==Tryz.f4.resultTypes.toList.any (Tryz.pinned.checked.prog.ifacesRec ·)) && (Rows.procBadRow.loopsOut==Tryz.f4.resultTypes.toList.any (Tryz.pinned.checked.prog.loopsFrom ·)) && (Rows.procBadRow.plainKeys==Tryz.pinned.checked.prog.plainKeys) && Rows.procBadRow.shortTexts.isNone && Tryz.pinned.checked.prog.stopsHeard && Tryz.pinned.checked.prog.mayEnter && (Rows.procBadRow.lifted==Tryz.pinned.checked.prog.liftsFinal) && (Tryz.pinned.checked.prog.make==some Rows.procBadRow.make) && (Rows.procBadRow.kinds==(if Rows.procBadRow.domain.isEmpty then [] else Tryz.f4.params.toList.map fun t=>match Tryz.pinned.checked.prog.underlying t with|some (.int k)=>some k|_=>none)) && (Rows.procBadRow.pinned==Rows.procBadRow.pinnedBy) && (Rows.procBadRow.veiled==(Tryz.f4.params.toList++Rows.procBadSpec.plain.varTypes Tryz.pinned.checked.prog++Tryz.f4.resultTypes.toList).any (Tryz.pinned.checked.prog.veiledRec ·)) && Rows.procBadRow.veiledFits Tryz.pinned.checked.prog Tryz.f4.params.toList (Tryz.f4.params.toList++Rows.procBadSpec.plain.varTypes Tryz.pinned.checked.prog++Tryz.f4.resultTypes.toList))=true:=by kernel_rfl
theorem Iu8:joinedFacts Tryz.pinned.checked.prog D6 Tryz.f4 Rows.procBadSpec Rows.procBadRow=true:=by
 unfold joinedFacts
 exact (Aw8 (Aw8 (Aw8 (Aw8 (Aw8 (Aw8 (Aw8 (Aw8 (Aw8 (Aw8 (Aw8 (Aw8 (Aw8 (Aw8 (Aw8 (Aw8 (Aw8 (Aw8 (Aw8 (Aw8 (Aw8 (Aw8 (Aw8 Jf8 (A7 (A7 (A7 Ib5)))) (A43 (A7 (A7 Ib5)))) (A43 (A7 Ib5))) (A43 Ib5)) (A7 (A7 (A7 (A7 (A7 (A7 (A7 (A7 (A7 (A7 (A7 (A7 (A7 (A7 (A7 (A7 (A7 (A7 Bd5))))))))))))))))))) (A43 (A7 (A7 (A7 (A7 (A7 (A7 (A7 (A7 (A7 (A7 (A7 (A7 (A7 (A7 (A7 (A7 (A7 Bd5))))))))))))))))))) (A43 (A7 (A7 (A7 (A7 (A7 (A7 (A7 (A7 (A7 (A7 (A7 (A7 (A7 (A7 (A7 (A7 Bd5)))))))))))))))))) (A43 (A7 (A7 (A7 (A7 (A7 (A7 (A7 (A7 (A7 (A7 (A7 (A7 (A7 (A7 (A7 Bd5))))))))))))))))) (A43 (A7 (A7 (A7 (A7 (A7 (A7 (A7 (A7 (A7 (A7 (A7 (A7 (A7 (A7 Bd5)))))))))))))))) (A43 (A7 (A7 (A7 (A7 (A7 (A7 (A7 (A7 (A7 (A7 (A7 (A7 (A7 Bd5))))))))))))))) (A43 (A7 (A7 (A7 (A7 (A7 (A7 (A7 (A7 (A7 (A7 (A7 (A7 Bd5)))))))))))))) (A43 (A7 (A7 (A7 (A7 (A7 (A7 (A7 (A7 (A7 (A7 (A7 Bd5))))))))))))) (A43 (A7 (A7 (A7 (A7 (A7 (A7 (A7 (A7 (A7 (A7 Bd5)))))))))))) (A43 (A7 (A7 (A7 (A7 (A7 (A7 (A7 (A7 (A7 Bd5))))))))))) (A43 (A7 (A7 (A7 (A7 (A7 (A7 (A7 (A7 Bd5)))))))))) (A43 (A7 (A7 (A7 (A7 (A7 (A7 (A7 Bd5))))))))) (A43 (A7 (A7 (A7 (A7 (A7 (A7 Bd5)))))))) (A43 (A7 (A7 (A7 (A7 (A7 Bd5))))))) (A43 (A7 (A7 (A7 (A7 Bd5)))))) (A43 (A7 (A7 (A7 Bd5))))) (A43 (A7 (A7 Bd5)))) (A43 (A7 Bd5))) (A43 Bd5))
theorem I81:Tryz.f4.isInstance Tryz.pinned.checked.prog Rows.procBadRow.origin Rows.procBadRow.targs:=of_decide_eq_true (by kernel_rfl)
theorem Ja9:Tryz.f4.isWrapper Tryz.pinned.checked.prog Rows.procBadRow.wrapper Rows.procBadRow.mainSum:=by unfold Func.isWrapper;first|(rw [if_pos (by decide +kernel)];kernel_rfl)|(rw [if_neg (by decide +kernel)];exact ⟨rfl,rfl⟩)
theorem ProcBad_holds:Rows.ProcBadSaid :=
 OpenClaim.holds_of_wide D6 Tryz.f4 rfl rfl rfl rfl rfl rfl rfl ⟨rfl,rfl,rfl,rfl,rfl⟩ rfl rfl rfl rfl rfl I77 Tryz.func4 Iu8 I81 Ja9
  (fun os started H enc _=>Ix8 os started H enc)
end Go.EQ
