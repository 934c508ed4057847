/- Records are read, set and freed as the document says, among others who write any bytes; what was bad once is bad for ever, for this one. -/
import Derived.Test.YtmhfkfijaamamaaGreatMi
set_option linter.all false
set_option maxRecDepth 10000
namespace Go.EQ
open Go Go.NN
def Bz6 (R:RgS) (e name a n:Int):List UInt8 × Int :=
 if (D5 R e name 1 a n).2=0 then ((R.M.drop (D5 R e name 1 a n).1.toNat).take n.toNat,0) else ([],(D5 R e name 1 a n).2)
theorem Ij3 (g:Nat) (R:RgS) (k:RgOkS R) (e name a n:Int):Ct A4 Az3 [P0 g,int e,int name,int a,int n] [rgC g R] fun v own=>v=.tuple ⟨[.string (bs (Bz6 R e name a n).1),int (Bz6 R e name a n).2]⟩∧own [rgC g R]:=by
 refine Ct.of Eu4 rfl fun h r=>Tr.eq (Eu9 ..) ?_;refine Je ?_
 refine Yc (G19 g R k e name 1 a n) ?_;rintro _ h ⟨rfl,o⟩<;>(refine Jf o ?_;unhygienic intros)
 simp only [v2]
 (refine Ja ?_;unhygienic intros)
 by_cases h0:(D5 R e name 1 a n).2=0
 ·have e1:Bz6 R e name a n=((R.M.drop (D5 R e name 1 a n).1.toNat).take n.toNat,0):=by unfold Bz6;rw [if_pos h0]
  obtain ⟨c1,c2,c3⟩:=E63 k (show D5 R e name 1 a n=((D5 R e name 1 a n).1,0) by rw [← h0])
  rw [e1]
  generalize (D5 R e name 1 a n).1=p at c1 c3
  refine Yf (by simpa using h0) ?_
  have hm:=k.mem
  have e2:IntKind.wrap .i64 (p+n)=p+n:=by rw [B0];omega
  refine A7 (rgC g R) fun ⟨q,la,lc,za,zc,s⟩=>?_;refine Je ?_
  (refine Ja ?_;unhygienic intros)
  rw [e2]
  refine Je ?_
  have hoff:(bif decide (p.toNat<R.M.length) then p.toNat else 0)=p.toNat∨(n.toNat=0∧(bif decide (p.toNat<R.M.length) then p.toNat else 0)=0):=by
   by_cases hlt:p.toNat<R.M.length
   ·left;simp [hlt]
   ·right;exact ⟨by omega,by simp [hlt]⟩
  rw [show (p+n).toNat-p.toNat=n.toNat by omega]
  refine Tr.xCellsB (xs:=A0 ((R.M.drop p.toNat).take n.toNat)) ⟨?_,?_⟩ ?_
  ·simp only [Ae2];rcases hoff with e|⟨e0,e⟩<;>rw [e]<;>omega
  ·rcases hoff with e|⟨e0,e⟩<;>rw [e]
   ·rw [A98,Bs5]
   ·rw [e0,List.take_zero,List.take_zero];rfl
  (refine Ja ?_;unhygienic intros)
  refine A5 (rgC g R) ⟨q,la,lc,za,zc,s⟩ ?_;refine Je ?_
  refine Ys fun o=>?_
  exact ⟨rfl,o.sub⟩
 ·have e1:Bz6 R e name a n=([],(D5 R e name 1 a n).2):=by unfold Bz6;rw [if_neg h0]
  refine Yt (by simpa using h0) ?_
  (refine Ja ?_;unhygienic intros)
  refine Ys fun o=>?_
  rw [e1];exact ⟨rfl,o.sub⟩
theorem Hv9 (w:Nat) (K:RKS) (k:RKOk K) (e:Nat) (he:e<K.B.envs.length) (c:CallS) (h2:c.op=1) (ba:Option Addr) (bc:Nat) :
  Ct A4 U5 [P0 w,int e,.agg ⟨Bs6 c ba bc⟩] [rkC w K] fun v own=>v=.tuple ⟨[int (Bz6 K.R e c.cap c.at_ c.n).2,int 0,.string (bs (Bz6 K.R e c.cap c.at_ c.n).1)]⟩∧own [rkC w K]:=by
 refine Ct.of Ed2 rfl fun h r=>Tr.eq (Eg8 ..) ?_;refine Je ?_
 refine Yn fun b1 h=>?_
 refine A7 (rkC w K) fun ⟨⟨fa,fc,ea,ec,sa,sc,ss,ha,hc,hs⟩,q,g,ta,tc,ts⟩=>?_;refine Je ?_
 (refine Ja ?_;unhygienic intros)
 refine Yf (by simp;omega) ?_
 (refine Ja ?_;unhygienic intros)
 rw [h2]
 (refine Jd ?_;unhygienic intros)
 refine Yc (Ij3 g K.R k.R e c.cap c.at_ c.n) ?_;rintro _ h ⟨rfl,o⟩<;>(refine Jf o ?_;unhygienic intros)
 refine D3 (rkC w K) ⟨⟨fa,fc,ea,ec,sa,sc,ss,ha,hc,hs⟩,q,g,ta,tc,ts⟩ [1,1,1,1,1,1,1,1,0,0,0,0] rfl ?_;refine Je ?_
 refine Ys fun o=>?_
 exact ⟨rfl,o.sub⟩
theorem Gp8 (n lo hi:Int) (h:NN.H):A4 Q2 [int n,int lo,int hi] h=some (.bool (decide (n≥lo) && decide (n≤hi)),h) :=
 H64.call rfl ((Hz8 ..).trans (by cases decide (n≥lo)<;>rfl))
theorem Is9 (n:Int) (h:NN.H):A4 Ah8 [int n] h=some (.bool (decide (n≥0) && N9 .i64 n 65534==0),h) :=
 Go2.call rfl ((Go9 ..).trans (by cases decide (n≥0)<;>rfl))
theorem E37 (l:List UInt8) (hl:l.length≤1000):∀ (m i:Nat),i+m=l.length →
  S8 E9 Ac2 Bm0 [(0,.string (bs l)),(3,int i)] [] (.bool ((l.drop i).all (·==0)))
 | 0,i,hi=>by
  obtain rfl:i=l.length:=by omega
  refine S8.of D12 fun h r=>Tr.eq (D68 ..) ?_;refine Je ?_
  refine Yf (by rw [U6];simp) ?_
  rw [List.drop_length]
  refine Ys fun o=>?_
  exact ⟨rfl,rfl⟩
 | m+1,i,hi=>by
  have e1:=wN i
  have ih:=E37 l hl m (i+1) (by omega)
  have hd:l.drop i=l.getD i 0::l.drop (i+1):=by rw [List.drop_eq_getElem_cons (by omega),List.getD_eq_getElem?_getD,List.getElem?_eq_getElem (by omega)];rfl
  rw [hd,List.all_cons]
  generalize hx:l.getD i 0=x at *
  refine S8.of D12 fun h r=>Tr.eq (D68 ..) ?_;refine Je ?_
  refine Yt (by rw [U6];simp;omega) ?_
  rw [e1]
  refine Tr.ck (by rw [U6];omega) ?_
  rw [Int.toNat_natCast,hx]
  by_cases h0:x=0
  ·refine Yf (by rw [h0];rfl) ?_
   rw [h0]
   exact Tr.prun ih fun o=>⟨rfl,rfl⟩
  ·refine Yt (by rw [bne_iff_ne];intro h;exact h0 (UInt8.toNat_inj.1 (by simpa using h))) ?_
   refine Ys fun o=>?_
   exact ⟨by rw [beq_eq_false_iff_ne.2 h0];rfl,rfl⟩
theorem Ep4 (l:List UInt8) (hl:l.length≤1000):CtP A4 Ac2 [.string (bs l)] [] (.bool (l.all (·==0))):=by
 have J:=E37 l hl l.length 0 (by omega)
 refine CtP.of D12 rfl fun h r=>Tr.eq (Hi6 ..) ?_;refine Je ?_
 exact Tr.prun J fun o=>⟨rfl,rfl⟩
theorem Gm5 (f:FileS):Ct A4 A86 [.agg ⟨Z6 f⟩] [] fun v own=>v=.bool (okF f)∧own []:=by
 refine Ct.of Gx8 rfl fun h r=>Tr.eq (Gy7 ..) ?_;refine Je ?_
 refine Yn fun b h=>?_
 (refine Jb ?_;unhygienic intros)
 simp only [Gp8]
 (refine Ja ?_;unhygienic intros)
 refine Ys fun o=>?_
 refine ⟨?_,o.sub⟩
 refine congrArg Value.bool ?_
 unfold okF
 rw [Bool.eq_iff_iff]
 simp only [Bool.and_eq_true,Bool.or_eq_true,decide_eq_true_eq,bne_iff_ne,beq_iff_eq]
 omega
theorem Gn5 (p:PipeS):Ct A4 Ba5 [.agg ⟨D0 p⟩] [] fun v own=>v=.bool (okP p)∧own []:=by
 refine Ct.of Gy2 rfl fun h r=>Tr.eq (Gt7 ..) ?_;refine Je ?_
 refine Yn fun b h=>?_
 (refine Jb ?_;unhygienic intros)
 simp only [Gp8]
 (refine Ja ?_;unhygienic intros)
 refine Ys fun o=>?_
 refine ⟨?_,o.sub⟩
 refine congrArg Value.bool ?_
 unfold okP
 rw [Bool.eq_iff_iff]
 simp only [Bool.and_eq_true,Bool.or_eq_true,decide_eq_true_eq,bne_iff_ne,beq_iff_eq]
theorem H03 (l:List UInt8) (hl:l.length=8):Ct A4 Bs4 [.string (bs l)] [] fun v own=>v=.tuple ⟨[.agg ⟨Z6 (V3 l).1⟩,int (V3 l).2]⟩∧own []:=by
 have hb:∀ i,(List.getD l i 0).toNat=byI l i:=fun i=>rfl
 refine Ct.of Gu1 rfl fun h r=>Tr.eq (Gz1 ..) ?_;refine Je ?_
 refine Yn fun b1 h=>?_
 rw [U6,hl]
 refine Yf rfl ?_
 refine Tr.pcall (Ep4 l (by omega)) ?_;refine Je ?_;(refine Ja ?_;unhygienic intros)
 cases hz:l.all (·==0) with
 | true =>
  have e:V3 l=(.zero,0):=by unfold V3;rw [hz];rfl
  refine Yt rfl ?_
  (refine Ja ?_;unhygienic intros)
  refine Ys fun o=>?_
  rw [e];exact ⟨rfl,o.sub⟩
 | false =>
  refine Yf rfl ?_
  (refine Jc ?_;unhygienic intros)
  refine Yn fun b2 h=>?_
  simp only [Ac7]
  refine (?_:Tr _ _ (pAgg ⟨b2,0,none⟩ (Z6 (Bv3 l)) _ _) _)
  have e:V3 l=if okF (Bv3 l) && decide (Bf2 (Bv3 l)=l) then (Bv3 l,1) else (.zero,2):=by unfold V3 isF;rw [hz];rfl
  rw [e]
  generalize Bv3 l=f
  (refine Jb ?_;unhygienic intros)
  refine Yc (Gm5 f) ?_;rintro _ h ⟨rfl,o⟩<;>refine Jh o ?_
  (refine Jb ?_;unhygienic intros)
  cases hk:okF f with
  | false =>
   refine Yb (Yt rfl ?_)
   refine Ys fun o=>(?_:Tr _ _ _ _) o;refine Je ?_
   refine Yt rfl ?_
   (refine Ja ?_;unhygienic intros)
   refine Ys fun o=>?_
   exact ⟨rfl,o.sub⟩
  | true =>
   refine Yb (Yf rfl ?_)
   (refine Jb ?_;unhygienic intros)
   refine Yc (G30 f) ?_;rintro _ h ⟨rfl,o⟩<;>refine Jh o ?_
   (refine Jb ?_;unhygienic intros)
   refine Ys fun o=>(?_:Tr _ _ _ _) o;refine Je ?_
   by_cases he:Bf2 f=l
   ·refine Yf (by rw [he];simp) ?_
    (refine Ja ?_;unhygienic intros)
    refine Ys fun o=>?_
    rw [decide_eq_true he];exact ⟨rfl,o.sub⟩
   ·refine Yt (by rw [Ak3,Ak3,beq_eq_false_iff_ne.2 he];rfl) ?_
    (refine Ja ?_;unhygienic intros)
    refine Ys fun o=>?_
    rw [decide_eq_false he];exact ⟨rfl,o.sub⟩
theorem Ih2 (p:PipeS) {j:Nat} (h:j<32) (x:UInt8):De5 (D0 p) (4+j) (.int .u8 x.toNat)=some (D0 ⟨p.head,p.count,p.readers,p.writers,p.data.set j x,by rw [List.length_set];exact p.len⟩):=by
 have e:Nat.blt (4+j) (D0 p).length=true:=by rw [O0 p.len];exact Nat.ble_eq_true_of_le (by omega)
 unfold De5
 rw [e,show 4+j=j+4 by omega]
 show some ((D0 p).set (j+4) _)=_
 simp only [D0,List.set_cons_succ,A0,List.map_set]
abbrev pfx (l:List UInt8) (i:Nat):List UInt8:=(l.drop 8).take i++List.replicate (32-i) 0
theorem Bs1 (l:List UInt8) (hl:l.length=40) (i:Nat) (h:i≤32):(pfx l i).length=32:=by simp [hl];omega
theorem Iq2 (l:List UInt8) (hl:l.length=40) (i:Nat) (h:i<32):(pfx l i).set i (l.getD (8+i) 0)=pfx l (i+1):=by
 refine List.ext_getElem? fun j=>?_
 rw [List.getElem?_set]
 have e1:((l.drop 8).take i).length=i:=by simp [hl];omega
 have e2:((l.drop 8).take (i+1)).length=i+1:=by simp [hl];omega
 by_cases hj:i=j
 ·subst hj
  rw [if_pos rfl,if_pos (by rw [Bs1 l hl i (by omega)];omega),List.getElem?_append_left (by omega),List.getElem?_take,if_pos (by omega),List.getElem?_drop,List.getD_eq_getElem?_getD,List.getElem?_eq_getElem (by omega)];rfl
 ·rw [if_neg hj]
  by_cases h2:j<i
  ·rw [List.getElem?_append_left (by omega),List.getElem?_append_left (by omega),List.getElem?_take,List.getElem?_take,if_pos h2,if_pos (by omega)]
  ·rw [List.getElem?_append_right (by omega),List.getElem?_append_right (by omega),e1,e2,List.getElem?_replicate,List.getElem?_replicate]
   by_cases h3:j<32
   ·rw [if_pos (by omega),if_pos (by omega)]
   ·rw [if_neg (by omega),if_neg (by omega)]
theorem Ir7 (l:List UInt8) (hl:l.length=40):pfx l 32=Br9 (l.drop 8):=by
 rw [El7 (by simp [hl])];unfold pfx;rw [show 32-32=0 from rfl,List.replicate_zero,List.append_nil];exact List.take_of_length_le (by simp [hl])
theorem Er6 (l:List UInt8) (hl:l.length=40) (b1 b2:Nat) (hz:l.all (·==0)=false):∀ (m i:Nat) (hi:i+m=32),
  CtJ E9 Ae3 A81 [(0,.string (bs l)),(2,P0 b1),(4,P0 b2),(5,int i)] [pt b1 (.cells B3 false (D0 .zero)),pt b2 (.cells B3 false (D0 ⟨byI l 1,byI l 2,byI l 3,byI l 4,pfx l i,Bs1 l hl i (by omega)⟩))] fun v own=>v=.tuple ⟨[.agg ⟨D0 (H7 l).1⟩,int (H7 l).2]⟩∧own []
 | 0,i,hi=>by
  obtain rfl:i=32:=by omega
  have e:H7 l=if okP (Av1 l) && decide (Al3 (Av1 l)=l) then (Av1 l,1) else (.zero,2):=by unfold H7 isP;rw [hz];rfl
  have e2:(⟨byI l 1,byI l 2,byI l 3,byI l 4,pfx l 32,Bs1 l hl 32 (by omega)⟩:PipeS)=Av1 l:=by unfold Av1;simp only [Ir7 l hl]
  rw [e,e2]
  have hq:(D0 (Av1 l)).length=36:=O0 (Av1 l).len
  generalize Av1 l=f at *
  refine CtJ.of Df6 fun h r=>Tr.eq (Dp3 ..) ?_;refine Je ?_
  refine Yf rfl ?_
  (refine Jb ?_;unhygienic intros)
  refine Yc (Gn5 f) ?_;rintro _ h ⟨rfl,o⟩<;>refine Jh o ?_
  (refine Jb ?_;unhygienic intros)
  cases hk:okP f with
  | false =>
   refine Yb (Yt rfl ?_)
   refine Ys fun o=>(?_:Tr _ _ _ _) o;refine Je ?_
   refine Yt rfl ?_
   (refine Ja ?_;unhygienic intros)
   refine Ys fun o=>?_
   exact ⟨rfl,o.sub⟩
  | true =>
   refine Yb (Yf rfl ?_)
   (refine Jb ?_;unhygienic intros)
   refine Yc (E36 f) ?_;rintro _ h ⟨rfl,o⟩<;>refine Jh o ?_
   (refine Jb ?_;unhygienic intros)
   refine Ys fun o=>(?_:Tr _ _ _ _) o;refine Je ?_
   by_cases he:Al3 f=l
   ·refine Yf (by rw [he];simp) ?_
    (refine Ja ?_;unhygienic intros)
    refine Gs (fun h=>?_) (by exact B38 (O0 PipeS.zero.len) hq (Gz9 f))
    (refine Ja ?_;unhygienic intros)
    refine Ys fun o=>?_
    rw [decide_eq_true he];exact ⟨rfl,o.sub⟩
   ·refine Yt (by rw [Ak3,Ak3,beq_eq_false_iff_ne.2 he];rfl) ?_
    (refine Ja ?_;unhygienic intros)
    refine Ys fun o=>?_
    rw [decide_eq_false he];exact ⟨rfl,o.sub⟩
 | m+1,i,hi=>by
  have e1:=wN i
  have e2:IntKind.wrap .i64 (8+(i:Int))=((8+i:Nat):Int):=by rw [B0];omega
  have ih:=Er6 l hl b1 b2 hz m (i+1) (by omega)
  refine CtJ.of Df6 fun h r=>Tr.eq (Dp3 ..) ?_;refine Je ?_
  refine Yt (by simp;omega) ?_
  rw [e1,e2,U6,hl]
  refine Tr.ck (by omega) ?_
  have hs:=Ih2 ⟨byI l 1,byI l 2,byI l 3,byI l 4,pfx l i,Bs1 l hl i (by omega)⟩ (j:=i) (by omega) (l.getD (8+i) 0)
  have hp:=Iq2 l hl i (by omega)
  have hs2:De5 (D0 ⟨byI l 1,byI l 2,byI l 3,byI l 4,pfx l i,Bs1 l hl i (by omega)⟩) (4+i) (.int .u8 (l.getD (8+i) 0).toNat)=some (D0 ⟨byI l 1,byI l 2,byI l 3,byI l 4,pfx l (i+1),Bs1 l hl (i+1) (by omega)⟩):=by rw [hs];simp only [hp]
  clear hs hp
  generalize (⟨byI l 1,byI l 2,byI l 3,byI l 4,pfx l i,Bs1 l hl i (by omega)⟩:PipeS)=p0 at *
  generalize (⟨byI l 1,byI l 2,byI l 3,byI l 4,pfx l (i+1),Bs1 l hl (i+1) (by omega)⟩:PipeS)=p1 at *
  (refine Jb ?_;unhygienic intros)
  exact Yr ih fun v h q=>q
theorem H45 (l:List UInt8) (hl:l.length=40):Ct A4 Ae3 [.string (bs l)] [] fun v own=>v=.tuple ⟨[.agg ⟨D0 (H7 l).1⟩,int (H7 l).2]⟩∧own []:=by
 refine Ct.of Df6 rfl fun h r=>Tr.eq (Gt8 ..) ?_;refine Je ?_
 refine Yn fun b1 h=>?_
 rw [U6,hl]
 refine Yf rfl ?_
 refine Tr.pcall (Ep4 l (by omega)) ?_;refine Je ?_;(refine Ja ?_;unhygienic intros)
 cases hz:l.all (·==0) with
 | true =>
  have e:H7 l=(.zero,0):=by unfold H7;rw [hz];rfl
  refine Yt rfl ?_
  (refine Ja ?_;unhygienic intros)
  refine Ys fun o=>?_
  rw [e];exact ⟨rfl,o.sub⟩
 | false =>
  have J:=fun b2=>Er6 l hl b1 b2 hz 32 0 rfl
  refine Yf rfl ?_
  (refine Jc ?_;unhygienic intros)
  refine Yn fun b2 h=>?_
  simp only [Ac7]
  (refine Jb ?_;unhygienic intros)
  refine (?_:Tr (pt b2 (.cells B3 false (D0 ⟨byI l 1,byI l 2,byI l 3,byI l 4,pfx l 0,Bs1 l hl 0 (by omega)⟩))::pt b1 (.cells B3 false (D0 .zero))::_) _ _ _)
  refine U0 [1,0] 0 rfl rfl ?_
  exact Yr (J b2) fun v h q=>q
theorem Io3 (a b:Int):BitVec.ofInt 64 (Dw8 .i64 a b)=BitVec.ofInt 64 a ||| BitVec.ofInt 64 b:=by
 unfold Dw8;rw [E98];exact Gn0 _
theorem bA0 (a b:Int):B5 .i64 a b=0↔BitVec.ofInt 64 a &&& BitVec.ofInt 64 b=0#64 :=
 ⟨fun h=>by rw [← Gh4,h];rfl,Dx8⟩
theorem I45 (a b c w:BitVec 64):(a ||| b ||| c) &&& w=0#64↔a &&& w=0#64∧b &&& w=0#64∧c &&& w=0#64:=by
 constructor
 ·intro h
  have hb:∀ i,((a.getLsbD i || b.getLsbD i || c.getLsbD i) && w.getLsbD i)=false:=fun i=>by
   have:=congrArg (·.getLsbD i) h
   simpa only [BitVec.getLsbD_and,BitVec.getLsbD_or,BitVec.getLsbD_zero] using this
  refine ⟨?_,?_,?_⟩<;>(apply BitVec.eq_of_getLsbD_eq;intro i hi;have:=hb i;simp only [BitVec.getLsbD_and,BitVec.getLsbD_zero];revert this;cases a.getLsbD i<;>cases b.getLsbD i<;>cases c.getLsbD i<;>cases w.getLsbD i<;>simp)
 ·rintro ⟨h1,h2,h3⟩
  apply BitVec.eq_of_getLsbD_eq;intro i hi
  have g1:=congrArg (·.getLsbD i) h1
  have g2:=congrArg (·.getLsbD i) h2
  have g3:=congrArg (·.getLsbD i) h3
  simp only [BitVec.getLsbD_and,BitVec.getLsbD_zero] at g1 g2 g3
  simp only [BitVec.getLsbD_and,BitVec.getLsbD_or,BitVec.getLsbD_zero]
  revert g1 g2 g3;cases a.getLsbD i<;>cases b.getLsbD i<;>cases c.getLsbD i<;>cases w.getLsbD i<;>simp
theorem bO3 (a b c w:Int):B5 .i64 (Dw8 .i64 (Dw8 .i64 a b) c) w=0↔B5 .i64 a w=0∧B5 .i64 b w=0∧B5 .i64 c w=0:=by
 rw [bA0,bA0,bA0,bA0,Io3,Io3];exact I45 ..
theorem bAz (a:Int):B5 .i64 a 0=0:=Dx8 (by simp)
def Dx1 (p:ProcS):Bool :=
 !(decide (p.state<1) || decide (p.state>3) || decide (p.parent<0) || decide (p.parent>8) || decide (p.group<0) || decide (p.group≥8) || decide (p.code<0) || decide (p.code>255)) &&
 !(!Aq3 p.pending 0 || !Aq3 p.mask 16896 || !Aq3 p.ignored 16896 || !Aq3 p.caught 16896 || B5 .i64 p.ignored p.caught != 0)
def Dk2 (p:ProcS) (s:Bool) (l:List Int):Bool :=
 !(l.any fun f=>decide (f<0) || decide (f>12)) && if p.state=2 then !(s || l.any (· != 0)) && p.pending==0 else p.code==0
theorem Hc1:∀ (l:List Int),l.any (· != 0)=false↔l=List.replicate l.length 0
 | []=>by simp
 | x::l=>by
  have:=Hc1 l
  rw [List.any_cons,Bool.or_eq_false_iff,this,List.length_cons,List.replicate_succ]
  simp
theorem G36 (p:ProcS):okS p=(Dx1 p && Dk2 p false p.fds):=by
 have h8:(p.fds.any (· != 0)=false)↔p.fds=E89:=by
  have:=Hc1 p.fds;rw [p.len] at this;exact this
 unfold okS Dx1 Dk2
 rw [Bool.and_assoc]
 congr 2
 congr 1
 by_cases h:p.state=2
 ·rw [if_pos h,if_pos h,Bool.false_or,Bool.and_comm]
  congr 1
  rw [Bool.eq_iff_iff,decide_eq_true_iff,Bool.not_eq_true',h8]
 ·rw [if_neg h,if_neg h]
theorem Et6 (b:Nat) (p:ProcS):∀ (m i:Nat) (s:Bool),i+m=8 →
  CtJ E9 Z1 A71 [(1,P0 b),(3,.bool s),(4,int i)] [pt b (.cells B6 false (B9 p))] fun v own=>v=.bool (Dk2 p s (p.fds.drop i))∧own []
 | 0,i,s,hi=>by
  obtain rfl:i=8:=by omega
  have hl:=p.len
  have e:Dk2 p s (p.fds.drop 8)=if p.state=2 then !s && p.pending==0 else p.code==0:=by
   rw [List.drop_eq_nil_of_le (by omega)];unfold Dk2;simp
  rw [e]
  refine CtJ.of Di0 fun h r=>Tr.eq (Dp1 ..) ?_;refine Je ?_
  refine Yf (by simp) ?_
  (refine Jb ?_;unhygienic intros)
  by_cases h2:p.state=2
  ·rw [if_pos h2]
   refine Yt (by rw [beq_iff_eq];exact h2) ?_
   (refine Ja ?_;unhygienic intros)
   refine Ys fun o=>?_
   exact ⟨rfl,o.sub⟩
  ·rw [if_neg h2]
   refine Yf (by rw [beq_eq_false_iff_ne];exact h2) ?_
   (refine Ja ?_;unhygienic intros)
   refine Ys fun o=>?_
   exact ⟨rfl,o.sub⟩
 | m+1,i,s,hi=>by
  have hl:=p.len
  have e1:=wN i
  have hd:p.fds.drop i=p.fds.getD i 0::p.fds.drop (i+1):=by rw [List.drop_eq_getElem_cons (by omega),List.getD_eq_getElem?_getD,List.getElem?_eq_getElem (by omega)];rfl
  have hx:(B9 p)[8+i]?=some (int (p.fds.getD i 0)):=by
   have h1:(p.fds.map int)[i]?=some (int (p.fds.getD i 0)):=by rw [List.getElem?_map,List.getD_eq_getElem?_getD,List.getElem?_eq_getElem (by omega)];rfl
   rw [show 8+i=i+8 by omega];exact h1
  have ih:=fun s=>Et6 b p m (i+1) s (by omega)
  have ht:Dk2 p s (p.fds.drop i)=if p.fds.getD i 0<0∨p.fds.getD i 0>12 then false else Dk2 p (s || p.fds.getD i 0 != 0) (p.fds.drop (i+1)):=by
   rw [hd]
   generalize p.fds.getD i 0=x
   generalize p.fds.drop (i+1)=l
   unfold Dk2
   rw [List.any_cons,List.any_cons]
   by_cases h:x<0∨x>12
   ·rw [if_pos h,show (decide (x<0) || decide (x>12))=true by simpa using h];rfl
   ·rw [if_neg h,show (decide (x<0) || decide (x>12))=false by simpa using h,Bool.false_or,Bool.or_assoc]
  rw [ht]
  generalize p.fds.getD i 0=x at *
  refine CtJ.of Di0 fun h r=>Tr.eq (Dp1 ..) ?_;refine Je ?_
  refine Yt (by simp;omega) ?_
  rw [e1]
  refine Tr.ck (by omega) ?_
  simp only [Gp8]
  (refine Jb ?_;unhygienic intros;repeat(refine Gw ?_;rintro px rfl;refine Jb ?_;unhygienic intros))
  by_cases h:x<0∨x>12
  ·rw [if_pos h]
   refine Yt (by rw [Bool.not_eq_true',Bool.and_eq_false_iff,decide_eq_false_iff_not,decide_eq_false_iff_not];omega) ?_
   refine Ys fun o=>?_
   exact ⟨rfl,o.sub⟩
  ·rw [if_neg h]
   refine Yf (by rw [Bool.not_eq_false',Bool.and_eq_true,decide_eq_true_iff,decide_eq_true_iff];omega) ?_
   refine Tr.orG (c:=x != 0) (fun hb=>?_) ?_
   ·refine Tr.ck (by omega) ?_
    exact Jy
   exact Yr (ih (s || x != 0)) fun v h q=>q
theorem Go5 (p:ProcS):Dx1 p=true↔((1≤p.state∧p.state≤3)∧(0≤p.parent∧p.parent≤8)∧(0≤p.group∧p.group≤7)∧(0≤p.code∧p.code≤255)) ∧
  N9 .i64 p.pending 65534=0∧N9 .i64 p.mask 65534=0∧N9 .i64 p.ignored 65534=0∧N9 .i64 p.caught 65534=0∧(B5 .i64 p.mask 16896=0∧B5 .i64 p.ignored 16896=0∧B5 .i64 p.caught 16896=0)∧B5 .i64 p.ignored p.caught=0:=by
 unfold Dx1 Aq3
 rw [bAz]
 simp only [Bool.and_eq_true,Bool.not_eq_true',Bool.or_eq_false_iff,Bool.not_eq_false',decide_eq_false_iff_not,bne_eq_false_iff_eq,beq_iff_eq]
 constructor
 ·rintro ⟨h1,h2⟩
  exact ⟨by omega,by simp_all⟩
 ·rintro ⟨h1,h2⟩
  exact ⟨by omega,by simp_all⟩
structure InW (p:ProcS):Prop where
 a:N9 .i64 p.pending 65534=0→0≤p.pending∧p.pending≤65535
 b:N9 .i64 p.mask 65534=0→0≤p.mask∧p.mask≤65535
 c:N9 .i64 p.ignored 65534=0→0≤p.ignored∧p.ignored≤65535
 d:N9 .i64 p.caught 65534=0→0≤p.caught∧p.caught≤65535
theorem InS.w {p:ProcS} (k:InS p):InW p:=⟨fun _=>k.a,fun _=>k.b,fun _=>k.c,fun _=>k.d⟩
theorem Ix0 {p:ProcS} (k:InW p) (h:okS p=true):InS p:=by
 rw [G36,Bool.and_eq_true] at h
 obtain ⟨_,a1,a2,a3,a4,_⟩:=(Go5 p).1 h.1
 exact ⟨k.a a1,k.b a2,k.c a3,k.d a4⟩
theorem Gl7 (p:ProcS) (hin:InW p):Ct A4 Z1 [.agg ⟨B9 p⟩] [] fun v own=>v=.bool (okS p)∧own []:=by
 refine Ct.of Di0 rfl fun h r=>Tr.eq (Gv0 ..) ?_;refine Je ?_
 refine Yn fun b h=>?_
 (refine Jb ?_;unhygienic intros)
 simp only [Gp8,Is9]
 (refine Ja ?_;unhygienic intros)
 have J:=Et6 b p 8 0 false rfl
 have hr:=Go5 p
 rw [List.drop_zero] at J
 rw [G36]
 by_cases hE:(1≤p.state∧p.state≤3)∧(0≤p.parent∧p.parent≤8)∧(0≤p.group∧p.group≤7)∧(0≤p.code∧p.code≤255)
 case neg =>
  refine Yt ?_ ?_
  ·simp only [Bool.or_eq_true,Bool.not_eq_true',Bool.and_eq_false_iff,decide_eq_false_iff_not];omega
  refine Ys fun o=>?_
  rw [show Dx1 p=false by rw [← Bool.not_eq_true,hr];exact fun h=>hE h.1]
  exact ⟨rfl,o.sub⟩
 refine Yf ?_ ?_
 ·simp only [Bool.or_eq_false_iff,Bool.not_eq_false',Bool.and_eq_true,decide_eq_true_iff];omega
 (refine Ja ?_;unhygienic intros)
 by_cases hF:N9 .i64 p.pending 65534=0∧N9 .i64 p.mask 65534=0∧N9 .i64 p.ignored 65534=0∧N9 .i64 p.caught 65534=0∧(B5 .i64 p.mask 16896=0∧B5 .i64 p.ignored 16896=0∧B5 .i64 p.caught 16896=0)∧B5 .i64 p.ignored p.caught=0
 case neg =>
  refine Yt ?_ ?_
  ·simp only [Bool.or_eq_true,Bool.not_eq_true',Bool.and_eq_false_iff,decide_eq_false_iff_not,bne_iff_ne,beq_eq_false_iff_ne,ne_eq,bO3]
   by_cases a1:N9 .i64 p.pending 65534=0
   case neg=>simp [a1]
   by_cases a2:N9 .i64 p.mask 65534=0
   case neg=>simp [a2]
   by_cases a3:N9 .i64 p.ignored 65534=0
   case neg=>simp [a3]
   by_cases a4:N9 .i64 p.caught 65534=0
   case neg=>simp [a4]
   by_cases a6:B5 .i64 p.ignored p.caught=0
   case neg=>simp [a6]
   exact .inl (.inr fun a5=>hF ⟨a1,a2,a3,a4,a5,a6⟩)
  refine Ys fun o=>?_
  rw [show Dx1 p=false by rw [← Bool.not_eq_true,hr];exact fun h=>hF h.2]
  exact ⟨rfl,o.sub⟩
 refine Yf ?_ ?_
 ·simp only [Bool.or_eq_false_iff,Bool.not_eq_false',Bool.and_eq_true,decide_eq_true_iff,bne_eq_false_iff_eq,beq_iff_eq,bO3]
  obtain ⟨a1,a2,a3,a4,a5,a6⟩:=hF
  exact ⟨⟨⟨⟨⟨⟨(hin.a a1).1,a1⟩,⟨(hin.b a2).1,a2⟩⟩,⟨(hin.c a3).1,a3⟩⟩,⟨(hin.d a4).1,a4⟩⟩,a5⟩,a6⟩
 rw [show Dx1 p=true from hr.2 ⟨hE,hF⟩,Bool.true_and]
 exact Yr J fun v h q=>q
def D20 (l:List UInt8) (i:Nat):List Int:=(List.range 4).map fun j=>if j<i then two l (4+2*j) else 0
def Dn6 (l:List UInt8) (i:Nat):List Int:=(List.range 8).map fun j=>if j<i then byI l (12+j) else 0
theorem Bp1 (l:List UInt8) (i:Nat):(Dn6 l i).length=8:=by simp [Dn6]
theorem Il7 (l:List UInt8):∀ i,i<4→(D20 l i).set i (two l (4+2*i))=D20 l (i+1)
 | 0,_=>rfl
 | 1,_=>rfl
 | 2,_=>rfl
 | 3,_=>rfl
theorem Il4 (l:List UInt8):∀ i,i<8→(Dn6 l i).set i (byI l (12+i))=Dn6 l (i+1)
 | 0,_=>rfl
 | 1,_=>rfl
 | 2,_=>rfl
 | 3,_=>rfl
 | 4,_=>rfl
 | 5,_=>rfl
 | 6,_=>rfl
 | 7,_=>rfl
theorem Ip9 (l:List UInt8):InS (Aw9 l):=by
 have h:∀ j,0≤two l j∧two l j≤65535:=fun j=>by
  have h1:=(l.getD j 0).toNat_lt
  have h2:=(l.getD (j+1) 0).toNat_lt
  unfold two byI;omega
 exact ⟨h 4,h 6,h 8,h 10⟩
theorem Et5 (l:List UInt8) (hl:l.length=24) (b1 b2:Nat) (hz:l.all (·==0)=false):∀ (m i:Nat),i+m=8 →
  CtJ E9 N6 A72 [(0,.string (bs l)),(2,P0 b1),(6,P0 b2),(7,int i)] [pt b1 (.cells B6 false (B9 .zero)),pt b2 (.cells B6 false (B9 ⟨byI l 0,byI l 1,byI l 2,byI l 3,two l 4,two l 6,two l 8,two l 10,Dn6 l i,Bp1 l i⟩))] fun v own=>v=.tuple ⟨[.agg ⟨B9 (Q4 l).1⟩,int (Q4 l).2]⟩∧own []
 | 0,i,hi=>by
  obtain rfl:i=8:=by omega
  have e:Q4 l=if okS (Aw9 l) && decide (Bb4 (Aw9 l)=l) then (Aw9 l,1) else (.zero,2):=by unfold Q4 isS;rw [hz];rfl
  have e2:(⟨byI l 0,byI l 1,byI l 2,byI l 3,two l 4,two l 6,two l 8,two l 10,Dn6 l 8,Bp1 l 8⟩:ProcS)=Aw9 l:=rfl
  have hin:=Ip9 l
  rw [e,e2]
  have hq:=Aa9 (Aw9 l)
  generalize Aw9 l=f at *
  refine CtJ.of Bc0 fun h r=>Tr.eq (Dq4 ..) ?_;refine Je ?_
  refine Yf rfl ?_
  (refine Jb ?_;unhygienic intros)
  refine Yc (Gl7 f hin.w) ?_;rintro _ h ⟨rfl,o⟩<;>refine Jh o ?_
  (refine Jb ?_;unhygienic intros)
  cases hk:okS f with
  | false =>
   refine Yb (Yt rfl ?_)
   refine Ys fun o=>(?_:Tr _ _ _ _) o;refine Je ?_
   refine Yt rfl ?_
   (refine Ja ?_;unhygienic intros)
   refine Ys fun o=>?_
   exact ⟨rfl,o.sub⟩
  | true =>
   refine Yb (Yf rfl ?_)
   (refine Jb ?_;unhygienic intros)
   refine Yc (G42 f) ?_;rintro _ h ⟨rfl,o⟩<;>refine Jh o ?_
   rw [Hw5 hin]
   (refine Jb ?_;unhygienic intros)
   refine Ys fun o=>(?_:Tr _ _ _ _) o;refine Je ?_
   by_cases he:Bb4 f=l
   ·refine Yf (by rw [he];simp) ?_
    (refine Ja ?_;unhygienic intros)
    refine Gs (fun h=>?_) (by exact B38 (Aa9 ProcS.zero) hq (G41 f))
    (refine Ja ?_;unhygienic intros)
    refine Ys fun o=>?_
    rw [decide_eq_true he];exact ⟨rfl,o.sub⟩
   ·refine Yt (by rw [Ak3,Ak3,beq_eq_false_iff_ne.2 he];rfl) ?_
    (refine Ja ?_;unhygienic intros)
    refine Ys fun o=>?_
    rw [decide_eq_false he];exact ⟨rfl,o.sub⟩
 | m+1,i,hi=>by
  have e1:=wN i
  have e2:IntKind.wrap .i64 (12+(i:Int))=((12+i:Nat):Int):=by rw [B0];omega
  have ih:=Et5 l hl b1 b2 hz m (i+1) (by omega)
  have hs:De5 (B9 ⟨byI l 0,byI l 1,byI l 2,byI l 3,two l 4,two l 6,two l 8,two l 10,Dn6 l i,Bp1 l i⟩) (8+i) (int (byI l (12+i)))=some (B9 ⟨byI l 0,byI l 1,byI l 2,byI l 3,two l 4,two l 6,two l 8,two l 10,Dn6 l (i+1),Bp1 l (i+1)⟩):=by
   have e:Nat.blt (8+i) (B9 ⟨byI l 0,byI l 1,byI l 2,byI l 3,two l 4,two l 6,two l 8,two l 10,Dn6 l i,Bp1 l i⟩).length=true:=by rw [Aa9];exact Nat.ble_eq_true_of_le (by omega)
   unfold De5
   rw [e,show 8+i=i+8 by omega]
   show some ((B9 _).set (i+8) _)=_
   have hf:=Il4 l i (by omega)
   simp only [B9,List.set_cons_succ,← List.map_set,hf]
  generalize (⟨byI l 0,byI l 1,byI l 2,byI l 3,two l 4,two l 6,two l 8,two l 10,Dn6 l i,Bp1 l i⟩:ProcS)=p0 at *
  generalize (⟨byI l 0,byI l 1,byI l 2,byI l 3,two l 4,two l 6,two l 8,two l 10,Dn6 l (i+1),Bp1 l (i+1)⟩:ProcS)=p1 at *
  refine CtJ.of Bc0 fun h r=>Tr.eq (Dq4 ..) ?_;refine Je ?_
  refine Yt (by simp;omega) ?_
  rw [e1,e2,U6,hl]
  refine Tr.ck (by omega) ?_
  simp only [Ac7]
  (refine Jb ?_;unhygienic intros)
  exact Yr ih fun v h q=>q
theorem Et2 (l:List UInt8) (hl:l.length=24) (b1 b2:Nat) (hz:l.all (·==0)=false):∀ (m i:Nat),i+m=4 →
  CtJ E9 N6 A80 [(0,.string (bs l)),(2,P0 b1),(4,P0 b2),(5,int i)] [pt b1 (.cells B6 false (B9 .zero)),pt b2 (.cells Gx0 false ((D20 l i).map int))] fun v own=>v=.tuple ⟨[.agg ⟨B9 (Q4 l).1⟩,int (Q4 l).2]⟩∧own []
 | 0,i,hi=>by
  obtain rfl:i=4:=by omega
  have J:=fun b=>Et5 l hl b1 b hz 8 0 rfl
  have e:(D20 l 4).map int=[int (two l 4),int (two l 6),int (two l 8),int (two l 10)]:=rfl
  rw [e]
  generalize two l 4=t0 at *
  generalize two l 6=t1 at *
  generalize two l 8=t2 at *
  generalize two l 10=t3 at *
  refine CtJ.of Bc0 fun h r=>Tr.eq (Dp2 ..) ?_;refine Je ?_
  refine Yf rfl ?_
  rw [U6,hl]
  simp only [Ac7]
  (refine Jc ?_;unhygienic intros)
  refine Yn fun b3 h=>?_
  (refine Jb ?_;unhygienic intros)
  refine (?_:Tr (pt b3 (.cells B6 false (B9 ⟨byI l 0,byI l 1,byI l 2,byI l 3,t0,t1,t2,t3,Dn6 l 0,Bp1 l 0⟩))::_) _ _ _)
  refine U0 [1,0] 1 rfl rfl ?_
  exact Yr (J b3) fun v h q=>q
 | m+1,i,hi=>by
  have e1:=wN i
  have e2:IntKind.wrap .i64 (4+IntKind.wrap .i64 (2*(i:Int)))=((4+2*i:Nat):Int):=by simp only [B0];omega
  have e3:IntKind.wrap .i64 (5+IntKind.wrap .i64 (2*(i:Int)))=((4+2*i+1:Nat):Int):=by simp only [B0];omega
  have ih:=Et2 l hl b1 b2 hz m (i+1) (by omega)
  have ht:_=two l (4+2*i):=Ib2 (l.getD (4+2*i) 0) (l.getD (4+2*i+1) 0)
  have hs:De5 ((D20 l i).map int) i (int (two l (4+2*i)))=some ((D20 l (i+1)).map int):=by
   have e:Nat.blt i ((D20 l i).map int).length=true:=by simp [D20];omega
   unfold De5
   rw [e,← Il7 l i (by omega),List.map_set];rfl
  generalize (D20 l i).map int=c0 at *
  generalize (D20 l (i+1)).map int=c1 at *
  refine CtJ.of Bc0 fun h r=>Tr.eq (Dp2 ..) ?_;refine Je ?_
  refine Yt (by simp;omega) ?_
  rw [e1,e2,e3,U6,hl]
  refine Tr.ck (by omega) ?_
  refine Tr.ck (by omega) ?_
  simp only [Int.toNat_natCast]
  rw [ht]
  (refine Jb ?_;unhygienic intros)
  exact Yr ih fun v h q=>q
theorem H52 (l:List UInt8) (hl:l.length=24):Ct A4 N6 [.string (bs l)] [] fun v own=>v=.tuple ⟨[.agg ⟨B9 (Q4 l).1⟩,int (Q4 l).2]⟩∧own []:=by
 refine Ct.of Bc0 rfl fun h r=>Tr.eq (Gx1 ..) ?_;refine Je ?_
 refine Yn fun b1 h=>?_
 rw [U6,hl]
 refine Yf rfl ?_
 refine Tr.pcall (Ep4 l (by omega)) ?_;refine Je ?_;(refine Ja ?_;unhygienic intros)
 cases hz:l.all (·==0) with
 | true =>
  have e:Q4 l=(.zero,0):=by unfold Q4;rw [hz];rfl
  refine Yt rfl ?_
  (refine Ja ?_;unhygienic intros)
  refine Ys fun o=>?_
  rw [e];exact ⟨rfl,o.sub⟩
 | false =>
  have J:=fun b2=>Et2 l hl b1 b2 hz 4 0 rfl
  refine Yf rfl ?_
  (refine Jc ?_;unhygienic intros)
  refine Yn fun b2 h=>?_
  (refine Jb ?_;unhygienic intros)
  refine (?_:Tr (pt b2 (.cells Gx0 false ((D20 l 0).map int))::pt b1 (.cells B6 false (B9 .zero))::_) _ _ _)
  refine U0 [1,0] 0 rfl rfl ?_
  exact Yr (J b2) fun v h q=>q
theorem Io6 {α:Type} (r s:RecS) (k:Bool→Option α):Af8 PR A6 (E2 r) (E2 s) k=k (decide (r=s)):=by
 have hl:Ad7 PR 8 A6=some [.int .i64,.int .i64]:=by kernel_rfl
 obtain ⟨a,b⟩:=r
 obtain ⟨c,d⟩:=s
 unfold Af8
 rw [hl]
 by_cases h1:a=c
 ·by_cases h2:b=d
  ·subst h1;subst h2;simp [E4,eqs,eq1,eqK,ckB]
  ·subst h1;simp [E4,eqs,eq1,eqK,ckB,h2,beq_eq_false_iff_ne.2 h2]
 ·simp [E4,eqs,eq1,eqK,ckB,h1,beq_eq_false_iff_ne.2 h1]
structure RFr where
 K:RKS
 e:Nat
 caps:List Int
 rg:Rg
structure RFrOk (F:RFr):Prop where
 ok:RKOk F.K
 env:F.e<F.K.B.envs.length
 ne:0<F.caps.length
 small:F.caps.length≤40
 len:F.rg.length=F.caps.length
 pl:∀ (j:Nat) (cap:Int) (lo n:Nat),F.caps[j]?=some cap→F.rg[j]?=some (lo,n)→∀ (a m:Nat) (right:Int),right=1∨right=2→a+m≤n→D5 F.K.R F.e cap right a m=(((lo+a:Nat):Int),0)
 dj:RgOk F.rg
 own:∃ lo,F.rg[0]?=some (lo,492)
 brs:∀ (j lo n:Nat),0<j→F.rg[j]?=some (lo,n)→n=40
def RFr.at (F:RFr) (m:List (List UInt8)):RKS:={ F.K with R:={ F.K.R with M:=U2 F.K.R.M F.rg m } }
abbrev G8 (r:RecS):Int × Int:=(r.kind,r.index)
abbrev rmF (m w:Nat) (F:RFr) (x:CX):List HP:=[rcC m w F.e F.caps (x.bad.map G8),rkC w (F.at x.m),pu (Fit F.K.R.M.length F.rg x.m)]
def rmC (m w:Nat) (F:RFr) (x:CX):HP:=hex fun _:Unit=>sl (rmF m w F x)
instance {m w:Nat} {F:RFr} {x:CX}:Chk (rmC m w F x) (fun _:Unit=>rmF m w F x):=⟨rfl⟩
def E26 (nc:Nat) (r:RecS):Int × Int × Int × Bool :=
 if r.kind=1 then (0,24*min (max r.index 0) 7,24,decide (0≤r.index∧r.index<8))
 else if r.kind=2 then (0,192+8*min (max r.index 0) 11,8,decide (0≤r.index∧r.index<12))
 else if r.kind=3 then if 4≤r.index∧r.index-3<nc then (r.index-3,0,40,true) else (0,288+40*min (max r.index 0) 3,40,decide (0≤r.index∧r.index<4))
 else if r.kind=4 then (0,448,40,true) else (0,488,4,true)
abbrev Iz9 (x:Int × Int × Int × Bool):List Value:=[int x.1,int x.2.1,int x.2.2.1,.bool x.2.2.2]
theorem Dv2 {nc:Nat} (hn:0<nc) {r:RecS} (hk:1≤r.kind∧r.kind≤5) (h0:r.kind≤3∨r.index=0) :
  (∃ (j a n:Nat),H4 nc r=some (j,a,n)∧E26 nc r=((j:Int),(a:Int),(n:Int),true))∨(H4 nc r=none∧(E26 nc r).2.2.2=false):=by
 obtain ⟨k,i⟩:=r
 simp only at hk h0
 have hh:k=1∨k=2∨k=3∨k=4∨k=5:=by omega
 unfold H4 E26 N1
 simp only
 rcases hh with rfl|rfl|rfl|rfl|rfl
 ·simp only [if_true]
  by_cases hi:0≤i∧i<8
  ·rw [if_neg (by omega)]
   exact .inl ⟨_,_,_,rfl,by rw [decide_eq_true hi,show 24*min (max i 0) 7=((24*i.toNat:Nat):Int) by omega];rfl⟩
  ·rw [if_pos (by omega)];exact .inr ⟨rfl,decide_eq_false hi⟩
 ·simp only [if_true,show ¬ ((2:Int)=1) by decide,if_false]
  by_cases hi:0≤i∧i<12
  ·rw [if_neg (by omega)]
   exact .inl ⟨_,_,_,rfl,by rw [decide_eq_true hi,show 192+8*min (max i 0) 11=((192+8*i.toNat:Nat):Int) by omega];rfl⟩
  ·rw [if_pos (by omega)];exact .inr ⟨rfl,decide_eq_false hi⟩
 ·simp only [if_true,show ¬ ((3:Int)=1) by decide,show ¬ ((3:Int)=2) by decide,if_false]
  by_cases hi:0≤i∧i<3+nc
  ·rw [if_neg (by omega)]
   by_cases h4:i<4
   ·rw [if_pos h4,if_neg (by omega)]
    exact .inl ⟨_,_,_,rfl,by rw [decide_eq_true (show 0≤i∧i<4 by omega),show 288+40*min (max i 0) 3=((288+40*i.toNat:Nat):Int) by omega];rfl⟩
   ·rw [if_neg h4,if_pos (by omega)]
    exact .inl ⟨_,_,_,rfl,by rw [show i-3=((i.toNat-3:Nat):Int) by omega];rfl⟩
  ·rw [if_pos (by omega)]
   by_cases h4:4≤i∧i-3<nc
   ·omega
   ·rw [if_neg h4];exact .inr ⟨rfl,decide_eq_false (by omega)⟩
 ·obtain rfl:i=0:=by omega
  exact .inl ⟨0,448,40,rfl,rfl⟩
 ·obtain rfl:i=0:=by omega
  exact .inl ⟨0,488,4,rfl,rfl⟩
theorem Ey5 (m w:Nat) (e:Int) (caps:List Int) (recs:List (Int × Int)) (hs:caps.length≤40) (r:RecS) (hi:r.kind=3→r.index≤9223372036854775807):Ct A4 W2 [P0 m,.agg ⟨E2 r⟩] [rcC m w e caps recs] fun v own =>
  v=.tuple ⟨Iz9 (E26 caps.length r)⟩∧own [rcC m w e caps recs]:=by
 obtain ⟨k,i⟩:=r
 simp only at hi
 unfold E26
 simp only
 refine Ct.of Eg2 rfl fun h r=>Tr.eq (Ed8 ..) ?_;refine Je ?_
 refine Yn fun b h=>?_
 (refine Jb ?_;unhygienic intros)
 simp only [Ab8,Ab6]
 have e1:IntKind.wrap .i64 (24*min (max i 0) 7)=24*min (max i 0) 7:=by rw [B0];omega
 have e2:IntKind.wrap .i64 (192+IntKind.wrap .i64 (8*min (max i 0) 11))=192+8*min (max i 0) 11:=by simp only [B0];omega
 have e3:IntKind.wrap .i64 (288+IntKind.wrap .i64 (40*min (max i 0) 3))=288+40*min (max i 0) 3:=by simp only [B0];omega
 rw [e1,e2,e3]
 have d:∀ n:Int,(decide (i≥0) && decide (i<n))=decide (0≤i∧i<n):=fun n=>by rw [Bool.decide_and]
 by_cases h1:k=1
 ·rw [if_pos h1]
  refine Yt (by rw [beq_iff_eq];exact h1) ?_
  refine Tr.andG (c:=decide (i<8)) (fun hb=>?_) ?_
  ·exact Jz
  refine Ys fun o=>?_
  exact ⟨by rw [d],o.sub⟩
 rw [if_neg h1]
 refine Yf (by rw [beq_eq_false_iff_ne];exact h1) ?_
 by_cases h2:k=2
 ·rw [if_pos h2]
  refine Yt (by rw [beq_iff_eq];exact h2) ?_
  refine Tr.andG (c:=decide (i<12)) (fun hb=>?_) ?_
  ·exact Jz
  refine Ys fun o=>?_
  exact ⟨by rw [d],o.sub⟩
 rw [if_neg h2]
 refine Yf (by rw [beq_eq_false_iff_ne];exact h2) ?_
 by_cases h3:k=3
 ·rw [if_pos h3]
  refine Yt (by rw [beq_iff_eq];exact h3) ?_
  have hi:=hi h3
  refine A7 (rcC m w e caps recs) fun ⟨a1,c1,a2,c2⟩=>?_;refine Je ?_
  refine Tr.andG (c:=decide (IntKind.wrap .i64 (i-3)<(caps.length:Int))) (fun hb=>?_) ?_
  ·exact Jz
  by_cases h5:4≤i∧i-3<caps.length
  ·rw [if_pos h5]
   have e4:IntKind.wrap .i64 (i-3)=i-3:=by rw [B0];omega
   rw [e4]
   refine Yt (by rw [Bool.and_eq_true,decide_eq_true_iff,decide_eq_true_iff];exact h5) ?_
   refine A5 (rcC m w e caps recs) (a1,c1,a2,c2) ?_;refine Je ?_
   refine Ys fun o=>?_
   exact ⟨rfl,o.sub⟩
  ·rw [if_neg h5]
   refine Yf (by rw [Bool.and_eq_false_iff,decide_eq_false_iff_not,decide_eq_false_iff_not,B0];omega) ?_
   refine Tr.andG (c:=decide (i<4)) (fun hb=>?_) ?_
   ·exact Jz
   refine A5 (rcC m w e caps recs) (a1,c1,a2,c2) ?_;refine Je ?_
   refine Ys fun o=>?_
   exact ⟨by rw [d],o.sub⟩
 rw [if_neg h3]
 refine Yf (by rw [beq_eq_false_iff_ne];exact h3) ?_
 by_cases h4:k=4
 ·rw [if_pos h4]
  refine Yt (by rw [beq_iff_eq];exact h4) ?_
  refine Ys fun o=>?_
  exact ⟨rfl,o.sub⟩
 rw [if_neg h4]
 refine Yf (by rw [beq_eq_false_iff_ne];exact h4) ?_
 refine Ys fun o=>?_
 exact ⟨rfl,o.sub⟩
theorem E75 (recs:List RecS) {i:Nat} {r:RecS} (h:recs[i]?=some r):(((recs.map G8).flatMap brL).drop (i*2)).take 2=E2 r:=by
 have:=Ay8 (f:=brL) (k:=2) (fun x=>rfl) (l:=recs.map G8) (i:=i) (x:=G8 r) (by rw [List.getElem?_map,h];rfl)
 exact this
theorem Gp5 (m w b:Nat) (e:Int) (caps:List Int) (recs:List RecS) (q:RecS) (hl:recs.length≤1000):∀ (z i:Nat),i+z=recs.length →
  CtJ E9 L9 Ao7 [(0,P0 m),(3,P0 b),(5,int i)] [pt b (.cells A6 false (E2 q)),rcC m w e caps (recs.map G8)] fun v own=>v=.bool (decide (q ∈ recs.drop i))∧own [rcC m w e caps (recs.map G8)]
 | 0,i,hi=>by
  obtain rfl:i=recs.length:=by omega
  rw [List.drop_length]
  refine CtJ.of Bk5 fun h r=>Tr.eq (Bx0 ..) ?_;refine Je ?_
  refine A7 (rcC m w e caps (recs.map G8)) fun ⟨a1,c1,a2,c2⟩=>?_;refine Je ?_
  (refine Ja ?_;unhygienic intros)
  refine Yf (by simp) ?_
  refine A5 (rcC m w e caps (recs.map G8)) (a1,c1,a2,c2) ?_;refine Je ?_
  refine Ys fun o=>?_
  exact ⟨by simp,o.sub⟩
 | z+1,i,hi=>by
  have e1:=wN i
  have ih:=Gp5 m w b e caps recs q hl z (i+1) (by omega)
  have hg:recs[i]?=some recs[i]:=List.getElem?_eq_getElem (by omega)
  have hd:recs.drop i=recs[i]::recs.drop (i+1):=List.drop_eq_getElem_cons (by omega)
  have hx:=E75 recs hg
  have hle:((recs.map G8).flatMap brL).length=recs.length*2:=by
   have:=N3 (f:=brL) (k:=2) (fun x=>rfl) (recs.map G8)
   simpa using this
  rw [hd]
  generalize recs[i]=y at *
  refine CtJ.of Bk5 fun h r=>Tr.eq (Bx0 ..) ?_;refine Je ?_
  refine A7 (rcC m w e caps (recs.map G8)) fun ⟨a1,c1,a2,c2⟩=>?_;refine Je ?_
  (refine Ja ?_;unhygienic intros)
  refine Yt (by simp;omega) ?_
  rw [e1]
  refine B42 2 rfl (by simp;omega) fun px e=>?_
  subst e
  (refine Jc ?_;unhygienic intros)
  refine Tr.ck (by simp;omega) ?_
  rw [Int.toNat_natCast]
  refine Tr.xAggS (xs:=E2 y) ⟨by omega,by omega,hx⟩ ?_
  (refine Jb ?_;unhygienic intros)
  rw [Io6]
  by_cases hy:y=q
  ·rw [decide_eq_true hy]
   refine Yt rfl ?_
   refine U0 [0,0,0,0] 0 rfl rfl ?_
   refine A5 (rcC m w e caps (recs.map G8)) (a1,c1,some px,c2) ?_;refine Je ?_
   refine Ys fun o=>?_
   exact ⟨by rw [hy];simp,o.sub⟩
  ·rw [decide_eq_false hy]
   refine Yf rfl ?_
   refine A5 (rcC m w e caps (recs.map G8)) (a1,c1,some px,c2) ?_;refine Je ?_
   refine U0 [1,0] 0 rfl rfl ?_
   rw [show decide (q ∈ y::recs.drop (i+1))=decide (q ∈ recs.drop (i+1)) by rw [decide_eq_decide,List.mem_cons];exact ⟨fun h=>h.resolve_left fun e=>hy e.symm,.inr⟩]
   exact Yr ih fun v h q=>q
theorem Hu8 (m w:Nat) (e:Int) (caps:List Int) (recs:List RecS) (q:RecS) (hl:recs.length≤1000):Ct A4 L9 [P0 m,.agg ⟨E2 q⟩] [rcC m w e caps (recs.map G8)] fun v own=>v=.bool (decide (q ∈ recs))∧own [rcC m w e caps (recs.map G8)]:=by
 have J:=fun b=>Gp5 m w b e caps recs q hl recs.length 0 (by omega)
 refine Ct.of Bk5 rfl fun h r=>Tr.eq (Ev5 ..) ?_;refine Je ?_
 refine Yn fun b h=>?_
 (refine Ja ?_;unhygienic intros)
 exact Yr (J b) fun v h q=>q
theorem H80 {F:RFr} (k:RFrOk F) {r:RecS} {j a n:Nat} (h:H4 F.caps.length r=some (j,a,n)):∃ lo z,F.rg[j]?=some (lo,z)∧a+n≤z∧j<F.caps.length:=by
 obtain ⟨lo0,h0⟩:=k.own
 have hl:=k.len;have hn:=k.ne
 unfold H4 at h
 split at h;· cases h
 rename_i hi
 split at h
 ·rename_i h1
  have hm:N1 F.caps.length r.kind=8:=by unfold N1;rw [if_pos h1]
  cases h;exact ⟨lo0,492,h0,by omega,hn⟩
 rename_i h1
 split at h
 ·rename_i h2
  have hm:N1 F.caps.length r.kind=12:=by unfold N1;rw [if_neg h1,if_pos h2]
  cases h;exact ⟨lo0,492,h0,by omega,hn⟩
 rename_i h2
 split at h
 ·rename_i h3
  have hm:N1 F.caps.length r.kind=3+F.caps.length:=by unfold N1;rw [if_neg h1,if_neg h2,if_pos h3]
  split at h
  ·cases h;exact ⟨lo0,492,h0,by omega,hn⟩
  ·cases h
   have hlt:r.index.toNat-3<F.rg.length:=by omega
   have hg:=List.getElem?_eq_getElem hlt
   generalize hx:F.rg[r.index.toNat-3]=x at hg
   obtain ⟨lo,z⟩:=x
   have:=k.brs _ lo z (by omega) hg
   exact ⟨lo,z,hg,by omega,by omega⟩
 split at h<;>(cases h;exact ⟨lo0,492,h0,by omega,hn⟩)
theorem RFr.fits {F:RFr} (k:RFrOk F) {m:List (List UInt8)} (f:Fit F.K.R.M.length F.rg m):m.length=F.caps.length:=by rw [f.len,k.len]
theorem RFr.at_ok {F:RFr} (k:RFrOk F) {m:List (List UInt8)} (f:Fit F.K.R.M.length F.rg m):RKOk (F.at m):=by
 have h:=k.ok
 have lp:=Bg4 f
 exact ⟨⟨h.R.sp,h.R.eq,h.R.few,by show (U2 F.K.R.M F.rg m).length≤65536;rw [lp];exact h.R.mem,fun i lo n a b=>by show 0≤lo∧0≤n∧lo+n≤((U2 F.K.R.M F.rg m).length:Int);rw [lp];exact h.R.each i lo n a b⟩,h.nm,h.q,h.qe⟩
theorem B37 {F:RFr} (k:RFrOk F) {m:List (List UInt8)} (f:Fit F.K.R.M.length F.rg m) {r:RecS} {j a n:Nat} (h:H4 F.caps.length r=some (j,a,n)) :
  ∃ lo z cap,F.caps[j]?=some cap∧F.rg[j]?=some (lo,z)∧a+n≤z∧m[j]?=some (m.getD j [])∧(m.getD j []).length=z∧lo+z≤F.K.R.M.length∧cap=F.caps.getD j 0:=by
 obtain ⟨lo,z,hr,ha,hj⟩:=H80 k h
 obtain ⟨h1,x,hx,hl⟩:=f.each j lo z hr
 have e:m.getD j []=x:=by rw [List.getD_eq_getElem?_getD,hx];rfl
 exact ⟨lo,z,F.caps.getD j 0,J7 0 hj,hr,ha,by rw [e];exact hx,by rw [e];exact hl,h1,rfl⟩
theorem Il1 {F:RFr} (k:RFrOk F) {m:List (List UInt8)} (f:Fit F.K.R.M.length F.rg m) {r:RecS} {j a n:Nat} (h:H4 F.caps.length r=some (j,a,n)) :
  Bz6 (F.at m).R F.e (F.caps.getD j 0) (a:Int) (n:Int)=(slice (m.getD j []) a n,0):=by
 obtain ⟨lo,z,cap,hc,hr,ha,hx,hl,hz,rfl⟩:=B37 k f h
 have hp:D5 (F.at m).R F.e (F.caps.getD j 0) 1 (a:Int) (n:Int)=(((lo+a:Nat):Int),0):=k.pl j _ lo z hc hr a n 1 (.inl rfl) ha
 unfold Bz6
 rw [hp,if_pos rfl,Int.toNat_natCast,Int.toNat_natCast,← Dq6 f k.dj hr hx ha];rfl
theorem Ic8 {F:RFr} (k:RFrOk F) {m:List (List UInt8)} (f:Fit F.K.R.M.length F.rg m) {r:RecS} {j a n:Nat} (h:H4 F.caps.length r=some (j,a,n)) {b:List UInt8} (hb:b.length=n) :
  V7 (F.at m).R F.e (F.caps.getD j 0) (a:Int) b=(0,(F.at (m.set j (Q5 (m.getD j []) a b))).R):=by
 obtain ⟨lo,z,cap,hc,hr,ha,hx,hl,hz,rfl⟩:=B37 k f h
 have hp:D5 (F.at m).R F.e (F.caps.getD j 0) 2 (a:Int) (b.length:Int)=(((lo+a:Nat):Int),0):=k.pl j _ lo z hc hr a b.length 2 (.inr rfl) (by omega)
 unfold V7
 rw [hp,if_pos rfl,Int.toNat_natCast]
 have:=Di6 f k.dj hr hx (a:=a) (b:=b) (by omega)
 show (0,({ (F.at m).R with M:=Q5 (U2 F.K.R.M F.rg m) (lo+a) b }:RgS))=_
 rw [this];rfl
theorem Fit.setR {F:RFr} (k:RFrOk F) {m:List (List UInt8)} (f:Fit F.K.R.M.length F.rg m) {r:RecS} {j a n:Nat} (h:H4 F.caps.length r=some (j,a,n)) {b:List UInt8} (hb:b.length=n):Fit F.K.R.M.length F.rg (m.set j (Q5 (m.getD j []) a b)):=by
 obtain ⟨lo,z,cap,hc,hr,ha,hx,hl,hz,rfl⟩:=B37 k f h
 exact f.set hr (by rw [Bd3 (by omega)];exact hl)
structure Rq (q:RecS):Prop where
 a:1≤q.kind∧q.kind≤5
 b:q.kind≤3∨q.index=0
 c:q.kind=3→q.index≤9223372036854775807
theorem D67 (m w:Nat) (F:RFr) (X:CX) (ok:RFrOk F) (q:RecS) (hq:Rq q) (hb:X.bad.length≤1000):Ct A4 S6 [P0 m,.agg ⟨E2 q⟩] [rmC m w F X] fun v own=>v=.tuple ⟨[.string (bs ((rdX X q).getD [])),.bool (rdX X q).isSome]⟩∧own [rmC m w F X]:=by
 refine Ct.of En5 rfl fun h r=>Tr.eq (Eq2 ..) ?_;refine Je ?_
 refine Yn fun b h=>?_
 refine A7 (rmC m w F X) fun u=>?_;refine Je ?_
 refine H2 2 rfl fun f=>?_
 (refine Ja ?_;unhygienic intros)
 refine Yc (Ey5 m w F.e F.caps (X.bad.map G8) ok.small q hq.c) ?_;rintro _ h ⟨rfl,o⟩<;>refine Jh o ?_
 (refine Jb ?_;unhygienic intros)
 rcases Dv2 ok.ne hq.a hq.b with ⟨j,a,n,h1,h2⟩|⟨h1,h2⟩
 ·rw [h2]
  refine Yb (Yf rfl ?_)
  (refine Jb ?_;unhygienic intros)
  refine Yc (Hu8 m w F.e F.caps X.bad q hb) ?_;rintro _ h ⟨rfl,o⟩<;>refine Jh o ?_
  (refine Jb ?_;unhygienic intros)
  refine Ys fun o=>(?_:Tr _ _ _ _) o;refine Je ?_
  have e:rdX X q=if q ∈ X.bad then none else some (slice (X.m.getD j []) a n):=by unfold rdX;rw [RFr.fits ok f,h1]
  rw [e]
  by_cases hm:q ∈ X.bad
  ·rw [if_pos hm,decide_eq_true hm]
   refine Yt rfl ?_
   refine A5 (rmC m w F X) () ?_;refine Je ?_
   refine Ys fun o=>?_
   exact ⟨rfl,o.sub⟩
  ·rw [if_neg hm,decide_eq_false hm]
   obtain ⟨lo,z,cap,hc,hr,ha,hx,hl,hz,_⟩:=B37 ok f h1
   have hj:j<F.caps.length:=(List.getElem?_eq_some_iff.1 hc).1
   have hcx:(F.caps.map int)[j]?=some (int (F.caps.getD j 0)):=Du3 hj
   have R:=Hv9 w (F.at X.m) (RFr.at_ok ok f) F.e ok.env ⟨1,F.caps.getD j 0,a,n,0,0,[]⟩ rfl none 0
   simp only [Il1 ok f h1] at R
   refine Yf rfl ?_
   refine A7 (rcC m w F.e F.caps (X.bad.map G8)) fun ⟨a1,c1,a2,c2⟩=>?_;refine Je ?_
   (refine Jb ?_;unhygienic intros;repeat(refine Gw ?_;rintro px rfl;refine Jb ?_;unhygienic intros))
   simp only [Bs6] at R
   refine Yc (R) ?_;rintro _ h ⟨rfl,o⟩<;>refine Jh o ?_
   (refine Jb ?_;unhygienic intros)
   refine U0 [1,1,1,0,0] 0 rfl rfl ?_
   refine D3 (rcC m w F.e F.caps (X.bad.map G8)) (some px,c1,a2,c2) [0,0,0] rfl ?_;refine Je ?_
   refine D3 (rmC m w F X) () [0,0,0] rfl ?_;refine Je ?_
   refine Ys fun o=>?_
   exact ⟨rfl,o.sub⟩
 ·have e:rdX X q=none:=by unfold rdX;rw [RFr.fits ok f,h1]
  rw [e]
  refine Yb (Yt (by rw [h2];rfl) ?_)
  refine Ys fun o=>(?_:Tr _ _ _ _) o;refine Je ?_
  refine Yt rfl ?_
  refine A5 (rmC m w F X) () ?_;refine Je ?_
  refine Ys fun o=>?_
  exact ⟨rfl,o.sub⟩
theorem Hi8 (k:Int):Q3 k≤40:=by
 unfold Q3
 repeat' (first|split|omega)
theorem B88 (m w:Nat) (F:RFr) (X:CX) (ok:RFrOk F) (q:RecS) (hq:Rq q) (hb:X.bad.length≤1000) (l:List UInt8) (hl:l.length=Q3 q.kind):Ct A4 M7 [P0 m,.agg ⟨E2 q⟩,.string (bs l)] [rmC m w F X] fun v own=>v=.bool (wrX X q l true).1∧own [rmC m w F (wrX X q l true).2]:=by
 have hs:l.length≤40:=by rw [hl];exact Hi8 _
 refine Ct.of Ef9 rfl fun h r=>Tr.eq (Eg7 ..) ?_;refine Je ?_
 refine Yn fun b h=>?_
 refine A7 (rmC m w F X) fun u=>?_;refine Je ?_
 refine H2 2 rfl fun f=>?_
 (refine Ja ?_;unhygienic intros)
 refine Yc (Ey5 m w F.e F.caps (X.bad.map G8) ok.small q hq.c) ?_;rintro _ h ⟨rfl,o⟩<;>refine Jh o ?_
 (refine Jb ?_;unhygienic intros)
 rcases Dv2 ok.ne hq.a hq.b with ⟨j,a,n,h1,h2⟩|⟨h1,h2⟩
 ·rw [h2]
  refine Yb (Yf rfl ?_)
  (refine Jb ?_;unhygienic intros)
  refine Yc (Hu8 m w F.e F.caps X.bad q hb) ?_;rintro _ h ⟨rfl,o⟩<;>refine Jh o ?_
  (refine Jb ?_;unhygienic intros)
  refine Ys fun o=>(?_:Tr _ _ _ _) o;refine Je ?_
  have e:wrX X q l true=if ¬ q ∈ X.bad then (true,{ X with m:=X.m.set j (Q5 (X.m.getD j []) a l) }) else (false,X):=by unfold wrX;rw [RFr.fits ok f,h1];simp
  rw [e]
  by_cases hm:q ∈ X.bad
  ·rw [if_neg (fun h=>h hm),decide_eq_true hm]
   refine Yt rfl ?_
   refine A5 (rmC m w F X) () ?_;refine Je ?_
   refine Ys fun o=>?_
   exact ⟨rfl,o.sub⟩
  ·rw [if_pos hm,decide_eq_false hm]
   obtain ⟨lo,z,cap,hc,hr,ha,hx,hlz,hz,_⟩:=B37 ok f h1
   have hj:j<F.caps.length:=(List.getElem?_eq_some_iff.1 hc).1
   have hcx:(F.caps.map int)[j]?=some (int (F.caps.getD j 0)):=Du3 hj
   have hn:l.length=n:=by rw [hl];exact (Bf9 h1).symm
   have f2:=Fit.setR ok f h1 hn
   have R:=fun (b2:Nat)=>Gz0 w (F.at X.m) (RFr.at_ok ok f) F.e ok.env ⟨2,F.caps.getD j 0,a,0,0,0,l⟩ rfl (by simp only [A8];omega) (slC false A2 1 (some (Ak0 b2)) l.length l.length (A0 l)) (some (Ak0 b2)) l.length false
   simp only [Bs6,Ic8 ok f h1 hn] at R
   rw [show ({ F.at X.m with R:=(F.at (X.m.set j (Q5 (X.m.getD j []) a l))).R }:RKS)=F.at (X.m.set j (Q5 (X.m.getD j []) a l)) from rfl] at R
   refine Yf rfl ?_
   refine A7 (rcC m w F.e F.caps (X.bad.map G8)) fun ⟨a1,c1,a2,c2⟩=>?_;refine Je ?_
   (refine Jc ?_;unhygienic intros;repeat(refine Gw ?_;rintro px rfl;refine Jc ?_;unhygienic intros))
   refine Tr.ck (by rw [U6];simp only [A8];omega) ?_
   refine Yn fun b2 h=>?_
   refine Gf4 (n:=l.length) 0 rfl (by rw [Am5]) ?_
   rw [U6]
   refine Je ?_
   refine Yc ((R b2)) ?_;rintro _ h ⟨rfl,o⟩<;>refine Jh o ?_
   (refine Jb ?_;unhygienic intros)
   refine U0 [2,2,2,0] 3 rfl rfl ?_
   refine D3 (rcC m w F.e F.caps (X.bad.map G8)) (some px,c1,a2,c2) [0,0,0] rfl ?_;refine Je ?_
   refine Ao2 f2 ?_
   refine D3 (rmC m w F ⟨X.m.set j (Q5 (X.m.getD j []) a l),X.bad⟩) () [1,1,0] rfl ?_;refine Je ?_
   refine Ys fun o=>?_
   exact ⟨rfl,o.sub⟩
 ·have e:wrX X q l true=(false,X):=by unfold wrX;rw [RFr.fits ok f,h1]
  rw [e]
  refine Yb (Yt (by rw [h2];rfl) ?_)
  refine Ys fun o=>(?_:Tr _ _ _ _) o;refine Je ?_
  refine Yt rfl ?_
  refine A5 (rmC m w F X) () ?_;refine Je ?_
  refine Ys fun o=>?_
  exact ⟨rfl,o.sub⟩
theorem E62 (m w:Nat) (F:RFr) (X:CX) (ok:RFrOk F) (q:RecS) (hq:Rq q) (hb:X.bad.length≤1000):Ct A4 Z7 [P0 m,.agg ⟨E2 q⟩] [rmC m w F X] fun v own=>v=.bool (Ap7 X q).1∧own [rmC m w F (Ap7 X q).2]:=by
 have hz:(List.replicate (Q3 q.kind) (0:UInt8)).length=Q3 q.kind:=by simp
 have J:=B88 m w F X ok q hq hb (List.replicate (Q3 q.kind) 0) hz
 refine Ct.of Ep6 rfl fun h r=>Tr.eq (Eo5 ..) ?_;refine Je ?_
 refine Yn fun b h=>?_
 refine A7 (rmC m w F X) fun u=>?_;refine Je ?_
 refine H2 2 rfl fun f=>?_
 (refine Ja ?_;unhygienic intros)
 refine Yc (Ey5 m w F.e F.caps (X.bad.map G8) ok.small q hq.c) ?_;rintro _ h ⟨rfl,o⟩<;>refine Jh o ?_
 (refine Jb ?_;unhygienic intros)
 rcases Dv2 ok.ne hq.a hq.b with ⟨j,a,n,h1,h2⟩|⟨h1,h2⟩
 ·rw [h2]
  refine Yb (Yt rfl ?_)
  have hn:=Bf9 h1
  subst hn
  have h40:=Hi8 q.kind
  (refine Jc ?_;unhygienic intros)
  dsimp only
  refine Tr.ck ⟨by omega,by omega,by simp only [A8];omega⟩ ?_
  refine Yn fun b1 h=>?_
  rw [Int.toNat_natCast,show G9 (Q3 q.kind) [.int .u8 0]=A0 (List.replicate (Q3 q.kind) 0) by simp [G9,A0]]
  refine Tr.xCellsB (xs:=A0 (List.replicate (Q3 q.kind) 0)) ⟨by simp [A0],by simp [A0]⟩ ?_
  refine D3 (rmC m w F X) () [1,1,1] rfl ?_;refine Je ?_
  (refine Jb ?_;unhygienic intros)
  refine Yc (J) ?_;rintro _ h ⟨rfl,o⟩<;>refine Jh o ?_
  (refine Jb ?_;unhygienic intros)
  refine Ys fun o=>(?_:Tr _ _ _ _) o;refine Je ?_
  refine Ys fun o=>?_
  exact ⟨rfl,o.sub⟩
 ·have e:Ap7 X q=(false,X):=by unfold Ap7 wrX;rw [RFr.fits ok f,h1]
  rw [e]
  refine Yb (Yf h2 ?_)
  refine Ys fun o=>(?_:Tr _ _ _ _) o;refine Je ?_
  refine A5 (rmC m w F X) () ?_;refine Je ?_
  refine Ys fun o=>?_
  exact ⟨rfl,o.sub⟩
def Bd6 (a b:RecS):Bool:=decide (a.kind<b.kind) || (a.kind==b.kind && decide (a.index<b.index))
theorem Gt1 (a b:RecS):Ct A4 Bl2 [.agg ⟨E2 a⟩,.agg ⟨E2 b⟩] [] fun v own=>v=.bool (Bd6 a b)∧own []:=by
 refine Ct.of Gp1 rfl fun h r=>Tr.eq (Gr8 ..) ?_;refine Je ?_
 refine Yn fun b1 h=>?_
 refine Yn fun b2 h=>?_
 (refine Ja ?_;unhygienic intros)
 refine Ys fun o=>?_
 exact ⟨rfl,o.sub⟩
def D95 (recs:List RecS) (q:RecS):Nat→Nat
 | 0=>0
 | k+1=>if Bd6 q (recs.getD k ⟨0,0⟩)=true then D95 recs q k else k+1
theorem Hv0 (recs:List RecS) (q:RecS):∀ k,D95 recs q k≤k
 | 0=>Nat.le_refl 0
 | k+1=>by
  have:=Hv0 recs q k
  unfold D95;split<;>omega
def Db9 (recs:List RecS) (q:RecS):List RecS:=recs.take (D95 recs q recs.length)++(q::recs.drop (D95 recs q recs.length))
def Ai7 (recs:List RecS):List Value:=(recs.map G8).flatMap brL
theorem D73 (recs:List RecS):(Ai7 recs).length=recs.length*2:=by
 have:=N3 (f:=brL) (k:=2) (fun x=>rfl) (recs.map G8)
 rw [List.length_map] at this;exact this
theorem Hy6 (recs:List RecS) (k:Nat):(Ai7 recs).take (k*2)=Ai7 (recs.take k):=by
 unfold Ai7
 induction recs generalizing k with
 | nil=>simp
 | cons x l ih =>
  cases k with
  | zero=>simp
  | succ k =>
   rw [List.take_succ_cons,List.map_cons,List.map_cons,List.flatMap_cons,List.flatMap_cons,← ih k,show (k+1)*2=k*2+1+1 by omega];rfl
theorem Hx8 (recs:List RecS) (k:Nat):(Ai7 recs).drop (k*2)=Ai7 (recs.drop k):=by
 unfold Ai7
 induction recs generalizing k with
 | nil=>simp
 | cons x l ih =>
  cases k with
  | zero=>simp
  | succ k =>
   rw [List.drop_succ_cons,List.map_cons,List.flatMap_cons,← ih k,show (k+1)*2=k*2+1+1 by omega];rfl
theorem G04 (a b:List RecS):Ai7 a++Ai7 b=Ai7 (a++b):=by unfold Ai7;rw [List.map_append,List.flatMap_append]
theorem Ey6 (l:List RecS):(Ai7 l).all Value.oneCell=true:=by
 unfold Ai7;induction l with
 | nil=>rfl
 | cons x l ih=>rw [List.map_cons,List.flatMap_cons,List.all_append,ih];rfl
theorem Il9 {l:List HP} {h:NN.H} {α:Type} {Q:α→NN.H→Prop} {ro:Bool} {e:TypeId} {sz n c:Nat} {a:Option Addr} {cs:List Value} {kk:List Value→Option (α × NN.H)} (i:Nat) (hi:l[i]?=some (slC ro e sz a n c cs)) (j:Nat) (hj:j≤n) (t:Tr l h (kk (cs.drop (j*sz))) Q):Tr l h (gCells (G7 a (decide (j<c)) (j*sz)) ((n-j)*sz) h kk) Q:=fun ow=>by
 have o1:=ow.front hi
 cases a with
 | none =>
  obtain ⟨h1,h2,h3,_⟩:=o1.slNone
  subst h3
  obtain rfl:j=0:=by omega
  have t':=t ow
  simp only [List.drop_nil] at t'
  rw [h1,show (0-0)*sz=0 by omega]
  exact t'
 | some x =>
  obtain ⟨b,o',sp⟩:=x
  obtain ⟨pre,post,o2,h1,h2,h3,h4,h5,h6,h7⟩:=o1.slOpen
  have hp:=o2.ptAt (l:=pt b (.cells e ro (pre++cs++post))::_) (i:=0) rfl
  have hm:(n-j)*sz+j*sz=n*sz:=by rw [← Nat.add_mul,Nat.sub_add_cancel hj]
  rw [Dg5,Dl7 hp]
  ·by_cases hjc:j<c
   ·rw [decide_eq_true hjc,cond_true,h4 (by omega),List.append_assoc,← List.drop_drop,List.drop_left,List.drop_append_of_le_length (by omega),List.take_append_of_le_length (by simp;omega),List.take_of_length_le (by simp;omega)]
    exact t ow
   ·obtain rfl:j=n:=by omega
    rw [Nat.sub_self,Nat.zero_mul,List.take_zero]
    have t':=t ow
    rw [List.drop_eq_nil_of_le (by omega)] at t'
    exact t'
  ·simp only [List.length_append]
   by_cases hjc:j<c
   ·rw [decide_eq_true hjc,cond_true,h4 (by omega)];omega
   ·rw [decide_eq_false hjc,cond_false]
    have hz:n-j=0:=by omega
    rw [hz,Nat.zero_mul]
    by_cases hc:c=0
    ·have:=h7 hc;omega
    ·have:=h4 (by omega);omega
theorem Ho8 (m w b:Nat) (e:Int) (caps:List Int) (recs:List RecS) (q:RecS) (hl:recs.length≤1000):∀ (k:Nat),k≤recs.length →
  CtJ E9 G0 Y9 [(0,P0 m),(3,P0 b),(4,int k)] [pt b (.cells A6 false (E2 q)),rcC m w e caps (recs.map G8)] fun v own =>
   v=.tuple ⟨[]⟩∧own [rcC m w e caps ((recs.take (D95 recs q k)++(q::recs.drop (D95 recs q k))).map G8)]:=by
 have fin:∀ k:Nat,k≤recs.length→(k=0∨Bd6 q (recs.getD (k-1) ⟨0,0⟩)=false)→CtJ E9 G0 Y9 [(0,P0 m),(3,P0 b),(4,int k)] [pt b (.cells A6 false (E2 q)),rcC m w e caps (recs.map G8)] fun v own =>
   v=.tuple ⟨[]⟩∧own [rcC m w e caps ((recs.take k++(q::recs.drop k)).map G8)]:=by
  intro k hk hz
  refine CtJ.of A97 fun h r=>Tr.eq (Bq4 ..) ?_;refine Je ?_
  refine A7 (rcC m w e caps (recs.map G8)) fun ⟨a1,c1,a2,c2⟩=>?_;refine Je ?_
  refine Yb fun o=>Wp.mono (Q:=fun v h'=>v=false∧Own h' (pt m (.cells B95 false [P0 w,int e,.slice a1 caps.length c1,.slice a2 (recs.map G8).length c2])::slC false B2 1 a1 caps.length c1 (caps.map int)::slC false A6 2 a2 (recs.map G8).length c2 (Ai7 recs)::pt b (.cells A6 false (E2 q))::r)) ?_ ?_
  ·refine Jh o ?_
   cases k with
   | zero =>
    refine Yf rfl ?_
    refine Ys fun o=>?_
    exact ⟨rfl,o⟩
   | succ k =>
    have hz:=hz.resolve_left (by omega)
    rw [show k+1-1=k by omega] at hz
    have e1:IntKind.wrap .i64 (((k+1:Nat):Int)-1)=(k:Int):=by rw [B0];omega
    have hg:recs[k]?=some recs[k]:=List.getElem?_eq_getElem (by omega)
    have hx:=E75 recs hg
    have hle:=D73 recs
    unfold Ai7 at hle
    have hy:recs.getD k ⟨0,0⟩=recs[k]:=by rw [List.getD_eq_getElem?_getD,hg];rfl
    rw [hy] at hz
    generalize recs[k]=y at *
    refine Yt (by simp) ?_
    rw [e1]
    (refine Ja ?_;unhygienic intros)
    refine B42 2 rfl (by simp;omega) fun px e=>?_
    subst e
    (refine Jc ?_;unhygienic intros)
    refine Tr.ck (by simp;omega) ?_
    rw [Int.toNat_natCast]
    refine Tr.xAggS (xs:=E2 y) ⟨by omega,by omega,hx⟩ ?_
    (refine Jb ?_;unhygienic intros)
    refine Yc (Gt1 q y) ?_;rintro _ h ⟨rfl,o⟩<;>refine Jh o ?_
    rw [hz]
    (refine Jb ?_;unhygienic intros)
    refine Ys fun o=>?_
    exact ⟨rfl,o⟩
  rintro v h ⟨rfl,o⟩
  refine (?_:Tr _ _ _ _) o
  refine Yf rfl ?_
  (refine Jc ?_;unhygienic intros)
  refine Yn fun b1 h=>?_
  refine Af0 3 rfl fun f1 f2 f3=>?_
  (refine Jc ?_;unhygienic intros)
  simp only [List.length_map] at f2
  refine Tr.ck (by omega) ?_
  (refine Jc ?_;unhygienic intros)
  refine Yn fun b2 h=>?_
  (refine Jc ?_;unhygienic intros)
  refine Tr.ck (by simp;omega) ?_
  rw [Int.toNat_natCast,List.length_map]
  refine Ak1 1 rfl 2 0 rfl (by omega) ?_
  refine Je ?_
  refine Tr.xCellsP (n:=recs.length) (sz:=2) (cs:=Ai7 recs) (xs:=Ai7 (recs.take k)) ⟨by omega,Hy6 ..⟩ ?_
  (refine Jc ?_;unhygienic intros)
  refine Tr.xApd (new:=Ai7 (recs.take k)) ⟨by rw [D73,List.length_take];omega,Ey6 _,by simp only [A8];omega⟩ fun a3 c3 h=>?_
  rw [List.nil_append,Nat.zero_add]
  (refine Jc ?_;unhygienic intros)
  rw [show List.take 2 (List.drop 0 [int q.kind,int q.index])=Ai7 [q] from rfl]
  refine Tr.xApd (new:=Ai7 [q]) ⟨rfl,Ey6 _,by simp only [A8];omega⟩ fun a4 c4 h=>?_
  rw [G04]
  (refine Jc ?_;unhygienic intros)
  refine Il9 4 rfl k (by omega) ?_
  rw [Hx8]
  (refine Jc ?_;unhygienic intros)
  refine Tr.xApd (new:=Ai7 (recs.drop k)) ⟨by rw [D73,List.length_drop],Ey6 _,by simp only [A8];omega⟩ fun a5 c5 h=>?_
  rw [G04]
  (refine Jc ?_;unhygienic intros)
  have hN:k+1+(recs.length-k)=((recs.take k++(q::recs.drop k)).map G8).length:=by simp;omega
  rw [hN,show recs.take k++[q]++recs.drop k=recs.take k++(q::recs.drop k) by simp]
  unfold Ai7
  generalize recs.take k++(q::recs.drop k)=recs2
  refine U0 [2,2,1] 3 rfl rfl ?_
  refine D3 (rcC m w e caps (recs2.map G8)) (a1,c1,a5,c5) [0,0,0] rfl ?_;refine Je ?_
  refine Ys fun o=>?_
  exact ⟨rfl,o.sub⟩
 intro k
 induction k with
 | zero=>intro h;exact fin 0 h (.inl rfl)
 | succ k ih =>
  intro h
  rw [D95]
  by_cases hq:Bd6 q (recs.getD k ⟨0,0⟩)=true
  case neg=>rw [if_neg hq];exact fin (k+1) h (.inr (by simpa using hq))
  rw [if_pos hq]
  have ih:=ih (by omega)
  have e1:IntKind.wrap .i64 (((k+1:Nat):Int)-1)=(k:Int):=by rw [B0];omega
  have hg:recs[k]?=some recs[k]:=List.getElem?_eq_getElem (by omega)
  have hx:=E75 recs hg
  have hle:=D73 recs
  unfold Ai7 at hle
  have hy:recs.getD k ⟨0,0⟩=recs[k]:=by rw [List.getD_eq_getElem?_getD,hg];rfl
  rw [hy] at hq
  generalize recs[k]=y at *
  refine CtJ.of A97 fun h r=>Tr.eq (Bq4 ..) ?_;refine Je ?_
  refine A7 (rcC m w e caps (recs.map G8)) fun ⟨a1,c1,a2,c2⟩=>?_;refine Je ?_
  refine Yb (Yt (by simp) ?_)
  rw [e1]
  (refine Ja ?_;unhygienic intros)
  refine B42 2 rfl (by simp;omega) fun px e=>?_
  subst e
  (refine Jc ?_;unhygienic intros)
  refine Tr.ck (by simp;omega) ?_
  rw [Int.toNat_natCast]
  refine Tr.xAggS (xs:=E2 y) ⟨by omega,by omega,hx⟩ ?_
  (refine Jb ?_;unhygienic intros)
  refine Yc (Gt1 q y) ?_;rintro _ h ⟨rfl,o⟩<;>refine Jh o ?_
  rw [hq]
  (refine Jb ?_;unhygienic intros)
  refine Ys fun o=>(?_:Tr _ _ _ _) o;refine Je ?_
  refine Yt rfl ?_
  refine A5 (rcC m w e caps (recs.map G8)) (a1,c1,some px,c2) ?_;refine Je ?_
  refine U0 [1,0] 0 rfl rfl ?_
  exact Yr ih fun v h q=>q
theorem In8 (m w:Nat) (e:Int) (caps:List Int) (recs:List RecS) (q:RecS) (hl:recs.length≤1000):Ct A4 G0 [P0 m,.agg ⟨E2 q⟩] [rcC m w e caps (recs.map G8)] fun v own=>v=.tuple ⟨[]⟩∧own [rcC m w e caps ((Db9 recs q).map G8)]:=by
 have J:=fun b=>Ho8 m w b e caps recs q hl recs.length (Nat.le_refl _)
 refine Ct.of A97 rfl fun h r=>Tr.eq (Ee7 ..) ?_;refine Je ?_
 refine Yn fun b h=>?_
 refine A7 (rcC m w e caps (recs.map G8)) fun ⟨a1,c1,a2,c2⟩=>?_;refine Je ?_
 (refine Ja ?_;unhygienic intros)
 refine A5 (rcC m w e caps (recs.map G8)) (a1,c1,a2,c2) ?_;refine Je ?_
 rw [List.length_map]
 refine U0 [1,0] 0 rfl rfl ?_
 exact Yr (J b) fun v h q=>q
def Gr2 (X:CX) (q:RecS):CX:=⟨X.m,Db9 X.bad q⟩
theorem Hy7 (recs:List RecS) (q:RecS):(Db9 recs q).length=recs.length+1:=by
 have:=Hv0 recs q recs.length
 unfold Db9;simp;omega
theorem Eq3 (m w:Nat) (F:RFr) (X:CX) (q:RecS) (hb:X.bad.length≤1000):Ct A4 G0 [P0 m,.agg ⟨E2 q⟩] [rmC m w F X] fun v own=>v=.tuple ⟨[]⟩∧own [rmC m w F (Gr2 X q)]:=by
 intro h r o
 obtain ⟨u,o2⟩:=Own.unfold (rmC m w F X) o
 obtain ⟨v,h',e,rfl,o3⟩:=In8 m w F.e F.caps X.bad q hb h _ o2
 exact ⟨_,h',e,rfl,Own.shut (f:=fun _:Unit=>rmF m w F (Gr2 X q)) () o3⟩
theorem Ex0 (m w:Nat) (F:RFr) (X:CX) (q:RecS) (hb:X.bad.length≤1000) (d:Int):Ct A4 Z8 [P0 m,.agg ⟨E2 q⟩,int d] [rmC m w F X] fun v own=>v=int d∧own [rmC m w F (if d=2 then Gr2 X q else X)]:=by
 refine Ct.of Eo3 rfl fun h r=>Tr.eq (Ei4 ..) ?_;refine Je ?_
 refine Yn fun b h=>?_
 by_cases hd:d=2
 ·rw [if_pos hd]
  refine Yt (by rw [beq_iff_eq];exact hd) ?_
  (refine Ja ?_;unhygienic intros)
  refine Yc (Eq3 m w F X q hb) ?_;rintro _ h ⟨rfl,o⟩<;>refine Jh o ?_
  (refine Ja ?_;unhygienic intros)
  refine Ys fun o=>?_
  exact ⟨rfl,o.sub⟩
 ·rw [if_neg hd]
  refine Yf (by rw [beq_eq_false_iff_ne];exact hd) ?_
  refine Ys fun o=>?_
  exact ⟨rfl,o.sub⟩
def rrX {α:Type} (dec:List UInt8→α × Int) (z:α) (X:CX) (q:RecS):(α × Int) × CX :=
 match rdX X q with
 | some l=>(dec l,if (dec l).2=2 then Gr2 X q else X)
 | none=>((z,2),X)
def Iw5 (F:RFr) (X:CX):Prop:=Fit F.K.R.M.length F.rg X.m
theorem Em7 {F:RFr} (k:RFrOk F) {X:CX} (f:Iw5 F X) {q:RecS} {l:List UInt8} (h:rdX X q=some l):l.length=Q3 q.kind:=by
 unfold rdX at h
 rw [RFr.fits k f] at h
 cases hp:H4 F.caps.length q with
 | none=>rw [hp] at h;cases h
 | some p =>
  obtain ⟨j,a,n⟩:=p
  rw [hp] at h
  obtain ⟨lo,z,cap,_,_,ha,hx,hl,_⟩:=B37 k f hp
  simp only at h
  split at h
  ·cases h
  ·cases h;rw [D65 (by omega),Bf9 hp]
theorem E82 {l:List HP} {h:NN.H} {α:Type} {Q:α→NN.H→Prop} {x:Option (α × NN.H)} {m w:Nat} {F:RFr} {X:CX} (i:Nat) (hi:l[i]?=some (rmC m w F X)) (t:Iw5 F X→Tr l h x Q):Tr l h x Q:=fun o=>by
 obtain ⟨u,o2⟩:=Own.unfold (rmC m w F X) (o.front hi)
 exact t (o2.front (i:=2) rfl).pure o
theorem Gz8 (m w:Nat) (F:RFr) (X:CX) (ok:RFrOk F) (hb:X.bad.length≤1000) (i:Int):Ct A4 Ai5 [P0 m,int i] [rmC m w F X] fun v own=>v=.tuple ⟨[.agg ⟨B9 (rrX Q4 .zero X ⟨1,i⟩).1.1⟩,int (rrX Q4 .zero X ⟨1,i⟩).1.2]⟩∧own [rmC m w F (rrX Q4 .zero X ⟨1,i⟩).2]:=by
 have J:=D67 m w F X ok ⟨1,i⟩ ⟨by simp,by simp,by simp⟩ hb
 refine Ct.of Eq5 rfl fun h r=>Tr.eq (Ek7 ..) ?_;refine Je ?_
 refine E82 0 rfl fun f=>?_
 refine Yn fun b h=>?_
 refine Yn fun b1 h=>?_
 (refine Ja ?_;unhygienic intros)
 refine Yc (J) ?_;rintro _ h ⟨rfl,o⟩<;>refine Jh o ?_
 unfold rrX
 cases hr:rdX X ⟨1,i⟩ with
 | none =>
  (refine Jb ?_;unhygienic intros)
  refine Yt rfl ?_
  (refine Ja ?_;unhygienic intros)
  refine Ys fun o=>?_
  exact ⟨rfl,o.sub⟩
 | some l =>
  have hl:=Em7 ok f hr
  (refine Jb ?_;unhygienic intros)
  refine Yf rfl ?_
  refine Yc (H52 l hl) ?_;rintro _ h ⟨rfl,o⟩<;>refine Jh o ?_
  generalize Q4 l=d
  (refine Jc ?_;unhygienic intros)
  refine Yn fun b2 h=>?_
  (refine Jb ?_;unhygienic intros)
  refine Yc (Ex0 m w F X ⟨1,i⟩ hb d.2) ?_;rintro _ h ⟨rfl,o⟩<;>refine Jh o ?_
  (refine Ja ?_;unhygienic intros)
  refine Ys fun o=>?_
  exact ⟨rfl,o.sub⟩
theorem G49 (m w:Nat) (F:RFr) (X:CX) (ok:RFrOk F) (hb:X.bad.length≤1000) (i:Int):Ct A4 Aj4 [P0 m,int i] [rmC m w F X] fun v own=>v=.tuple ⟨[.agg ⟨Z6 (rrX V3 .zero X ⟨2,i⟩).1.1⟩,int (rrX V3 .zero X ⟨2,i⟩).1.2]⟩∧own [rmC m w F (rrX V3 .zero X ⟨2,i⟩).2]:=by
 have J:=D67 m w F X ok ⟨2,i⟩ ⟨by simp,by simp,by simp⟩ hb
 refine Ct.of Em4 rfl fun h r=>Tr.eq (Ei8 ..) ?_;refine Je ?_
 refine E82 0 rfl fun f=>?_
 refine Yn fun b h=>?_
 refine Yn fun b1 h=>?_
 (refine Ja ?_;unhygienic intros)
 refine Yc (J) ?_;rintro _ h ⟨rfl,o⟩<;>refine Jh o ?_
 unfold rrX
 cases hr:rdX X ⟨2,i⟩ with
 | none =>
  (refine Jb ?_;unhygienic intros)
  refine Yt rfl ?_
  (refine Ja ?_;unhygienic intros)
  refine Ys fun o=>?_
  exact ⟨rfl,o.sub⟩
 | some l =>
  have hl:=Em7 ok f hr
  (refine Jb ?_;unhygienic intros)
  refine Yf rfl ?_
  refine Yc (H03 l hl) ?_;rintro _ h ⟨rfl,o⟩<;>refine Jh o ?_
  generalize V3 l=d
  (refine Jc ?_;unhygienic intros)
  refine Yn fun b2 h=>?_
  (refine Jb ?_;unhygienic intros)
  refine Yc (Ex0 m w F X ⟨2,i⟩ hb d.2) ?_;rintro _ h ⟨rfl,o⟩<;>refine Jh o ?_
  (refine Ja ?_;unhygienic intros)
  refine Ys fun o=>?_
  exact ⟨rfl,o.sub⟩
theorem Ge7 (m w:Nat) (F:RFr) (X:CX) (ok:RFrOk F) (hb:X.bad.length≤1000) (q:RecS) (hq:Rq q) (h40:Q3 q.kind=40):Ct A4 Ac6 [P0 m,.agg ⟨E2 q⟩] [rmC m w F X] fun v own=>v=.tuple ⟨[.agg ⟨D0 (rrX H7 .zero X q).1.1⟩,int (rrX H7 .zero X q).1.2]⟩∧own [rmC m w F (rrX H7 .zero X q).2]:=by
 have J:=D67 m w F X ok q hq hb
 refine Ct.of D96 rfl fun h r=>Tr.eq (Ea1 ..) ?_;refine Je ?_
 refine E82 0 rfl fun f=>?_
 refine Yn fun b1 h=>?_
 refine Yn fun b h=>?_
 (refine Ja ?_;unhygienic intros)
 refine Yc (J) ?_;rintro _ h ⟨rfl,o⟩<;>refine Jh o ?_
 unfold rrX
 cases hr:rdX X q with
 | none =>
  (refine Jb ?_;unhygienic intros)
  refine Yt rfl ?_
  (refine Ja ?_;unhygienic intros)
  refine Ys fun o=>?_
  exact ⟨rfl,o.sub⟩
 | some l =>
  have hl:=Em7 ok f hr
  (refine Jb ?_;unhygienic intros)
  refine Yf rfl ?_
  refine Yc (H45 l (hl.trans h40)) ?_;rintro _ h ⟨rfl,o⟩<;>refine Jh o ?_
  generalize H7 l=d
  have hd:(D0 d.1).length=36:=O0 d.1.len
  (refine Jc ?_;unhygienic intros)
  refine Yn fun b2 h=>?_
  (refine Jb ?_;unhygienic intros)
  refine Yc (Ex0 m w F X q hb d.2) ?_;rintro _ h ⟨rfl,o⟩<;>refine Jh o ?_
  (refine Ja ?_;unhygienic intros)
  refine Ys fun o=>?_
  exact ⟨rfl,o.sub⟩
theorem G32 (m w:Nat) (F:RFr) (X:CX) (ok:RFrOk F) (hb:X.bad.length≤1000) (i:Int) (hi:i≤9223372036854775807):Ct A4 Aj7 [P0 m,int i] [rmC m w F X] fun v own=>v=.tuple ⟨[.agg ⟨D0 (rrX H7 .zero X ⟨3,i⟩).1.1⟩,int (rrX H7 .zero X ⟨3,i⟩).1.2]⟩∧own [rmC m w F (rrX H7 .zero X ⟨3,i⟩).2]:=by
 have J:=Ge7 m w F X ok hb ⟨3,i⟩ ⟨by simp,by simp,fun _=>hi⟩ rfl
 generalize rrX H7 .zero X ⟨3,i⟩=d at *
 have hd:(D0 d.1.1).length=36:=O0 d.1.1.len
 refine Ct.of Ei5 rfl fun h r=>Tr.eq (Ep3 ..) ?_;refine Je ?_
 refine Yn fun b h=>?_
 refine Yc (J) ?_;rintro _ h ⟨rfl,o⟩<;>refine Jh o ?_
 (refine Ja ?_;unhygienic intros)
 refine Ys fun o=>?_
 exact ⟨rfl,o.sub⟩
theorem G21 (m w:Nat) (F:RFr) (X:CX) (ok:RFrOk F) (hb:X.bad.length≤1000):Ct A4 Ai1 [P0 m] [rmC m w F X] fun v own=>v=.tuple ⟨[.agg ⟨D0 (rrX H7 .zero X ⟨4,0⟩).1.1⟩,int (rrX H7 .zero X ⟨4,0⟩).1.2]⟩∧own [rmC m w F (rrX H7 .zero X ⟨4,0⟩).2]:=by
 have J:=Ge7 m w F X ok hb ⟨4,0⟩ ⟨by simp,by simp,by simp⟩ rfl
 generalize rrX H7 .zero X ⟨4,0⟩=d at *
 have hd:(D0 d.1.1).length=36:=O0 d.1.1.len
 refine Ct.of Ek1 rfl fun h r=>Tr.eq (El5 ..) ?_;refine Je ?_
 refine Yn fun b h=>?_
 refine Yc (J) ?_;rintro _ h ⟨rfl,o⟩<;>refine Jh o ?_
 (refine Ja ?_;unhygienic intros)
 refine Ys fun o=>?_
 exact ⟨rfl,o.sub⟩
theorem Gt4 (m w:Nat) (F:RFr) (X:CX) (ok:RFrOk F) (hb:X.bad.length≤1000):Ct A4 Ae5 [P0 m] [rmC m w F X] fun v own=>v=.tuple ⟨[int (rrX V9 0 X ⟨5,0⟩).1.1,.bool ((rrX V9 0 X ⟨5,0⟩).1.2==1)]⟩∧own [rmC m w F (rrX V9 0 X ⟨5,0⟩).2]:=by
 have J:=D67 m w F X ok ⟨5,0⟩ ⟨by simp,by simp,by simp⟩ hb
 refine Ct.of Eh1 rfl fun h r=>Tr.eq (Ed9 ..) ?_;refine Je ?_
 refine E82 0 rfl fun f=>?_
 refine Yn fun b h=>?_
 (refine Ja ?_;unhygienic intros)
 refine Yc (J) ?_;rintro _ h ⟨rfl,o⟩<;>refine Jh o ?_
 unfold rrX
 cases hr:rdX X ⟨5,0⟩ with
 | none =>
  (refine Jb ?_;unhygienic intros)
  refine Yt rfl ?_
  (refine Ja ?_;unhygienic intros)
  refine Ys fun o=>?_
  exact ⟨rfl,o.sub⟩
 | some l =>
  have hl:l.length=4:=Em7 ok f hr
  (refine Jb ?_;unhygienic intros)
  refine Yf rfl ?_
  simp only [Option.getD_some]
  have hz:(bs l).size=4:=by rw [U6];exact hl
  refine Tr.ck (by rw [hz];omega) ?_
  simp only [Ac7]
  refine (?_:Tr _ _ (bnd (cond (decide (byI l 0>7)) _ _) _) _)
  by_cases h7:byI l 0>7
  ·have e:V9 l=(0,2):=by unfold V9;rw [if_neg (by omega)]
   rw [e,if_pos rfl]
   refine Yb (Yt (by simpa using h7) ?_)
   refine Ys fun o=>(?_:Tr _ _ _ _) o;refine Je ?_
   refine Yt rfl ?_
   (refine Ja ?_;unhygienic intros)
   refine Yc (Eq3 m w F X ⟨5,0⟩ hb) ?_;rintro _ h ⟨rfl,o⟩<;>refine Jh o ?_
   (refine Ja ?_;unhygienic intros)
   refine Ys fun o=>?_
   exact ⟨rfl,o.sub⟩
  ·refine Yb (Yf (by simpa using h7) ?_)
   refine Tr.ck (by rw [hz];omega) ?_
   refine (?_:Tr _ _ (bnd (A4 Y6 [int (byI l 0)] _) _) _)
   refine Yc (Ew1 (byI l 0)) ?_;rintro _ h ⟨rfl,o⟩<;>refine Jh o ?_
   (refine Jb ?_;unhygienic intros)
   refine Ys fun o=>(?_:Tr _ _ _ _) o;refine Je ?_
   by_cases he:Bz1 (byI l 0)=l
   ·have e:V9 l=(byI l 0,1):=by unfold V9;rw [if_pos ⟨by omega,he⟩]
    rw [e,if_neg (show ¬ ((1:Int)=2) by decide)]
    refine Yf (by rw [Ak3,Ak3,show [b8 (byI l 0),211,Bv4 [b8 (byI l 0),211],0]=l from he];simp) ?_
    refine Tr.ck (by rw [hz];omega) ?_
    (refine Ja ?_;unhygienic intros)
    refine Ys fun o=>?_
    exact ⟨rfl,o.sub⟩
   ·have e:V9 l=(0,2):=by unfold V9;rw [if_neg (fun h=>he h.2)]
    rw [e,if_pos rfl]
    refine Yt (by rw [Ak3,Ak3,Bool.not_eq_true',beq_eq_false_iff_ne];exact fun h=>he h.symm) ?_
    (refine Ja ?_;unhygienic intros)
    refine Yc (Eq3 m w F X ⟨5,0⟩ hb) ?_;rintro _ h ⟨rfl,o⟩<;>refine Jh o ?_
    (refine Ja ?_;unhygienic intros)
    refine Ys fun o=>?_
    exact ⟨rfl,o.sub⟩
section
variable (m w:Nat) (F:RFr) (X:CX) (ok:RFrOk F) (hb:X.bad.length≤1000)
include ok hb
theorem Hf5 (i:Int) (p:ProcS) (hin:InW p):Ct A4 Am0 [P0 m,int i,.agg ⟨B9 p⟩] [rmC m w F X] fun v own=>v=.bool (B19 X i p).1∧own [rmC m w F (B19 X i p).2]:=by
 have J:=B88 m w F X ok ⟨1,i⟩ ⟨by simp,by simp,by simp⟩ hb (Bb4 p) (El3 p)
 unfold B19
 refine Ct.of D34 rfl fun h r=>Tr.eq (D31 ..) ?_;refine Je ?_
 refine Yn fun b h=>?_
 (refine Ja ?_;unhygienic intros)
 refine Yc (Gl7 p hin) ?_;rintro _ h ⟨rfl,o⟩<;>refine Jh o ?_
 (refine Jb ?_;unhygienic intros)
 cases hk:okS p with
 | false =>
  refine Yb (Yf rfl ?_)
  refine Ys fun o=>(?_:Tr _ _ _ _) o;refine Je ?_
  refine Ys fun o=>?_
  rw [Bh7]
  exact ⟨rfl,o.sub⟩
 | true =>
  refine Yb (Yt rfl ?_)
  (refine Ja ?_;unhygienic intros)
  refine Yc (G42 p) ?_;rintro _ h ⟨rfl,o⟩<;>refine Jh o ?_
  rw [Hw5 (Ix0 hin hk)]
  (refine Jb ?_;unhygienic intros)
  refine Yc (J) ?_;rintro _ h ⟨rfl,o⟩<;>refine Jh o ?_
  (refine Jb ?_;unhygienic intros)
  refine Ys fun o=>(?_:Tr _ _ _ _) o;refine Je ?_
  refine Ys fun o=>?_
  exact ⟨rfl,o.sub⟩
theorem Hm0 (i:Int) (p:FileS):Ct A4 Am1 [P0 m,int i,.agg ⟨Z6 p⟩] [rmC m w F X] fun v own=>v=.bool (B29 X i p).1∧own [rmC m w F (B29 X i p).2]:=by
 have J:=B88 m w F X ok ⟨2,i⟩ ⟨by simp,by simp,by simp⟩ hb (Bf2 p) (Gf1 p)
 unfold B29
 refine Ct.of D25 rfl fun h r=>Tr.eq (D28 ..) ?_;refine Je ?_
 refine Yn fun b h=>?_
 (refine Ja ?_;unhygienic intros)
 refine Yc (Gm5 p) ?_;rintro _ h ⟨rfl,o⟩<;>refine Jh o ?_
 (refine Jb ?_;unhygienic intros)
 cases hk:okF p with
 | false =>
  refine Yb (Yf rfl ?_)
  refine Ys fun o=>(?_:Tr _ _ _ _) o;refine Je ?_
  refine Ys fun o=>?_
  rw [Bh7]
  exact ⟨rfl,o.sub⟩
 | true =>
  refine Yb (Yt rfl ?_)
  (refine Ja ?_;unhygienic intros)
  refine Yc (G30 p) ?_;rintro _ h ⟨rfl,o⟩<;>refine Jh o ?_
  (refine Jb ?_;unhygienic intros)
  refine Yc (J) ?_;rintro _ h ⟨rfl,o⟩<;>refine Jh o ?_
  (refine Jb ?_;unhygienic intros)
  refine Ys fun o=>(?_:Tr _ _ _ _) o;refine Je ?_
  refine Ys fun o=>?_
  exact ⟨rfl,o.sub⟩
end
section
variable (m w:Nat) (F:RFr) (X:CX) (ok:RFrOk F) (hb:X.bad.length≤1000)
include ok hb
theorem Eg0 (q:RecS) (hq:Rq q) (h40:Q3 q.kind=40) (p:PipeS):Ct A4 Aa2 [P0 m,.agg ⟨E2 q⟩,.agg ⟨D0 p⟩] [rmC m w F X] fun v own=>v=.bool (wrX X q (Al3 p) (okP p)).1∧own [rmC m w F (wrX X q (Al3 p) (okP p)).2]:=by
 have J:=B88 m w F X ok q hq hb (Al3 p) ((Bo6 p.len).trans h40.symm)
 have hd:(D0 p).length=36:=O0 p.len
 refine Ct.of D23 rfl fun h r=>Tr.eq (D30 ..) ?_;refine Je ?_
 refine Yn fun b h=>?_
 refine Yn fun b1 h=>?_
 (refine Ja ?_;unhygienic intros)
 refine Yc (Gn5 p) ?_;rintro _ h ⟨rfl,o⟩<;>refine Jh o ?_
 (refine Jb ?_;unhygienic intros)
 cases hk:okP p with
 | false =>
  refine Yb (Yf rfl ?_)
  refine Ys fun o=>(?_:Tr _ _ _ _) o;refine Je ?_
  refine Ys fun o=>?_
  rw [Bh7]
  exact ⟨rfl,o.sub⟩
 | true =>
  refine Yb (Yt rfl ?_)
  (refine Ja ?_;unhygienic intros)
  refine Yc (E36 p) ?_;rintro _ h ⟨rfl,o⟩<;>refine Jh o ?_
  (refine Jb ?_;unhygienic intros)
  refine Yc (J) ?_;rintro _ h ⟨rfl,o⟩<;>refine Jh o ?_
  (refine Jb ?_;unhygienic intros)
  refine Ys fun o=>(?_:Tr _ _ _ _) o;refine Je ?_
  refine Ys fun o=>?_
  exact ⟨rfl,o.sub⟩
theorem Hj2 (i:Int) (hi:i≤9223372036854775807) (p:PipeS):Ct A4 Am2 [P0 m,int i,.agg ⟨D0 p⟩] [rmC m w F X] fun v own=>v=.bool (Dh1 X i p).1∧own [rmC m w F (Dh1 X i p).2]:=by
 have J:=Eg0 m w F X ok hb ⟨3,i⟩ ⟨by simp,by simp,fun _=>hi⟩ rfl p
 have hd:(D0 p).length=36:=O0 p.len
 refine Ct.of D27 rfl fun h r=>Tr.eq (D32 ..) ?_;refine Je ?_
 refine Yn fun b h=>?_
 (refine Ja ?_;unhygienic intros)
 refine Yc (J) ?_;rintro _ h ⟨rfl,o⟩<;>refine Jh o ?_
 (refine Ja ?_;unhygienic intros)
 refine Ys fun o=>?_
 exact ⟨rfl,o.sub⟩
theorem G61 (i:Int):Ct A4 Aj3 [P0 m,int i] [rmC m w F X] fun v own=>v=.bool (Ap7 X ⟨1,i⟩).1∧own [rmC m w F (Ap7 X ⟨1,i⟩).2]:=by
 have J:=E62 m w F X ok ⟨1,i⟩ ⟨by simp,by simp,by simp⟩ hb
 refine Ct.of Dv0 rfl fun h r=>Tr.eq (Dw0 ..) ?_;refine Je ?_
 refine Yc (J) ?_;rintro _ h ⟨rfl,o⟩<;>refine Jh o ?_
 (refine Ja ?_;unhygienic intros)
 refine Ys fun o=>?_
 exact ⟨rfl,o.sub⟩
theorem G55 (i:Int):Ct A4 Ai8 [P0 m,int i] [rmC m w F X] fun v own=>v=.bool (Ap7 X ⟨2,i⟩).1∧own [rmC m w F (Ap7 X ⟨2,i⟩).2]:=by
 have J:=E62 m w F X ok ⟨2,i⟩ ⟨by simp,by simp,by simp⟩ hb
 refine Ct.of Dw5 rfl fun h r=>Tr.eq (Dy1 ..) ?_;refine Je ?_
 refine Yc (J) ?_;rintro _ h ⟨rfl,o⟩<;>refine Jh o ?_
 (refine Ja ?_;unhygienic intros)
 refine Ys fun o=>?_
 exact ⟨rfl,o.sub⟩
theorem G79 (i:Int) (hi:i≤9223372036854775807):Ct A4 Ah3 [P0 m,int i] [rmC m w F X] fun v own=>v=.bool (Ap7 X ⟨3,i⟩).1∧own [rmC m w F (Ap7 X ⟨3,i⟩).2]:=by
 have J:=E62 m w F X ok ⟨3,i⟩ ⟨by simp,by simp,fun _=>hi⟩ hb
 refine Ct.of Du8 rfl fun h r=>Tr.eq (Dz3 ..) ?_;refine Je ?_
 refine Yc (J) ?_;rintro _ h ⟨rfl,o⟩<;>refine Jh o ?_
 (refine Ja ?_;unhygienic intros)
 refine Ys fun o=>?_
 exact ⟨rfl,o.sub⟩
theorem Hl9 (p:PipeS):Ct A4 Al9 [P0 m,.agg ⟨D0 p⟩] [rmC m w F X] fun v own=>v=.bool (Df8 X p).1∧own [rmC m w F (Df8 X p).2]:=by
 have J:=Eg0 m w F X ok hb ⟨4,0⟩ ⟨by simp,by simp,by simp⟩ rfl p
 have hd:(D0 p).length=36:=O0 p.len
 refine Ct.of D38 rfl fun h r=>Tr.eq (D26 ..) ?_;refine Je ?_
 refine Yn fun b h=>?_
 (refine Ja ?_;unhygienic intros)
 refine Yc (J) ?_;rintro _ h ⟨rfl,o⟩<;>refine Jh o ?_
 (refine Ja ?_;unhygienic intros)
 refine Ys fun o=>?_
 exact ⟨rfl,o.sub⟩
end
abbrev rS1 (X:CX) (i:Int):(ProcS × Int) × CX:=rrX Q4 .zero X ⟨1,i⟩
abbrev rF1 (X:CX) (i:Int):(FileS × Int) × CX:=rrX V3 .zero X ⟨2,i⟩
abbrev rP1 (X:CX) (i:Int):(PipeS × Int) × CX:=rrX H7 .zero X ⟨3,i⟩
def Gr6 (X:CX):CX:=(rrX V9 0 (rrX H7 .zero X ⟨4,0⟩).2 ⟨5,0⟩).2
def Gs4 (nc:Nat) (X:CX):CX:=Gr6 (Az9 (fun X i=>(rP1 X i).2) (3+nc) 0 X)
def Gl3 (nc:Nat) (X:CX):CX:=Gs4 nc (Az9 (fun X i=>(rF1 X i).2) 12 0 X)
def H16 (nc:Nat) (X:CX):CX:=Gl3 nc (Az9 (fun X i=>(rS1 X i).2) 8 0 X)
theorem E99 {α:Type} (dec:List UInt8→α × Int) (z:α) (X:CX) (q:RecS):(rrX dec z X q).2.bad.length≤X.bad.length+1:=by
 unfold rrX
 split
 ·dsimp only
  split
  ·show (Db9 X.bad q).length≤_;rw [Hy7];omega
  ·omega
 ·dsimp only;omega
theorem Ez0 (m w:Nat) (F:RFr) (ok:RFrOk F):∀ (z:Nat) (i:Int) (X:CX),X.bad.length+z≤900→0≤i→i+z=3+F.caps.length →
  CtJ E9 D8 Al7 [(0,P0 m),(4,int i)] [rmC m w F X] fun v own=>v=.tuple ⟨[]⟩∧own [rmC m w F (Gr6 (Az9 (fun X i=>(rP1 X i).2) z i X))]
 | 0,i,X,hb,h0,hi=>by
  have hs:=ok.small
  have b1:=E99 H7 PipeS.zero X ⟨4,0⟩
  have J1:=G21 m w F X ok (by omega)
  have J2:=Gt4 m w F (rrX H7 .zero X ⟨4,0⟩).2 ok (by omega)
  have hd:(D0 (rrX H7 .zero X ⟨4,0⟩).1.1).length=36:=O0 (rrX H7 .zero X ⟨4,0⟩).1.1.len
  show CtJ _ _ _ _ _ fun v own=>v=.tuple ⟨[]⟩∧own [rmC m w F (rrX V9 0 (rrX H7 .zero X ⟨4,0⟩).2 ⟨5,0⟩).2]
  generalize rrX H7 .zero X ⟨4,0⟩=d at *
  generalize rrX V9 0 d.2 ⟨5,0⟩=g at *
  have e1:IntKind.wrap .i64 (3+(F.caps.length:Int))=3+F.caps.length:=by rw [B0];omega
  refine CtJ.of S7 fun h r=>Tr.eq (Bu7 ..) ?_;refine Je ?_
  refine A7 (rmC m w F X) fun u=>?_;refine Je ?_
  refine A7 (rcC m w F.e F.caps (X.bad.map G8)) fun ⟨a1,c1,a2,c2⟩=>?_;refine Je ?_
  (refine Ja ?_;unhygienic intros)
  rw [e1]
  refine Yf (by simp;omega) ?_
  refine A5 (rcC m w F.e F.caps (X.bad.map G8)) (a1,c1,a2,c2) ?_;refine Je ?_
  refine A5 (rmC m w F X) () ?_;refine Je ?_
  refine Yc (J1) ?_;rintro _ h ⟨rfl,o⟩<;>refine Jh o ?_
  (refine Ja ?_;unhygienic intros)
  refine Yc (J2) ?_;rintro _ h ⟨rfl,o⟩<;>refine Jh o ?_
  (refine Ja ?_;unhygienic intros)
  refine Ys fun o=>?_
  exact ⟨rfl,o.sub⟩
 | z+1,i,X,hb,h0,hi=>by
  have hs:=ok.small
  have b1:=E99 H7 PipeS.zero X ⟨3,i⟩
  have J1:=G32 m w F X ok (by omega) i (by omega)
  have ih:=Ez0 m w F ok z (i+1) (rrX H7 .zero X ⟨3,i⟩).2 (by show (rrX H7 PipeS.zero X ⟨3,i⟩).2.bad.length+z≤900;omega) (by omega) (by omega)
  have hd:(D0 (rrX H7 .zero X ⟨3,i⟩).1.1).length=36:=O0 (rrX H7 .zero X ⟨3,i⟩).1.1.len
  show CtJ _ _ _ _ _ fun v own=>v=.tuple ⟨[]⟩∧own [rmC m w F (Gr6 (Az9 (fun X i=>(rP1 X i).2) z (i+1) (rrX H7 .zero X ⟨3,i⟩).2))]
  generalize rrX H7 .zero X ⟨3,i⟩=d at *
  have e1:IntKind.wrap .i64 (3+(F.caps.length:Int))=3+F.caps.length:=by rw [B0];omega
  have e2:=wI i
  refine CtJ.of S7 fun h r=>Tr.eq (Bu7 ..) ?_;refine Je ?_
  refine A7 (rmC m w F X) fun u=>?_;refine Je ?_
  refine A7 (rcC m w F.e F.caps (X.bad.map G8)) fun ⟨a1,c1,a2,c2⟩=>?_;refine Je ?_
  (refine Ja ?_;unhygienic intros)
  rw [e1,e2]
  refine Yt (by simp;omega) ?_
  refine A5 (rcC m w F.e F.caps (X.bad.map G8)) (a1,c1,a2,c2) ?_;refine Je ?_
  refine A5 (rmC m w F X) () ?_;refine Je ?_
  refine Yc (J1) ?_;rintro _ h ⟨rfl,o⟩<;>refine Jh o ?_
  (refine Ja ?_;unhygienic intros)
  exact Yr ih fun v h q=>q
theorem E35 (m w:Nat) (F:RFr) (ok:RFrOk F):∀ (z:Nat) (i:Int) (X:CX),X.bad.length+z≤850→0≤i→i+z=12 →
  CtJ E9 D8 Al6 [(0,P0 m),(3,int i)] [rmC m w F X] fun v own=>v=.tuple ⟨[]⟩∧own [rmC m w F (Gs4 F.caps.length (Az9 (fun X i=>(rF1 X i).2) z i X))]
 | 0,i,X,hb,h0,hi=>by
  have hs:=ok.small
  have J:=Ez0 m w F ok (3+F.caps.length) 0 X (by omega) (by omega) (by omega)
  refine CtJ.of S7 fun h r=>Tr.eq (Bt5 ..) ?_;refine Je ?_
  refine Yf (by simp;omega) ?_
  exact Yr J fun v h q=>q
 | z+1,i,X,hb,h0,hi=>by
  have b1:=E99 V3 FileS.zero X ⟨2,i⟩
  have J1:=G49 m w F X ok (by omega) i
  have ih:=E35 m w F ok z (i+1) (rrX V3 .zero X ⟨2,i⟩).2 (by omega) (by omega) (by omega)
  show CtJ _ _ _ _ _ fun v own=>v=.tuple ⟨[]⟩∧own [rmC m w F (Gs4 F.caps.length (Az9 (fun X i=>(rF1 X i).2) z (i+1) (rrX V3 .zero X ⟨2,i⟩).2))]
  generalize rrX V3 .zero X ⟨2,i⟩=d at *
  have e2:=wI i
  refine CtJ.of S7 fun h r=>Tr.eq (Bt5 ..) ?_;refine Je ?_
  refine Yt (by simp;omega) ?_
  rw [e2]
  refine Yc (J1) ?_;rintro _ h ⟨rfl,o⟩<;>refine Jh o ?_
  (refine Ja ?_;unhygienic intros)
  exact Yr ih fun v h q=>q
theorem E04 (m w:Nat) (F:RFr) (ok:RFrOk F):∀ (z:Nat) (i:Int) (X:CX),X.bad.length+z≤830→0≤i→i+z=8 →
  CtJ E9 D8 Am3 [(0,P0 m),(2,int i)] [rmC m w F X] fun v own=>v=.tuple ⟨[]⟩∧own [rmC m w F (Gl3 F.caps.length (Az9 (fun X i=>(rS1 X i).2) z i X))]
 | 0,i,X,hb,h0,hi=>by
  have hs:=ok.small
  have J:=E35 m w F ok 12 0 X (by omega) (by omega) (by omega)
  refine CtJ.of S7 fun h r=>Tr.eq (Bu5 ..) ?_;refine Je ?_
  refine Yf (by simp;omega) ?_
  exact Yr J fun v h q=>q
 | z+1,i,X,hb,h0,hi=>by
  have b1:=E99 Q4 ProcS.zero X ⟨1,i⟩
  have J1:=Gz8 m w F X ok (by omega) i
  have ih:=E04 m w F ok z (i+1) (rrX Q4 .zero X ⟨1,i⟩).2 (by omega) (by omega) (by omega)
  show CtJ _ _ _ _ _ fun v own=>v=.tuple ⟨[]⟩∧own [rmC m w F (Gl3 F.caps.length (Az9 (fun X i=>(rS1 X i).2) z (i+1) (rrX Q4 .zero X ⟨1,i⟩).2))]
  generalize rrX Q4 .zero X ⟨1,i⟩=d at *
  have e2:=wI i
  refine CtJ.of S7 fun h r=>Tr.eq (Bu5 ..) ?_;refine Je ?_
  refine Yt (by simp;omega) ?_
  rw [e2]
  refine Yc (J1) ?_;rintro _ h ⟨rfl,o⟩<;>refine Jh o ?_
  (refine Ja ?_;unhygienic intros)
  exact Yr ih fun v h q=>q
theorem Ia4 (m w:Nat) (F:RFr) (X:CX) (ok:RFrOk F) (hb:X.bad.length≤800):Ct A4 D8 [P0 m] [rmC m w F X] fun v own=>v=.tuple ⟨[]⟩∧own [rmC m w F (H16 F.caps.length X)]:=by
 have J:=E04 m w F ok 8 0 X (by omega) (by omega) (by omega)
 refine Ct.of S7 rfl fun h r=>Tr.eq (Ek8 ..) ?_;refine Je ?_
 exact Yr J fun v h q=>q
def FR:RFr:=⟨K0,0,[256,257,258],rgP 0⟩
def Dx0 (obj n:Int):CapS:={ CapS.zero with obj:=obj,n:=n,rights:=3 }
theorem Dr7:K0.R.lo=[0,1280,512,1856]:=by kernel_rfl
theorem Gh2:K0.R.n=[492,492,40,40]:=by kernel_rfl
theorem I08:Aj1 K0.R.N K0.R.C 0 256=some (Dx0 0 492):=by kernel_rfl
theorem I22:Aj1 K0.R.N K0.R.C 0 257=some (Dx0 2 40):=by kernel_rfl
theorem I10:Aj1 K0.R.N K0.R.C 0 258=some (Dx0 3 40):=by kernel_rfl
theorem Hu3 {right:Int} (h:right=1∨right=2):(B5 .i64 3 right==0)=false:=by rcases h with rfl|rfl<;>decide
theorem Bs9 {a n size:Int} (h0:0≤a) (h1:0≤n) (h2:a+n≤size) (hs:size≤100000):V5 a n size=true:=by
 unfold V5
 have e:IntKind.wrap .i64 (size-a)=size-a:=by rw [B0];omega
 rw [e]
 simp only [Bool.and_eq_true,decide_eq_true_eq];omega
theorem Ek3 {R:RgS} {name obj n lo:Int} (hg:Aj1 R.N R.C 0 name=some (Dx0 obj n)) (ho:0≤obj∧obj<R.lo.length) (hn:R.n.getD obj.toNat 0=n) (hl:R.lo.getD obj.toNat 0=lo) (hs:0≤n∧n≤1000) (hlo:0≤lo∧lo≤10000)
  {a m right:Int} (hr:right=1∨right=2) (h0:0≤a) (h1:0≤m) (h2:a+m≤n):D5 R 0 name right a m=(lo+a,0):=by
 obtain ⟨c,hc⟩:∃ c,c=Dx0 obj n:=⟨_,rfl⟩
 rw [← hc] at hg
 have c1:c.obj=obj:=by rw [hc];rfl
 have c2:c.n=n:=by rw [hc];rfl
 have c3:c.lo=0:=by rw [hc];rfl
 have c4:c.rights=3:=by rw [hc];rfl
 clear hc
 have b1:(B5 .i64 c.rights right==0)=false:=by rw [c4];exact Hu3 hr
 have b2:(!V5 a m c.n || decide (c.obj<0) || decide (c.obj≥R.lo.length))=false:=by
  rw [c2,Bs9 h0 h1 h2 (by omega),decide_eq_false (show ¬ c.obj<0 by omega),decide_eq_false (show ¬ c.obj≥R.lo.length by omega)];rfl
 have e:IntKind.wrap .i64 (c.lo+a)=a:=by rw [B0];omega
 have b3:(!V5 c.lo a (R.n.getD c.obj.toNat 0) || !V5 (IntKind.wrap .i64 (c.lo+a)) m (R.n.getD c.obj.toNat 0))=false:=by
  rw [e,c1,hn,Bs9 (by omega) h0 (by omega) (by omega),Bs9 h0 h1 h2 (by omega)];rfl
 have b4:IntKind.wrap .i64 (IntKind.wrap .i64 (R.lo.getD c.obj.toNat 0+c.lo)+a)=lo+a:=by rw [c1,hl];simp only [B0];omega
 unfold D5
 rw [hg]
 simp only [b1,b2,b3,b4]
 rfl
theorem Az7:RFrOk FR:=by
 have hl:K0.R.lo.length=4:=by rw [Dr7];rfl
 refine ⟨Ic4 D10.1 256 Am6,by show (0:Nat)<(De0 Ai0).B.envs.length;rw [D10.2,Bq3];simp,by simp [FR],by simp [FR],by simp [FR,rgP],?_,?_,⟨0,rfl⟩,?_⟩
 ·intro j cap lo n hc hr a m right hx hs
  have hj:j=0∨j=1∨j=2:=by
   have:=(List.getElem?_eq_some_iff.1 hc).1
   simp [FR] at this;omega
  rcases hj with rfl|rfl|rfl
  ·cases hc;cases hr
   have:=Ek3 (R:=K0.R) (lo:=0) I08 (by omega) (by rw [Gh2];rfl) (by rw [Dr7];rfl) (by omega) (by omega) (a:=a) (m:=m) hx (by omega) (by omega) (by omega)
   show D5 K0.R 0 256 right a m=_
   rw [this];congr 1
  ·cases hc;cases hr
   have:=Ek3 (R:=K0.R) (lo:=512) I22 (by omega) (by rw [Gh2];rfl) (by rw [Dr7];rfl) (by omega) (by omega) (a:=a) (m:=m) hx (by omega) (by omega) (by omega)
   show D5 K0.R 0 257 right a m=_
   rw [this];congr 1
  ·cases hc;cases hr
   have:=Ek3 (R:=K0.R) (lo:=1856) I10 (by omega) (by rw [Gh2];rfl) (by rw [Dr7];rfl) (by omega) (by omega) (a:=a) (m:=m) hx (by omega) (by omega) (by omega)
   show D5 K0.R 0 258 right a m=_
   rw [this];congr 1
 ·exact Z5.dj
 ·intro j lo n h0 h
  exact Z5.brs j lo n h0 h
theorem Il6 (R:RgS) (M:List UInt8):D5 { R with M:=M }=D5 R:=rfl
end Go.EQ
