/- One that is stopped does nothing till it goes on, and holds nobody up; then its call is done. -/
import Derived.Test.YtonlefldpebcpaaGreatDoorMk
set_option linter.all false
set_option maxRecDepth 10000
namespace Go.EQ
open Go Go.NN
abbrev inG (g:Int):Int→ProcS→Bool:=fun _ p=>p.state != 2 && p.group==g
abbrev Ek1:List Value:=[int 0,int 0,int 0,int 0,int 0,int 0,int 0,int 0,int 0,int 0,int 0,int 0,int 0,int 0,int 0,int 0]
def Go8 (V:VW) (q:Int→ProcS→Bool):Nat→Int→List (Int × ProcS)
 | 0,_=>[]
 | m+1,i=>if (V.S i).2=1∧q i (V.S i).1=true then (i,(V.S i).1)::Go8 V q m (i+1) else Go8 V q m (i+1)
theorem See.slots {X V} (A:See X V) (q:Int→ProcS→Bool):∀ (m:Nat) (i:Int),0≤i→i+m≤8→Q3 X q m i=Go8 V q m i
 | 0,_,_,_=>rfl
 | m+1,i,h0,hm=>by rw [Q3,Go8,A.slots q m (i+1) (by omega) (by omega),A.s i (by omega)]
abbrev U9 (n:Int):Int:=2 ^ n.toNat
theorem Ie9 {P:Int→Prop} {n:Int} (h:1≤n∧n≤15) (h1:P 1) (h2:P 2) (h3:P 3) (h4:P 4) (h5:P 5) (h6:P 6) (h7:P 7) (h8:P 8) (h9:P 9) (h10:P 10) (h11:P 11) (h12:P 12) (h13:P 13) (h14:P 14) (h15:P 15):P n:=by
 have:n=1∨n=2∨n=3∨n=4∨n=5∨n=6∨n=7∨n=8∨n=9∨n=10∨n=11∨n=12∨n=13∨n=14∨n=15:=by omega
 rcases this with rfl|rfl|rfl|rfl|rfl|rfl|rfl|rfl|rfl|rfl|rfl|rfl|rfl|rfl|rfl<;>assumption
theorem G76 {n:Int} (h:1≤n∧n≤15):IntKind.wrap .i64 (1*2 ^ (min (IntKind.wrap .u64 n).toNat 64))=U9 n∧0≤IntKind.wrap .u64 n:=by
 refine Ie9 (P:=fun n=>IntKind.wrap .i64 (1*2 ^ (min (IntKind.wrap .u64 n).toNat 64))=U9 n∧0≤IntKind.wrap .u64 n) h ?_ ?_ ?_ ?_ ?_ ?_ ?_ ?_ ?_ ?_ ?_ ?_ ?_ ?_ ?_<;>exact ⟨by decide,by decide⟩
theorem I21 {n:Int} (h:1≤n∧n≤15):BitVec.ofInt 64 (U9 n) &&& ~~~ BitVec.ofInt 64 65534=0#64:=by
 refine Ie9 (P:=fun n=>BitVec.ofInt 64 (U9 n) &&& ~~~ BitVec.ofInt 64 65534=0#64) h ?_ ?_ ?_ ?_ ?_ ?_ ?_ ?_ ?_ ?_ ?_ ?_ ?_ ?_ ?_<;>decide
theorem I59 (a b:Int):BitVec.ofInt 64 (Bb7 .i64 a b)=BitVec.ofInt 64 a ||| BitVec.ofInt 64 b:=by
 unfold Bb7;rw [Ed2];exact E02 _
theorem bv7 {x b m:BitVec 64} (h:x &&& ~~~ m=0#64) (h2:b &&& ~~~ m=0#64):(x ||| b) &&& ~~~ m=0#64:=by
 rw [show (x ||| b) &&& ~~~ m=(x &&& ~~~ m) ||| (b &&& ~~~ m) from ?_,h,h2];rfl
 apply BitVec.eq_of_getLsbD_eq;intro i hi
 simp only [BitVec.getLsbD_and,BitVec.getLsbD_or,BitVec.getLsbD_not]
 cases x.getLsbD i<;>cases b.getLsbD i<;>simp
theorem bv8 {x m:BitVec 64} (c:BitVec 64) (h:x &&& ~~~ m=0#64):(x &&& ~~~ c) &&& ~~~ m=0#64:=by
 rw [show (x &&& ~~~ c) &&& ~~~ m=(x &&& ~~~ m) &&& ~~~ c from ?_,h];simp
 apply BitVec.eq_of_getLsbD_eq;intro i hi
 simp only [BitVec.getLsbD_and,BitVec.getLsbD_not,decide_eq_true hi,Bool.true_and]
 cases x.getLsbD i<;>cases c.getLsbD i<;>cases m.getLsbD i<;>rfl
abbrev By9 (y:Int):Prop:=BitVec.ofInt 64 y &&& ~~~ BitVec.ofInt 64 65534=0#64
theorem Iv8 {y:Int} (h:A18 y 0=true):By9 y:=by
 unfold A18 at h
 simp only [Bool.and_eq_true,beq_iff_eq] at h
 unfold By9
 rw [← Iz2,h.1];rfl
theorem H96 {y:Int} (h:By9 y):A18 y 0=true:=by
 unfold A18
 rw [Iy3 h,Hc5 (by simp)];rfl
theorem Hg2 {x:BitVec 64} (h:By9 (IntKind.wrap .i64 x.toNat)):0≤IntKind.wrap .i64 (x.toNat:Int)∧IntKind.wrap .i64 (x.toNat:Int)≤65535:=by
 unfold By9 at h
 rw [Ed2,E02] at h
 have e:x=x &&& BitVec.ofInt 64 65534:=by
  apply BitVec.eq_of_getLsbD_eq;intro i hi
  have:=congrArg (fun z=>z.getLsbD i) h
  simp only [BitVec.getLsbD_and,BitVec.getLsbD_not,BitVec.getLsbD_zero,decide_eq_true hi,Bool.true_and] at this ⊢
  revert this
  generalize x.getLsbD i=u
  generalize (BitVec.ofInt 64 65534).getLsbD i=w
  cases u<;>cases w<;>decide
 have h2:x.toNat≤65534:=by
  rw [e,BitVec.toNat_and];exact Nat.and_le_right
 rw [B4];omega
theorem I08 {y n:Int} (h:By9 y) (hn:1≤n∧n≤15):By9 (Bb7 .i64 y (U9 n))∧0≤Bb7 .i64 y (U9 n)∧Bb7 .i64 y (U9 n)≤65535:=by
 have k:By9 (Bb7 .i64 y (U9 n)):=by unfold By9;rw [I59];exact bv7 h (I21 hn)
 exact ⟨k,Hg2 k⟩
theorem Ig9 {y:Int} (h:By9 y) (c:Int):By9 (J7 .i64 y c)∧0≤J7 .i64 y c∧J7 .i64 y c≤65535:=by
 have k:By9 (J7 .i64 y c):=by unfold By9;rw [Iz2];exact bv8 _ h
 exact ⟨k,Hg2 k⟩
abbrev Bg0 (p:ProcS) (s n:Int):ProcS:=⟨s,p.parent,p.group,p.code,n,p.mask,p.ignored,p.caught,p.fds,p.len⟩
abbrev Df8 (p:ProcS) (n:Int):Int:=if D2 .i64 p.ignored (U9 n)=0∨D2 .i64 (U9 n) 16896≠0 then Bb7 .i64 p.pending (U9 n) else p.pending
abbrev E36 (p:ProcS) (n:Int):Int:=if U9 n=32768 then J7 .i64 (Df8 p n) 16384 else if U9 n=16384 then J7 .i64 (Df8 p n) 32768 else Df8 p n
abbrev st2 (p:ProcS) (n:Int):Int:=if (U9 n=512∨U9 n=32768)∧p.state=3 then 1 else p.state
abbrev Dv2 (p:ProcS) (n:Int):Prop:=(1≤n∧n≤15)∧(p.state=1∨p.state=3)
def A32 (p:ProcS) (n:Int):ProcS:=Bg0 p (st2 p n) (E36 p n)
theorem G98 {p:ProcS} (h:okS p=true) (r:InS p) {n:Int} (c:Dv2 p n):okS (A32 p n)=true∧InS (A32 p n):=by
 obtain ⟨hn,hs⟩:=c
 unfold okS at h
 rw [if_neg (by omega)] at h
 simp only [Bool.and_eq_true,Bool.not_eq_true',Bool.or_eq_false_iff,decide_eq_false_iff_not] at h
 obtain ⟨⟨⟨⟨⟨⟨⟨⟨a1,a2⟩,a3⟩,a4⟩,a5⟩,a6⟩,a7⟩,a8⟩,⟨⟨⟨⟨b1,b2⟩,b3⟩,b4⟩,b5⟩,d1,d2⟩:=h
 have i0:=Iv8 (by simpa using b1)
 have i1:By9 (Df8 p n)∧0≤Df8 p n∧Df8 p n≤65535:=by
  unfold Df8;split
  ·exact I08 i0 hn
  ·exact ⟨i0,r.a⟩
 have i2:By9 (E36 p n)∧0≤E36 p n∧E36 p n≤65535:=by
  unfold E36;split
  ·exact Ig9 i1.1 _
  ·split
   ·exact Ig9 i1.1 _
   ·exact i1
 have hst:st2 p n=1∨st2 p n=3:=by unfold st2;split<;>omega
 refine ⟨?_,⟨i2.2,r.b,r.c,r.d⟩⟩
 unfold okS
 rw [if_neg (show ¬ (A32 p n).state=2 by show ¬ st2 p n=2;omega)]
 simp only [Bool.and_eq_true,Bool.not_eq_true',Bool.or_eq_false_iff,decide_eq_false_iff_not]
 refine ⟨⟨⟨⟨⟨⟨⟨⟨?_,?_⟩,a3⟩,a4⟩,a5⟩,a6⟩,a7⟩,a8⟩,⟨⟨⟨⟨?_,b2⟩,b3⟩,b4⟩,b5⟩,d1,d2⟩
 ·show ¬ st2 p n<1;omega
 ·show ¬ st2 p n>3;omega
 ·show (!A18 (E36 p n) 0)=false;rw [H96 i2.1];rfl
theorem If5 (n:Int):Ct A6 Eh9 [int n] [] fun v own=>v=.bool (decide (1≤n∧n≤15))∧own []:=by
 refine Ct.of Ij9 rfl fun h r=>Tr.eq (Ik6 ..) ?_;refine Je ?_
 by_cases h1:1≤n
 ·refine Yb (Yt (by simpa using h1) ?_)
  refine Ys fun o=>(?_:Tr _ _ _ _) o;refine Je ?_
  refine Ys fun o=>?_
  exact ⟨by rw [decide_eq_decide.2 (show n≤15↔1≤n∧n≤15 by omega)],o.sub⟩
 ·refine Yb (Yf (by simpa using h1) ?_)
  refine Ys fun o=>(?_:Tr _ _ _ _) o;refine Je ?_
  refine Ys fun o=>?_
  exact ⟨by rw [decide_eq_false (show ¬ (1≤n∧n≤15) by omega)],o.sub⟩
abbrev rs2 (p:ProcS) (b:Int):ProcS:=Bg0 p p.state (if b=32768 then J7 .i64 p.pending 16384 else if b=16384 then J7 .i64 p.pending 32768 else p.pending)
theorem Ht1 (b0 b1:Nat) (p:ProcS) (b:Int):CtJ I4 W1 Bo5 [(2,P0 b0),(4,P0 b1),(6,int b)] [pt b0 (.cells B2 false (B5 p)),pt b1 (.cells B2 false Ek1)] fun v own=>v=.tuple ⟨[.agg ⟨B5 (rs2 p b)⟩,.bool true]⟩∧own []:=by
 obtain ⟨st,pa,gr,co,pe,ma,ig,ca,fds,len⟩:=p
 unfold rs2 Bg0
 dsimp only
 refine CtJ.of D50 fun h r=>Tr.eq (Gs2 ..) ?_;refine Je ?_
 by_cases h1:b=32768
 ·rw [if_pos h1]
  refine Yt (by simpa using h1) ?_
  (refine Jb ?_;intros)
  refine (?_:Tr (pt _ (.cells B2 false (B5 ⟨st,pa,gr,co,J7 .i64 pe 16384,ma,ig,ca,fds,len⟩))::_) _ _ _)
  generalize hp2:(⟨st,pa,gr,co,J7 .i64 pe 16384,ma,ig,ca,fds,len⟩:ProcS)=p2
  (refine Ja ?_;intros)
  refine Ys fun o=>?_
  exact ⟨rfl,o.sub⟩
 rw [if_neg h1]
 refine Yf (by simpa using h1) ?_
 by_cases h2:b=16384
 ·rw [if_pos h2]
  refine Yt (by simpa using h2) ?_
  (refine Jb ?_;intros)
  refine (?_:Tr (pt _ (.cells B2 false (B5 ⟨st,pa,gr,co,J7 .i64 pe 32768,ma,ig,ca,fds,len⟩))::_) _ _ _)
  generalize hp2:(⟨st,pa,gr,co,J7 .i64 pe 32768,ma,ig,ca,fds,len⟩:ProcS)=p2
  (refine Ja ?_;intros)
  refine Ys fun o=>?_
  exact ⟨rfl,o.sub⟩
 rw [if_neg h2]
 refine Yf (by simpa using h2) ?_
 generalize hp2:(⟨st,pa,gr,co,pe,ma,ig,ca,fds,len⟩:ProcS)=p2
 (refine Ja ?_;intros)
 refine Ys fun o=>?_
 exact ⟨rfl,o.sub⟩
abbrev rs1 (p:ProcS) (b:Int):ProcS:=Bg0 p (if (b=512∨b=32768)∧p.state=3 then 1 else p.state) p.pending
theorem Ht5 (b0 b1:Nat) (p:ProcS) (b:Int):CtJ I4 W1 A77 [(2,P0 b0),(4,P0 b1),(6,int b)] [pt b0 (.cells B2 false (B5 p)),pt b1 (.cells B2 false Ek1)] fun v own=>v=.tuple ⟨[.agg ⟨B5 (rs2 (rs1 p b) b)⟩,.bool true]⟩∧own []:=by
 have J:=Ht1 b0 b1 (rs1 p b) b
 obtain ⟨st,pa,gr,co,pe,ma,ig,ca,fds,len⟩:=p
 generalize hq:rs2 (rs1 ⟨st,pa,gr,co,pe,ma,ig,ca,fds,len⟩ b) b=q2 at J ⊢
 unfold rs1 Bg0 at J
 dsimp only at J
 refine CtJ.of D50 fun h r=>Tr.eq (Gs8 ..) ?_;refine Je ?_
 refine Yb fun o=>Wp.mono (Q:=fun v h'=>v=decide (b=512∨b=32768)∧Own h' (pt b0 (.cells B2 false (B5 ⟨st,pa,gr,co,pe,ma,ig,ca,fds,len⟩))::pt b1 (.cells B2 false Ek1)::r)) ?_ ?_
 ·refine Jh o ?_
  by_cases h1:b=512
  ·refine Yt (by simpa using h1) ?_
   refine Ys fun o=>?_
   exact ⟨(decide_eq_true (.inl h1)).symm,o⟩
  ·refine Yf (by simpa using h1) ?_
   refine Ys fun o=>?_
   exact ⟨by rw [Bool.eq_iff_iff,beq_iff_eq,decide_eq_true_iff];exact ⟨.inr,fun h=>h.elim (fun h=>absurd h h1) id⟩,o⟩
 rintro v h ⟨rfl,o⟩
 refine Jh o ?_
 refine Yb fun o=>Wp.mono (Q:=fun v h'=>v=decide ((b=512∨b=32768)∧st=3)∧Own h' (pt b0 (.cells B2 false (B5 ⟨st,pa,gr,co,pe,ma,ig,ca,fds,len⟩))::pt b1 (.cells B2 false Ek1)::r)) ?_ ?_
 ·refine Jh o ?_
  by_cases h1:b=512∨b=32768
  ·refine Yt (decide_eq_true h1) ?_
   (refine Jb ?_;intros)
   refine Ys fun o=>?_
   exact ⟨by rw [Bool.eq_iff_iff,beq_iff_eq,decide_eq_true_iff];exact ⟨fun h=>⟨h1,h⟩,fun h=>h.2⟩,o⟩
  ·refine Yf (decide_eq_false h1) ?_
   refine Ys fun o=>?_
   exact ⟨(decide_eq_false fun h=>h1 h.1).symm,o⟩
 rintro v h ⟨rfl,o⟩
 refine Jh o ?_
 by_cases h1:(b=512∨b=32768)∧st=3
 ·rw [if_pos h1] at J
  refine Yt (decide_eq_true h1) ?_
  (refine Jb ?_;intros)
  refine (?_:Tr (pt _ (.cells B2 false (B5 ⟨1,pa,gr,co,pe,ma,ig,ca,fds,len⟩))::_) _ _ _)
  exact Yr J fun v h q=>q
 ·rw [if_neg h1] at J
  refine Yf (decide_eq_false h1) ?_
  exact Yr J fun v h q=>q
theorem Im6 (p:ProcS) (n:Int):Ct A6 W1 [.agg ⟨B5 p⟩,int n] [] fun v own=>v=.tuple ⟨[.agg ⟨B5 (if Dv2 p n then A32 p n else p)⟩,.bool (decide (Dv2 p n))]⟩∧own []:=by
 refine Ct.of D50 rfl fun h r=>Tr.eq (Hs3 ..) ?_;refine Je ?_
 refine Yn fun b0 h=>?_
 refine Yn fun b1 h=>?_
 refine Yc (If5 n) ?_;rintro _ h ⟨rfl,o⟩<;>refine Jh o ?_
 (refine Jb ?_;intros)
 refine Yb fun o=>Wp.mono (Q:=fun v h'=>v=!decide (Dv2 p n)∧Own h' (pt b1 (.cells B2 false Ek1)::pt b0 (.cells B2 false (B5 p))::r)) ?_ ?_
 ·refine Jh o ?_
  by_cases hn:1≤n∧n≤15
  case neg =>
   refine Yt (by rw [decide_eq_false hn];rfl) ?_
   refine Ys fun o=>?_
   exact ⟨by rw [decide_eq_false (fun h=>hn h.1)];rfl,o⟩
  refine Yf (by rw [decide_eq_true hn];rfl) ?_
  (refine Jb ?_;intros)
  by_cases h1:p.state=1
  ·refine Yb (Yf (by rw [h1];rfl) ?_)
   refine Ys fun o=>(?_:Tr _ _ _ _) o;refine Je ?_
   refine Ys fun o=>?_
   exact ⟨by rw [decide_eq_true ⟨hn,.inl h1⟩];rfl,o⟩
  ·refine Yb (Yt (by simpa using h1) ?_)
   (refine Jb ?_;intros)
   refine Ys fun o=>(?_:Tr _ _ _ _) o;refine Je ?_
   refine Ys fun o=>?_
   refine ⟨?_,o⟩
   rw [Bool.eq_iff_iff,Bool.not_eq_true',decide_eq_false_iff_not,bne_iff_ne]
   exact ⟨fun h k=>k.2.elim h1 h,fun h k=>h ⟨hn,.inr k⟩⟩
 rintro v h ⟨rfl,o⟩
 refine Jh o ?_
 by_cases hc:Dv2 p n
 case neg =>
  rw [if_neg hc,decide_eq_false hc]
  refine Yt rfl ?_
  (refine Ja ?_;intros)
  refine Ys fun o=>?_
  exact ⟨rfl,o.sub⟩
 rw [if_pos hc,decide_eq_true hc]
 refine Yf rfl ?_
 obtain ⟨e1,e2⟩:=G76 hc.1
 rw [e1]
 refine Tr.ck e2 ?_
 have J:CtJ I4 W1 A77 [(2,P0 b0),(4,P0 b1),(6,int (U9 n))] [pt b0 (.cells B2 false (B5 (Bg0 p p.state (Df8 p n)))),pt b1 (.cells B2 false Ek1)] fun v own=>v=.tuple ⟨[.agg ⟨B5 (A32 p n)⟩,.bool true]⟩∧own []:=Ht5 b0 b1 (Bg0 p p.state (Df8 p n)) (U9 n)
 generalize A32 p n=p2 at *
 unfold Bg0 Df8 at J
 generalize U9 n=b at *
 obtain ⟨st,pa,gr,co,pe,ma,ig,ca,fds,len⟩:=p
 dsimp only at J
 (refine Jb ?_;intros)
 refine Yb fun o=>Wp.mono (Q:=fun v h'=>v=decide (D2 .i64 ig b=0∨D2 .i64 b 16896≠0)∧Own h' (pt b1 (.cells B2 false Ek1)::pt b0 (.cells B2 false (B5 ⟨st,pa,gr,co,pe,ma,ig,ca,fds,len⟩))::r)) ?_ ?_
 ·refine Jh o ?_
  by_cases h1:D2 .i64 ig b=0
  ·refine Yt (by simpa using h1) ?_
   refine Ys fun o=>?_
   exact ⟨(decide_eq_true (.inl h1)).symm,o⟩
  ·refine Yf (by simpa using h1) ?_
   refine Ys fun o=>?_
   exact ⟨by rw [Bool.eq_iff_iff,bne_iff_ne,decide_eq_true_iff];exact ⟨.inr,fun h=>h.elim (fun h=>absurd h h1) id⟩,o⟩
 rintro v h ⟨rfl,o⟩
 refine Jh o ?_
 by_cases h1:D2 .i64 ig b=0∨D2 .i64 b 16896≠0
 ·rw [if_pos h1] at J
  refine Yt (decide_eq_true h1) ?_
  (refine Jb ?_;intros)
  refine (?_:Tr (_::pt _ (.cells B2 false (B5 ⟨st,pa,gr,co,Bb7 .i64 pe b,ma,ig,ca,fds,len⟩))::_) _ _ _)
  exact Yr J fun v h q=>q
 ·rw [if_neg h1] at J
  refine Yf (decide_eq_false h1) ?_
  exact Yr J fun v h q=>q
end Go.EQ

set_option maxRecDepth 10000
namespace Go.EQ
open Go Go.NN Go.Proofs
def H48:List Int:=[0,1,56,2,57,49,28,3,61,58,42,50,38,29,17,4,62,47,59,36,45,43,51,22,53,39,33,30,24,18,12,5,63,55,48,27,60,41,37,16,46,35,44,21,52,32,23,11,54,26,40,15,34,20,31,10,25,14,19,9,13,8,7,6]
abbrev gC:HP:=pt 1 (.cells A4 true (H48.map (Value.int .u8)))
abbrev TzE (x:Int) (ix:Nat):Prop:=∀ (C:D3) (R:Aa7) (h:H),xQ Ao0 C R Ab7 Tryz.f265 Ba7 [(0,.int .u64 x)] h=NN.gInt .u8 ⟨1,ix,none⟩ h fun z=>some (int (IntKind.wrap .i64 z),h)
theorem De9 {x n:Int} {ix:Nat} (e:TzE x ix) (hx:(H48.map (Value.int .u8))[ix]?=some (.int .u8 n)) (hw:IntKind.wrap .i64 n=n):Ct A6 W8 [.int .u64 x] [gC] fun v own=>v=int n∧own [gC]:=by
 have J:Ct A6 Ab7 [.int .u64 x] [gC] fun v own=>v=int n∧own [gC]:=Ct.of Dk0 rfl fun h r=>show Tr (gC::r) h _ _ from Tr.eq (e ..) (Tr.xInt (n:=n) hx (Tr.some fun o=>⟨by rw [hw],o⟩))
 refine Ct.of Dr7 rfl fun h r=>Tr.eq (Do8 ..) ?_;refine Je ?_
 refine Tr.xCall (J) ?_;rintro _ h ⟨rfl,o⟩<;>refine Jh o ?_
 (refine Jc ?_;unhygienic intros)
 refine Tr.some fun o=>?_
 exact ⟨rfl,o.sub⟩
theorem tz1:TzE (U9 1) 1:=fun _ _ _=>by kernel_rfl
theorem tz2:TzE (U9 2) 3:=fun _ _ _=>by kernel_rfl
theorem tz3:TzE (U9 3) 7:=fun _ _ _=>by kernel_rfl
theorem tz4:TzE (U9 4) 15:=fun _ _ _=>by kernel_rfl
theorem tz5:TzE (U9 5) 31:=fun _ _ _=>by kernel_rfl
theorem tz6:TzE (U9 6) 63:=fun _ _ _=>by kernel_rfl
theorem tz7:TzE (U9 7) 62:=fun _ _ _=>by kernel_rfl
theorem tz8:TzE (U9 8) 61:=fun _ _ _=>by kernel_rfl
theorem I60:TzE (U9 14) 57:=fun _ _ _=>by kernel_rfl
theorem I48:TzE (U9 15) 51:=fun _ _ _=>by kernel_rfl
structure SigT (n:Int):Prop where
 rng:n=1∨n=2∨n=3∨n=4∨n=5∨n=6∨n=7∨n=8∨n=14∨n=15
theorem SigT.tz {n:Int} (s:SigT n):Ct A6 W8 [.int .u64 (U9 n)] [gC] fun v own=>v=int n∧own [gC]:=by
 obtain ⟨rfl|rfl|rfl|rfl|rfl|rfl|rfl|rfl|rfl|rfl⟩:=s
 ·exact De9 tz1 rfl rfl
 ·exact De9 tz2 rfl rfl
 ·exact De9 tz3 rfl rfl
 ·exact De9 tz4 rfl rfl
 ·exact De9 tz5 rfl rfl
 ·exact De9 tz6 rfl rfl
 ·exact De9 tz7 rfl rfl
 ·exact De9 tz8 rfl rfl
 ·exact De9 I60 rfl rfl
 ·exact De9 I48 rfl rfl
theorem SigT.b {n:Int} (s:SigT n):IntKind.wrap .u64 (U9 n)=U9 n∧D2 .i64 (U9 n) 512=0∧U9 n≠0:=by
 obtain ⟨rfl|rfl|rfl|rfl|rfl|rfl|rfl|rfl|rfl|rfl⟩:=s
 all_goals exact ⟨by decide,by decide,by decide⟩
abbrev G74 (p:ProcS):Int:=D2 .i64 (J7 .i64 p.pending p.mask) 65534
abbrev Ih2 (p:ProcS) (n:Int):Int:=D2 .i64 (Int.fdiv p.caught (2 ^ (min (Int.toNat (IntKind.wrap .u64 n)) 64))) 1
abbrev G69 (p:ProcS) (n:Int):Int:=if Ih2 p n=1 then 2 else if n=15 then 1 else if n=14 then 3 else 4
theorem Hj3 (p:ProcS) (h0:p.state≠1∨G74 p=0):Ct A6 As6 [.agg ⟨B5 p⟩] [] fun v own=>v=.tuple ⟨[int 0,int 0]⟩∧own []:=by
 refine Ct.of Dr6 rfl fun h r=>Tr.eq (Ei7 ..) ?_;refine Je ?_
 refine Tr.nw fun b h=>?_
 (refine Jb ?_;unhygienic intros)
 by_cases h1:p.state=1
 ·have h2:D2 .i64 (J7 .i64 p.pending p.mask) 65534=0:=h0.resolve_left (by simpa using h1)
  rw [h2]
  refine Tr.bnd (Tr.condF (by simpa using h1) ?_)
  refine Tr.some fun o=>(?_:Tr _ _ _ _) o;refine Je ?_
  refine Tr.condT rfl ?_
  refine Tr.some fun o=>?_
  exact ⟨rfl,o.sub⟩
 ·refine Tr.bnd (Tr.condT (by simpa using h1) ?_)
  refine Tr.some fun o=>(?_:Tr _ _ _ _) o;refine Je ?_
  refine Tr.condT rfl ?_
  refine Tr.some fun o=>?_
  exact ⟨rfl,o.sub⟩
theorem G80 (p:ProcS) {n:Int} (s:SigT n) (h1:p.state=1) (ho:G74 p=U9 n):Ct A6 As6 [.agg ⟨B5 p⟩] [gC] fun v own=>v=.tuple ⟨[int n,int (G69 p n)]⟩∧own [gC]:=by
 obtain ⟨e1,e2,e3⟩:=s.b
 refine Ct.of Dr6 rfl fun h r=>Tr.eq (Ei7 ..) ?_;refine Je ?_
 refine Tr.nw fun b h=>?_
 (refine Jb ?_;unhygienic intros)
 rw [show D2 .i64 (J7 .i64 p.pending p.mask) 65534=U9 n from ho]
 refine Tr.bnd (Tr.condF (by simpa using h1) ?_)
 refine Tr.some fun o=>(?_:Tr _ _ _ _) o;refine Je ?_
 refine Tr.condF (by simpa using e3) ?_
 rw [e2]
 refine Tr.condF rfl ?_
 rw [e1]
 refine Tr.xCall (s.tz) ?_;rintro _ h ⟨rfl,o⟩<;>refine Jh o ?_
 refine Tr.jmp Dr6 (Tr.eq (G31 ..) ?_);(try simp only[Nr,Nl,wl,Nat.reduceAdd,Nat.reduceMul,Int.reduceToNat])
 (refine Jc ?_;unhygienic intros)
 refine Tr.ck (G76 (by have:=s.rng;omega)).2 ?_
 have hk:∀ m,B5 p=m→m=B5 p:=fun _ h=>h.symm
 unfold G69
 by_cases hc:Ih2 p n=1
 ·rw [if_pos hc]
  refine Tr.condT (by simpa using hc) ?_
  refine Tr.some fun o=>?_
  exact ⟨rfl,o.sub⟩
 rw [if_neg hc]
 refine Tr.condF (by simpa using hc) ?_
 by_cases h15:n=15
 ·rw [if_pos h15]
  refine Tr.condT (by simpa using h15) ?_
  refine Tr.some fun o=>?_
  exact ⟨rfl,o.sub⟩
 rw [if_neg h15]
 refine Tr.condF (by simpa using h15) ?_
 by_cases h14:n=14
 ·rw [if_pos h14]
  refine Tr.condT (by simpa using h14) ?_
  refine Tr.some fun o=>?_
  exact ⟨rfl,o.sub⟩
 rw [if_neg h14]
 refine Tr.condF (by simpa using h14) ?_
 refine Tr.some fun o=>?_
 exact ⟨rfl,o.sub⟩
end Go.EQ

set_option maxRecDepth 10000
namespace Go.EQ
open Go Go.NN Go.Proofs
abbrev G67 (p:ProcS) (n:Int):Int:=J7 .i64 p.pending (U9 n)
section
variable (p:ProcS) {n:Int} (s:SigT n) (h1:p.state=1) (ho:G74 p=U9 n)
include s h1 ho
theorem Hr6 (w:G69 p n=1) (q:ProcS) (eq:q=Bg0 p p.state (G67 p n)) (hq:G74 q=0):Ct A6 P1 [.agg ⟨B5 p⟩] [gC] fun v own=>v=.tuple ⟨[.agg ⟨B5 q⟩,.slice none 0 0,int 0]⟩∧own [gC]:=by
 obtain ⟨k1,k2⟩:=G76 (n:=n) (by have:=s.rng;omega)
 refine Ct.of Aj1 rfl fun h r=>Tr.eq (Dl8 ..) ?_;refine Je ?_
 refine Tr.nw fun b h=>?_
 refine Tr.nw fun b1 h=>?_
 refine Tr.jmp Aj1 (Tr.eq (Ax3 ..) ?_);(try simp only[Nr,Nl,wl,Nat.reduceAdd,Nat.reduceMul,Int.reduceToNat])
 (refine Ja ?_;unhygienic intros)
 refine Tr.xCall (G80 p s h1 ho) ?_;rintro _ h ⟨rfl,o⟩<;>refine Jh o ?_
 rw [w]
 (refine Jc ?_;unhygienic intros)
 refine Tr.condF rfl ?_
 (refine Jc ?_;unhygienic intros)
 rw [k1]
 (refine Jd ?_;unhygienic intros)
 rw [show (B5 p).set 4 (int (J7 .i64 p.pending (U9 n)))=B5 q from eq ▸ rfl]
 refine Tr.jmp Aj1 (Tr.eq (Ax3 ..) ?_);(try simp only[Nr,Nl,wl,Nat.reduceAdd,Nat.reduceMul,Int.reduceToNat])
 (refine Ja ?_;unhygienic intros)
 refine Tr.xCall (Hj3 q (.inr hq)) ?_;rintro _ h ⟨rfl,o⟩<;>refine Jh o ?_
 (refine Jd ?_;unhygienic intros)
 refine Tr.some fun o=>?_
 exact ⟨rfl,o.sub⟩
theorem Ho9 (w:G69 p n=3) (q:ProcS) (eq:q=Bg0 p 3 (G67 p n)):Ct A6 P1 [.agg ⟨B5 p⟩] [gC] fun v own=>v=.tuple ⟨[.agg ⟨B5 q⟩,.slice none 0 0,int 0]⟩∧own [gC]:=by
 obtain ⟨k1,k2⟩:=G76 (n:=n) (by have:=s.rng;omega)
 refine Ct.of Aj1 rfl fun h r=>Tr.eq (Dl8 ..) ?_;refine Je ?_
 refine Tr.nw fun b h=>?_
 refine Tr.nw fun b1 h=>?_
 refine Tr.jmp Aj1 (Tr.eq (Ax3 ..) ?_);(try simp only[Nr,Nl,wl,Nat.reduceAdd,Nat.reduceMul,Int.reduceToNat])
 (refine Ja ?_;unhygienic intros)
 refine Tr.xCall (G80 p s h1 ho) ?_;rintro _ h ⟨rfl,o⟩<;>refine Jh o ?_
 rw [w]
 (refine Jc ?_;unhygienic intros)
 refine Tr.condF rfl ?_
 (refine Jc ?_;unhygienic intros)
 rw [k1]
 (refine Jd ?_;unhygienic intros)
 rw [show ((B5 p).set 4 (int (J7 .i64 p.pending (U9 n)))).set 0 (int 3)=B5 q from eq ▸ rfl]
 refine Tr.jmp Aj1 (Tr.eq (Ax3 ..) ?_);(try simp only[Nr,Nl,wl,Nat.reduceAdd,Nat.reduceMul,Int.reduceToNat])
 (refine Ja ?_;unhygienic intros)
 refine Tr.xCall (Hj3 q (.inl (by rw [eq];show (3:Int)≠1;decide))) ?_;rintro _ h ⟨rfl,o⟩<;>refine Jh o ?_
 (refine Jd ?_;unhygienic intros)
 refine Tr.some fun o=>?_
 exact ⟨rfl,o.sub⟩
end
end Go.EQ

set_option maxRecDepth 10000
namespace Go.EQ
open Go Go.NN Go.Proofs
abbrev H17 (p p':ProcS) (l:List Int) (d:Int):Prop:=Ct A6 P1 [.agg ⟨B5 p⟩] [gC] fun v own=>∃ x xc,v=.tuple ⟨[.agg ⟨B5 p'⟩,.slice x l.length xc,int d]⟩∧own [gC,slC false B3 1 x l.length xc (l.map int)]
theorem Hv4 {p p':ProcS} {d:Int} (J:Ct A6 P1 [.agg ⟨B5 p⟩] [gC] fun v own=>v=.tuple ⟨[.agg ⟨B5 p'⟩,.slice none 0 0,int d]⟩∧own [gC]):H17 p p' [] d:=by
 intro h r o
 obtain ⟨v,h',e,hv,o2⟩:=J h r o
 exact ⟨v,h',e,none,0,hv,(E8 (Q:=fun _ h=>Own h (gC::slC false B3 1 none 0 0 []::r)) false B3 1 (by omega) (Tr.some fun o=>o.picks [1] rfl):Tr (gC::r) h' (some ((),h')) _) o2 |>.elim fun _ x=>by
  obtain ⟨h2,e2,o3⟩:=x
  cases e2;exact o3⟩
abbrev Im8 (s slot op a b:Int) (da:Option Addr) (dn dc:Nat) (n e:Int) (xa:Option Addr) (xn xc:Nat) (back:Bool) (sa:Option Addr) (sn sc:Nat) (d:Int):List Value:=[int s,int slot,int op,int a,int b,.slice da dn dc,int n,int e,.slice xa xn xc,.bool back,.slice sa sn sc,int d]
abbrev H33 (S:KS) (q k N:Nat) (j:Int) (y:HoS) (T:SectS) (t:Int) (V V':VW) (l:List Int) (d:Int):Prop:=∀ (X:CX),See X V→∀ (s slot op a b:Int) (da:Option Addr) (dn dc:Nat) (n e:Int) (xa:Option Addr) (xn xc:Nat) (back:Bool),
 Ct A6 Ao5 [P0 q,.agg ⟨Ei3 s slot op a b da dn dc n e xa xn xc back⟩] [hoC q k j y,kmC S k T t X.m,gC] fun v own=>∃ X' x sc,See X' V'∧v=.agg ⟨Im8 s slot op a b da dn dc n e xa xn xc back x l.length sc d⟩∧own [hoC q k j y,kmC S k T t X'.m,gC,slC false B3 1 x l.length sc (l.map int)]
section
variable {S:KS} (B:Base S)
include B
theorem Hl7 (q k N:Nat) {j:Int} (hj:0≤j∧j<4) (y:HoS) (T:SectS) (t:Int) (ok:TOk N T t) {V:VW} {p p':ProcS} (hv:V.S j=(p,1)) (hs:p.state=1) {l:List Int} (J:H17 p p' l 0) (k1:okS p'=true) (k2:InS p'):H33 S q k N j y T t V (wS V j p') l 0:=by
 intro X A s slot op a b da dn dc n e xa xn xc back
 have fo:=Ax6 B ok (Dm0 hj)
 have e0:=A.s j (by omega)
 rw [hv] at e0
 have w:=Aw2 A.c (i:=j) (by omega) k1 k2
 have sm:=A.ws (i:=j) (by omega) k1 k2
 refine Ct.of D15 rfl fun h r=>Tr.eq (D23 ..) ?_;refine Je ?_
 refine Tr.nw fun b1 h=>?_
 refine Tr.nw fun b2 h=>?_
 refine A9 (hoC q k j y) fun ⟨ha,hc⟩=>?_;refine Je ?_
 (refine Jc ?_;unhygienic intros)
 refine Tr.nw fun b3 h=>?_
 refine Bi5 S y.c k N T t j X.m ?_
 rw [A.eX]
 refine Tr.xCall (Z5 y.c k (frH S T t N j) X fo j) ?_;rintro _ h ⟨rfl,o⟩<;>refine Jh o ?_
 rw [N9 A.c (by omega),e0]
 dsimp only
 (refine Jb ?_;unhygienic intros)
 refine Tr.bnd (Tr.condF rfl ?_)
 (refine Jb ?_;unhygienic intros)
 refine Tr.some fun o=>(?_:Tr _ _ _ _) o;refine Je ?_
 rw [hs]
 refine Tr.condF rfl ?_
 (refine Jc ?_;unhygienic intros)
 refine Tr.xCall (J) ?_;rintro _ h ⟨x,sc,rfl,o⟩<;>refine Jh o ?_
 (refine Jc ?_;unhygienic intros)
 refine Tr.xCall (Dg6 y.c k (frH S T t N j) X fo j p') ?_;rintro _ h ⟨rfl,o⟩<;>refine Jh o ?_
 rw [w.1]
 (refine Jc ?_;unhygienic intros)
 refine Tr.condF rfl ?_
 (refine Jc ?_;unhygienic intros)
 refine Be4 S y.c k N T t j (Br1 X j p') sm.c.bad ?_
 refine A7 (hoC q k j y) (ha,hc) ?_;refine Je ?_
 refine Tr.some fun o=>?_
 exact ⟨_,x,sc,sm,rfl,o.sub⟩
end
end Go.EQ

set_option maxRecDepth 10000
namespace Go.EQ
open Go Go.NN Go.Proofs
section
variable {S:KS} (B:Base S) (q k N:Nat) {j:Int} (hj:0≤j∧j<4) (y:HoS) (T:SectS) (t:Int) (ok:TOk N T t) {X:CX} {V:VW} (A:See X V) {p:ProcS} (hv:V.S j=(p,1))
include B hj ok A hv
theorem H46 (hs:p.state=1) (h0:y.phase=1):Ct A6 D6 [P0 q] [hoC q k j y,kmC S k T t X.m] fun v own=>v=G68∧own [hoC q k j (Eg7 y (B9 T j t).1.1),kmC S k (B9 T j t).2 t X.m]:=by
 have fo:=Ax6 B ok (Dm0 hj)
 have e0:=A.s j (by omega)
 rw [hv] at e0
 refine Ct.of Ae1 rfl fun h r=>Tr.eq (Al6 ..) ?_;refine Je ?_
 refine Tr.nw fun b1 h=>?_
 refine A9 (hoC q k j y) fun ⟨ha,hc⟩=>?_;refine Je ?_
 (refine Jc ?_;unhygienic intros)
 refine Bi5 S y.c k N T t j X.m ?_
 rw [A.eX]
 refine Tr.xCall (Al1 y.c k (frH S T t N j) X fo) ?_;rintro _ h ⟨rfl,o⟩<;>refine Jh o ?_
 rw [U7 A.c]
 (refine Jc ?_;unhygienic intros)
 refine Tr.nw fun b2 h=>?_
 refine Tr.xCall (Z5 y.c k (frH S T t N j) X fo j) ?_;rintro _ h ⟨rfl,o⟩<;>refine Jh o ?_
 rw [N9 A.c (by omega),e0]
 dsimp only
 (refine Jc ?_;unhygienic intros)
 refine Tr.condF rfl ?_
 refine Tr.bnd (Tr.condF rfl ?_)
 (refine Jb ?_;unhygienic intros)
 refine Tr.some fun o=>(?_:Tr _ _ _ _) o;refine Je ?_
 rw [hs]
 refine Tr.condF rfl ?_
 (refine Jb ?_;unhygienic intros)
 rw [hs]
 refine Tr.condF rfl ?_
 (refine Jb ?_;unhygienic intros)
 rw [h0]
 refine Be4 S y.c k N T t j X A.c.bad ?_
 refine A7 (hoC q k j y) (ha,hc) ?_;refine Je ?_
 refine Tr.condT rfl ?_
 refine Tr.xCall (Hg1 B q k N hj y T t X.m ok) ?_;rintro _ h ⟨rfl,o⟩<;>refine Jh o ?_
 (refine Jc ?_;unhygienic intros)
 refine Tr.some fun o=>?_
 exact ⟨rfl,o.sub⟩
theorem H72 (hs:p.state=3) (h0:y.phase≠2):Ct A6 D6 [P0 q] [hoC q k j y,kmC S k T t X.m] fun v own=>v=G68∧own [hoC q k j y,kmC S k T t X.m]:=by
 have fo:=Ax6 B ok (Dm0 hj)
 have e0:=A.s j (by omega)
 rw [hv] at e0
 refine Ct.of Ae1 rfl fun h r=>Tr.eq (Al6 ..) ?_;refine Je ?_
 refine Tr.nw fun b1 h=>?_
 refine A9 (hoC q k j y) fun ⟨ha,hc⟩=>?_;refine Je ?_
 (refine Jc ?_;unhygienic intros)
 refine Bi5 S y.c k N T t j X.m ?_
 rw [A.eX]
 refine Tr.xCall (Al1 y.c k (frH S T t N j) X fo) ?_;rintro _ h ⟨rfl,o⟩<;>refine Jh o ?_
 rw [U7 A.c]
 (refine Jc ?_;unhygienic intros)
 refine Tr.nw fun b2 h=>?_
 refine Tr.xCall (Z5 y.c k (frH S T t N j) X fo j) ?_;rintro _ h ⟨rfl,o⟩<;>refine Jh o ?_
 rw [N9 A.c (by omega),e0]
 dsimp only
 (refine Jc ?_;unhygienic intros)
 refine Tr.condF rfl ?_
 refine Tr.bnd (Tr.condF rfl ?_)
 (refine Jb ?_;unhygienic intros)
 refine Tr.some fun o=>(?_:Tr _ _ _ _) o;refine Je ?_
 rw [hs]
 refine Tr.condF rfl ?_
 (refine Jb ?_;unhygienic intros)
 rw [hs]
 refine Tr.condT rfl ?_
 (refine Jb ?_;unhygienic intros)
 refine Tr.condF (by simpa using h0) ?_
 refine Be4 S y.c k N T t j X A.c.bad ?_
 refine A7 (hoC q k j y) (ha,hc) ?_;refine Je ?_
 refine Tr.jmp Ae1 (Tr.eq (Er3 ..) ?_);(try simp only[Nr,Nl,wl,Nat.reduceAdd,Nat.reduceMul,Int.reduceToNat])
 (refine Jc ?_;unhygienic intros)
 refine Tr.some fun o=>?_
 exact ⟨rfl,o.sub⟩
theorem H68 (hs:p.state=1) (h0:y.phase=0) {V':VW} (E:H33 S q k N j y T t V V' [] 0):Ct A6 D6 [P0 q] [hoC q k j y,kmC S k T t X.m,gC] fun v own=>∃ X',See X' V'∧v=G68∧own [hoC q k j y,kmC S k T t X'.m,gC]:=by
 have fo:=Ax6 B ok (Dm0 hj)
 have e0:=A.s j (by omega)
 rw [hv] at e0
 refine Ct.of Ae1 rfl fun h r=>Tr.eq (Al6 ..) ?_;refine Je ?_
 refine Tr.nw fun b1 h=>?_
 refine A9 (hoC q k j y) fun ⟨ha,hc⟩=>?_;refine Je ?_
 (refine Jc ?_;unhygienic intros)
 refine Bi5 S y.c k N T t j X.m ?_
 rw [A.eX]
 refine Tr.xCall (Al1 y.c k (frH S T t N j) X fo) ?_;rintro _ h ⟨rfl,o⟩<;>refine Jh o ?_
 rw [U7 A.c]
 (refine Jc ?_;unhygienic intros)
 refine Tr.nw fun b2 h=>?_
 refine Tr.xCall (Z5 y.c k (frH S T t N j) X fo j) ?_;rintro _ h ⟨rfl,o⟩<;>refine Jh o ?_
 rw [N9 A.c (by omega),e0]
 dsimp only
 (refine Jc ?_;unhygienic intros)
 refine Tr.condF rfl ?_
 refine Tr.bnd (Tr.condF rfl ?_)
 (refine Jb ?_;unhygienic intros)
 refine Tr.some fun o=>(?_:Tr _ _ _ _) o;refine Je ?_
 rw [hs]
 refine Tr.condF rfl ?_
 (refine Jb ?_;unhygienic intros)
 rw [hs]
 refine Tr.condF rfl ?_
 (refine Jb ?_;unhygienic intros)
 rw [h0]
 refine Be4 S y.c k N T t j X A.c.bad ?_
 refine A7 (hoC q k j y) (ha,hc) ?_;refine Je ?_
 refine Tr.condF rfl ?_
 refine Tr.condF rfl ?_
 refine Tr.condF rfl ?_
 refine A9 (hoC q k j y) fun ⟨ga,gc⟩=>?_;refine Je ?_
 (refine Jc ?_;unhygienic intros)
 refine A7 (hoC q k j y) (ga,gc) ?_;refine Je ?_
 refine Tr.xCall (E X A 0 j 0 0 0 none 0 0 0 0 none 0 0 false) ?_;rintro _ h ⟨X',x,sc,A',rfl,o⟩<;>refine Jh o ?_
 (refine Jc ?_;unhygienic intros)
 refine Tr.nw fun b3 h=>?_
 (refine Jb ?_;unhygienic intros)
 refine Tr.bnd (Tr.condF rfl ?_)
 (refine Jb ?_;unhygienic intros)
 refine Tr.some fun o=>(?_:Tr _ _ _ _) o;refine Je ?_
 refine Tr.condF rfl ?_
 (refine Jc ?_;unhygienic intros)
 refine Tr.some fun o=>?_
 exact ⟨X',A',rfl,o.sub⟩
theorem Iw7 (hh:Ao9 T j y.stamp=true) {V' V2:VW} {n e:Int} {bs:List UInt8} (J:DoJ y.c k (frH S T t N j) X V' j y.op y.a y.b y.d n e bs false) (h3:y.op≠3) {l:List Int} {d:Int} (E:H33 S q k N j { y with phase:=0 } (J0 T j y.stamp) t V' V2 l d) :
  Ct A6 A85 [P0 q] [hoC q k j y,kmC S k T t X.m,gC] fun v own=>∃ da dc x cap X' sx sc,See X' V2∧v=.tuple ⟨[.agg ⟨Im8 0 j y.op y.a y.b da y.d.length dc n e x bs.length cap true sx l.length sc d⟩,.bool true]⟩ ∧
   own [hoC q k j { y with phase:=0 },kmC S k (J0 T j y.stamp) t X'.m,gC,slC false B3 1 sx l.length sc (l.map int),dC x cap bs]:=by
 refine Ct.of Ea6 rfl fun h r=>Tr.eq (Ed9 ..) ?_;refine Je ?_
 refine Tr.nw fun b1 h=>?_
 refine A9 (hoC q k j y) fun ⟨ha,hc⟩=>?_;refine Je ?_
 (refine Jc ?_;unhygienic intros)
 refine Hb2 B k q j y ha hc T t X.m ?_
 rw [hh]
 refine Tr.condF rfl ?_
 (refine Jc ?_;unhygienic intros)
 refine Tr.nw fun b2 h=>?_
 refine Bi5 S y.c k N T t j X.m ?_
 rw [A.eX]
 refine Tr.xCall (J ha hc) ?_;rintro _ h ⟨x,cap,X',A',rfl,o⟩<;>refine Jh o ?_
 (refine Jc ?_;unhygienic intros)
 refine Be4 S y.c k N T t j X' A'.c.bad ?_
 refine A7 (hoC q k j y) (ha,hc) ?_;refine Je ?_
 refine Tr.xCall (G17 B q k N hj y T t X'.m ok 0) ?_;rintro _ h ⟨rfl,o⟩<;>refine Jh o ?_
 (refine Jc ?_;unhygienic intros)
 refine A9 (hoC q k j { y with phase:=0 }) fun ⟨ga,gc⟩=>?_;refine Je ?_
 refine Tr.xCall (G97 q k j { y with phase:=0 } ga gc n e x bs.length cap false) ?_;rintro _ h ⟨rfl,o⟩<;>refine Jh o ?_
 (refine Jc ?_;unhygienic intros)
 refine Tr.nw fun b3 h=>?_
 (refine Jc ?_;unhygienic intros)
 refine Tr.condT (by simpa using h3) ?_
 (refine Jc ?_;unhygienic intros)
 refine A7 (hoC q k j { y with phase:=0 }) (ga,gc) ?_;refine Je ?_
 refine Tr.xCall (E X' A' 0 j y.op y.a y.b ga y.d.length gc n e x bs.length cap true) ?_;rintro _ h ⟨X2,sx,sc,A2,rfl,o⟩<;>refine Jh o ?_
 (refine Jc ?_;unhygienic intros)
 refine Tr.some fun o=>?_
 exact ⟨ga,gc,x,cap,X2,sx,sc,A2,rfl,o.sub⟩
theorem H53 (hs:p.state=1) (h0:y.phase=2) (hh:Ao9 T j y.stamp=true) {V' V2:VW} {n e:Int} {bs:List UInt8} (J:DoJ y.c k (frH S T t N j) X V' j y.op y.a y.b y.d n e bs false) (h3:y.op≠3) {l:List Int} {d:Int} (E:H33 S q k N j { y with phase:=0 } (J0 T j y.stamp) t V' V2 l d) :
  Ct A6 D6 [P0 q] [hoC q k j y,kmC S k T t X.m,gC] fun v own=>∃ da dc x cap X' sx sc,See X' V2∧v=.tuple ⟨[.agg ⟨Im8 0 j y.op y.a y.b da y.d.length dc n e x bs.length cap true sx l.length sc d⟩,.bool true]⟩ ∧
   own [hoC q k j { y with phase:=0 },kmC S k (J0 T j y.stamp) t X'.m,gC,slC false B3 1 sx l.length sc (l.map int),dC x cap bs]:=by
 have fo:=Ax6 B ok (Dm0 hj)
 have e0:=A.s j (by omega)
 rw [hv] at e0
 refine Ct.of Ae1 rfl fun h r=>Tr.eq (Al6 ..) ?_;refine Je ?_
 refine Tr.nw fun b1 h=>?_
 refine A9 (hoC q k j y) fun ⟨ha,hc⟩=>?_;refine Je ?_
 (refine Jc ?_;unhygienic intros)
 refine Bi5 S y.c k N T t j X.m ?_
 rw [A.eX]
 refine Tr.xCall (Al1 y.c k (frH S T t N j) X fo) ?_;rintro _ h ⟨rfl,o⟩<;>refine Jh o ?_
 rw [U7 A.c]
 (refine Jc ?_;unhygienic intros)
 refine Tr.nw fun b2 h=>?_
 refine Tr.xCall (Z5 y.c k (frH S T t N j) X fo j) ?_;rintro _ h ⟨rfl,o⟩<;>refine Jh o ?_
 rw [N9 A.c (by omega),e0]
 dsimp only
 (refine Jc ?_;unhygienic intros)
 refine Tr.condF rfl ?_
 refine Tr.bnd (Tr.condF rfl ?_)
 (refine Jb ?_;unhygienic intros)
 refine Tr.some fun o=>(?_:Tr _ _ _ _) o;refine Je ?_
 rw [hs]
 refine Tr.condF rfl ?_
 (refine Jb ?_;unhygienic intros)
 rw [hs]
 refine Tr.condF rfl ?_
 (refine Jb ?_;unhygienic intros)
 rw [h0]
 refine Be4 S y.c k N T t j X A.c.bad ?_
 refine A7 (hoC q k j y) (ha,hc) ?_;refine Je ?_
 refine Tr.condF rfl ?_
 refine Tr.condT rfl ?_
 refine Tr.xCall (Iw7 B q k N hj y T t ok A hv hh J h3 E) ?_;rintro _ h ⟨da,dc,x,cap,X',sx,sc,A',rfl,o⟩<;>refine Jh o ?_
 (refine Jc ?_;unhygienic intros)
 refine Tr.some fun o=>?_
 exact ⟨da,dc,x,cap,X',sx,sc,A',rfl,o.sub⟩
theorem H24 (hs:p.state≠2) (h0:y.phase=0) (op a b:Int) (pb:HP) (da:Option Addr) (ro:Bool) (dc:Nat) (d:List UInt8) (hd:d.length≤A8) [ks:IsSl pb da ro A4 1 d.length dc (A0 d)] :
  Ct A6 Q9 [P0 q,.agg ⟨[int op,int a,int b,.slice da d.length dc]⟩] [hoC q k j y,kmC S k T t X.m,pb] fun v own=>v=.bool true∧own [hoC q k j { y with phase:=1,op:=op,a:=a,b:=b,d:=d },kmC S k T t X.m,pb]:=by
 have fo:=Ax6 B ok (Dm0 hj)
 have e0:=A.s j (by omega)
 rw [hv] at e0
 refine Ct.of Bs2 rfl fun h r=>Tr.eq (Bq8 ..) ?_;refine Je ?_
 refine Tr.nw fun b1 h=>?_
 refine A9 (hoC q k j y) fun ⟨ha,hc⟩=>?_;refine Je ?_
 (refine Jc ?_;unhygienic intros)
 refine Bi5 S y.c k N T t j X.m ?_
 rw [A.eX]
 refine Tr.xCall (Al1 y.c k (frH S T t N j) X fo) ?_;rintro _ h ⟨rfl,o⟩<;>refine Jh o ?_
 rw [U7 A.c]
 (refine Jc ?_;unhygienic intros)
 rw [h0]
 refine Tr.condF rfl ?_
 (refine Jc ?_;unhygienic intros)
 refine Tr.nw fun b2 h=>?_
 refine Tr.xCall (Z5 y.c k (frH S T t N j) X fo j) ?_;rintro _ h ⟨rfl,o⟩<;>refine Jh o ?_
 rw [N9 A.c (by omega),e0]
 dsimp only
 (refine Jc ?_;unhygienic intros)
 refine Tr.condF (by simp [hs]) ?_
 (refine Jc ?_;unhygienic intros)
 refine Be4 S y.c k N T t j X A.c.bad ?_
 refine Tr.xCall (Ew8 pb ro da dc d hd) ?_;rintro _ h ⟨xa,xc,rfl,o⟩<;>refine Jh o ?_
 (refine Jc ?_;unhygienic intros)
 simp only [List.set_cons_zero,List.set_cons_succ]
 (refine Jc ?_;unhygienic intros)
 simp only [List.take_succ_cons,List.take_zero,List.drop_zero]
 (refine Jc ?_;unhygienic intros)
 simp only [List.take_succ_cons,List.take_zero,List.drop_zero,List.drop_succ_cons,List.drop_nil,List.nil_append,List.append_nil,List.cons_append,List.length_cons,List.length_nil,Nat.zero_add,Nat.reduceAdd]
 refine A7 (hoC q k j { y with phase:=1,op:=op,a:=a,b:=b,d:=d }) (xa,xc) ?_;refine Je ?_
 refine Tr.some fun o=>?_
 exact ⟨rfl,o.sub⟩
end
theorem Hl8 {β:Type} {a b:Bool} {h:NN.H} {K:Bool→NN.H→Option (β × NN.H)}:bnd (cond a (some (true,h)) (some (b,h))) K=K (a || b) h:=by cases a<;>rfl
theorem Hs8 (bi:Nat) (t:Int) (ht:0≤t∧t≤15) (j:Int) (p:ProcS):Ct A6 Ax7 [.agg ⟨int j::B5 p⟩,P0 bi] [pt bi (.cells B3 false [int t])] fun v own=>v=.bool (inG (t-8) j p)∧own [pt bi (.cells B3 false [int t])]:=by
 have e1:IntKind.wrap .i64 (t-8)=t-8:=by rw [B4];omega
 refine Ct.of Gf5 rfl fun h r=>Tr.eq (Gc7 ..) ?_;refine Je ?_
 refine Yn fun b h=>?_
 (refine Ja ?_;intros)
 refine Yc (Io8 j p) ?_;rintro _ h ⟨rfl,o⟩<;>refine Jh o ?_
 (refine Jb ?_;intros)
 by_cases h2:p.state=2
 ·refine Yb (Yf (by simpa using h2) ?_)
  refine Ys fun o=>(?_:Tr _ _ _ _) o;refine Je ?_
  refine Ys fun o=>?_
  exact ⟨by rw [show inG (t-8) j p=false by unfold inG;simp [h2]],o.sub⟩
 ·refine Yb (Yt (by simpa using h2) ?_)
  (refine Jb ?_;intros)
  refine Ys fun o=>(?_:Tr _ _ _ _) o;refine Je ?_
  refine Ys fun o=>?_
  rw [e1]
  exact ⟨by rw [show inG (t-8) j p=(p.group==t-8) by unfold inG;simp [h2]],o.sub⟩
def Bi1 (X:CX) (t:Int):List (Int × ProcS):=if t≥8 then Q3 X (inG (t-8)) 8 0 else if (vS X t).2=0 then [] else [(t,(vS X t).1)]
theorem Eu1 {X:CX} (q:Int→ProcS→Bool):∀ (m:Nat) (i:Int),∀ s ∈ Q3 X q m i,InS s.2
 | 0,i,s,hs=>by simp [Q3] at hs
 | m+1,i,s,hs=>by
  rw [Q3] at hs
  split at hs
  ·rcases List.mem_cons.1 hs with rfl|h2
   ·exact De3 _
   ·exact Eu1 q m (i+1) s h2
  ·exact Eu1 q m (i+1) s hs
theorem Hb3 {nc:Nat} {X:CX} (c:Clean nc X) {t:Int} (ht:0≤t∧t≤15):∀ s ∈ Bi1 X t,(0≤s.1∧s.1<8)∧okS s.2=true∧InS s.2:=by
 intro s hs
 unfold Bi1 at hs
 split at hs
 ·obtain ⟨h1,h2,h3⟩:=Ej5 c _ 8 0 (by omega) (by omega) s hs
  exact ⟨⟨h1,h2⟩,h3,Eu1 _ 8 0 s hs⟩
 ·split at hs
  ·cases hs
  ·rename_i h8 h0
   rw [List.mem_singleton] at hs
   subst hs
   refine ⟨⟨ht.1,by simp only;omega⟩,?_,De3 _⟩
   rcases Gl7 c (i:=t) (by omega) with ⟨h1,_⟩|⟨_,h2⟩
   ·exact absurd h1 h0
   ·exact h2
theorem H12 (b k:Nat) (F:Fr) (X:CX) (ok:FrOk F) {nc:Nat} (c:Clean nc X) (t:Int) (ht:0≤t∧t≤15):Ct A6 Bo8 [P0 b,int t] [cmC b k F X] fun v own=>∃ a ac,v=.tuple ⟨[.slice a (Bi1 X t).length ac,int (if (Bi1 X t).length=0 then 103 else 0)]⟩∧own [slC false N6 17 a (Bi1 X t).length ac ((Bi1 X t).flatMap Df9),cmC b k F X]:=by
 have hk:t<8→(vS X t).2=0∨(vS X t).2=1:=fun h=>by
  rcases Gl7 c (i:=t) (by omega) with ⟨h1,_⟩|⟨h1,_⟩
  ·exact .inl h1
  ·exact .inr h1
 unfold Bi1
 refine Ct.of Gv2 rfl fun h r=>Tr.eq (Gt9 ..) ?_;refine Je ?_
 refine Yn fun bi h=>?_
 (refine Jb ?_;intros)
 by_cases h8:t≥8
 ·rw [if_pos h8]
  refine Yt (decide_eq_true h8) ?_
  refine Yc (Il5 b k F X ok c (pt bi (.cells B3 false [int t])) Ax7 [P0 bi] (inG (t-8)) (fun j p=>Hs8 bi t ht j p)) ?_;rintro _ h ⟨a,ac,rfl,o⟩<;>refine Jh o ?_
  (refine Jb ?_;intros)
  by_cases hz:(Q3 X (inG (t-8)) 8 0).length=0
  ·refine Yt (by simp [hz]) ?_
   refine Ys fun o=>?_
   have e:Q3 X (inG (t-8)) 8 0=[]:=List.eq_nil_of_length_eq_zero hz
   rw [e]
   exact ⟨none,0,rfl,o.sub.slNil false N6 (by omega)⟩
  ·refine Yf (by simpa using hz) ?_
   refine Ys fun o=>?_
   rw [if_neg hz]
   exact ⟨a,ac,rfl,o.sub⟩
 rw [if_neg h8]
 refine Yf (decide_eq_false h8) ?_
 (refine Jb ?_;intros)
 refine Yc (Z5 b k F X ok t) ?_;rintro _ h ⟨rfl,o⟩<;>refine Jh o ?_
 rw [N9 c (by omega)]
 dsimp only
 generalize (vS X t).1=p at *
 generalize (vS X t).2=st at *
 (refine Jc ?_;intros)
 refine Yn fun b1 h=>?_
 (refine Jb ?_;intros)
 rcases hk (by omega) with h1|h1
 ·rw [if_pos h1]
  refine Yt (by simpa using h1) ?_
  refine Ys fun o=>?_
  exact ⟨none,0,rfl,o.sub.slNil false N6 (by omega)⟩
 ·rw [if_neg (by omega)]
  refine Yf (by rw [h1];rfl) ?_
  refine Yf (by rw [h1];rfl) ?_
  (refine Jb ?_;intros)
  refine Tr.ck (by rw [List.append_nil];exact Au5 t p) ?_
  refine Yn fun b2 h=>?_
  rw [List.append_nil,List.append_nil]
  refine Ao6 0 rfl 17 1 (by rw [Au5]) (by omega) ?_
  refine (?_:Tr (slC false N6 17 (some ⟨b2,0,none⟩) 1 1 (int t::B5 p)::_::cmC b k F X::_) _ _ _)
  refine Ys fun o=>?_
  refine ⟨some ⟨b2,0,none⟩,1,rfl,?_⟩
  rw [show List.flatMap Df9 [(t,p)]=int t::B5 p from List.append_nil _,show [(t,p)].length=1 from rfl]
  exact o.sub
def Dr0 (X:CX) (n:Int):List (Int × ProcS)→CX
 | []=>X
 | s::l=>Dr0 (if Dv2 s.2 n then Br1 X s.1 (A32 s.2 n) else X) n l
def Ig6 (L:List (Int × ProcS)):Prop:=∀ s ∈ L,(0≤s.1∧s.1<8)∧okS s.2=true∧InS s.2
instance {j:Int} {p:ProcS}:PartC (int j::B5 p) 1 16 (B5 p):=⟨by
 unfold B32
 rw [Nat.ble_eq_true_of_le (by rw [Au5];omega),List.drop_succ_cons,List.drop_zero,List.take_of_length_le (by rw [B08];omega)];rfl⟩
theorem H70 (b k:Nat) (F:Fr) (ok:FrOk F) {nc:Nat} (n:Int) (b4:Nat) (L:List (Int × ProcS)) (hL:Ig6 L) (h8:L.length≤8) (a:Option Addr) (ac:Nat):∀ (m i:Nat) (X:CX),Clean nc X→i+m=L.length →
  CtJ I4 Au9 Bp3 [(0,P0 b),(3,int n),(8,P0 b4),(53,.slice a L.length ac),(54,int L.length),(55,int i)] [slC false N6 17 a L.length ac (L.flatMap Df9),pt b4 (.cells An3 false I55),cmC b k F X] fun v own =>
   v=.agg ⟨Aa0 0 0 false⟩∧own [cmC b k F (Dr0 X n (L.drop i))]:=by
 intro m
 induction m with
 | zero =>
  intro i X c hi
  rw [show L.drop i=[] from List.drop_eq_nil_of_le (by omega),show Dr0 X n []=X from rfl]
  refine CtJ.of D55 fun h r=>Tr.eq (Ea8 ..) ?_;refine Je ?_
  refine Yf (by simp;omega) ?_
  (refine Ja ?_;intros)
  refine Ys fun o=>?_
  exact ⟨rfl,o.sub⟩
 | succ m ih =>
  intro i X c hi
  have hil:i<L.length:=by omega
  have e1:=wN i
  have hg:L[i]?=some L[i]:=List.getElem?_eq_getElem hil
  have hd:L.drop i=L[i]::L.drop (i+1):=List.drop_eq_getElem_cons hil
  obtain ⟨r1,r2,r3⟩:=hL _ (List.getElem_mem hil)
  rw [hd]
  generalize L[i]=s at hg r1 r2 r3
  obtain ⟨j,p⟩:=s
  simp only at r1 r2 r3
  rw [show Dr0 X n ((j,p)::L.drop (i+1))=Dr0 (if Dv2 p n then Br1 X j (A32 p n) else X) n (L.drop (i+1)) from rfl]
  have hpart:=Be3 (f:=Df9) (k:=17) (fun x=>Au5 x.1 x.2) hg
  have hlen:=W6 (f:=Df9) (k:=17) (fun x=>Au5 x.1 x.2) L
  refine CtJ.of D55 fun h r=>Tr.eq (Ea8 ..) ?_;refine Je ?_
  refine Yt (by simp;omega) ?_
  rw [e1]
  refine Ae9 0 rfl fun h1 h2 h3=>?_
  (refine Jc ?_;intros;repeat(refine Gw ?_;rintro px rfl;refine Jc ?_;intros))
  rw [Int.toNat_natCast]
  refine Tr.xAggS (xs:=int j::B5 p) ⟨by omega,by omega,hpart⟩ ?_
  refine Yn fun b2 h=>?_
  (refine Ja ?_;intros)
  refine Yc (Im6 p n) ?_;rintro _ h ⟨rfl,o⟩<;>refine Jh o ?_
  by_cases hc:Dv2 p n
  ·obtain ⟨k1,k2⟩:=G98 r2 r3 hc
   obtain ⟨w1,w2,_⟩:=Aw2 c r1 k1 k2
   rw [if_pos hc,if_pos hc,decide_eq_true hc]
   generalize A32 p n=p2 at *
   (refine Jc ?_;intros)
   refine Yn fun b3 h=>?_
   (refine Jb ?_;intros)
   refine Yb (Yt rfl ?_)
   (refine Jb ?_;intros)
   refine Yc (Dg6 b k F X ok j p2) ?_;rintro _ h ⟨rfl,o⟩<;>refine Jh o ?_
   rw [w1]
   dsimp only
   (refine Jb ?_;intros)
   refine Ys fun o=>(?_:Tr _ _ _ _) o;refine Je ?_
   refine Yf rfl ?_
   refine V4 [3,3,0] 2 rfl rfl ?_
   exact Yr (ih (i+1) _ w2 (by omega)) fun v h q=>q
  ·rw [if_neg hc,if_neg hc,decide_eq_false hc]
   (refine Jc ?_;intros)
   refine Yn fun b3 h=>?_
   (refine Jb ?_;intros)
   refine V4 [2,2,2] 2 rfl rfl ?_
   exact Yr (ih (i+1) _ c (by omega)) fun v h q=>q
def Gi9 (X:CX) (i t n:Int):List Value × CX :=
 if (V7 X i).2≠0 then (Aa0 0 (V7 X i).2 false,X)
 else if t<0∨t>15∨n<0∨n>15 then (Aa0 0 122 false,X)
 else if (Bi1 X t).length=0 then (Aa0 0 103 false,X)
 else (Aa0 0 0 false,Dr0 X n (Bi1 X t))
theorem H88 {X:CX} {t:Int}:(Bi1 X t).length≤8:=by
 unfold Bi1;split
 ·exact Gk5 X _ 8 0
 ·split<;>simp
theorem It1 (b k:Nat) (F:Fr) (X:CX) (ok:FrOk F) {nc:Nat} (c:Clean nc X) (i t n:Int) (hi:0≤i∧i<8):Ct A6 Au9 [P0 b,int i,int t,int n] [cmC b k F X] fun v own=>v=.agg ⟨(Gi9 X i t n).1⟩∧own [cmC b k F (Gi9 X i t n).2]:=by
 unfold Gi9
 refine Ct.of D55 rfl fun h r=>Tr.eq (Hq7 ..) ?_;refine Je ?_
 refine Yn fun b0 h=>?_
 refine Yc (Ec2 b k F X ok c i hi) ?_;rintro _ h ⟨rfl,o⟩<;>refine Jh o ?_
 (refine Jc ?_;intros)
 refine Yn fun b1 h=>?_
 (refine Jb ?_;intros)
 by_cases h0:(V7 X i).2=0
 case neg =>
  rw [if_pos h0]
  refine Yt (by simpa using h0) ?_
  refine Yc (Dd3 (V7 X i).2) ?_;rintro _ h ⟨rfl,o⟩<;>(refine Jf o ?_;intros)
  refine Ys fun o=>?_
  exact ⟨rfl,o.sub⟩
 rw [if_neg (by simpa using h0)]
 refine Yf (by simpa using h0) ?_
 rw [Hl8,Hl8,Hl8]
 rw [show (((decide (t<0) || decide (t>15)) || decide (n<0)) || decide (n>15))=decide (t<0∨t>15∨n<0∨n>15) by rw [Bool.decide_or,Bool.decide_or,Bool.decide_or,Bool.or_assoc,Bool.or_assoc]]
 by_cases h2:t<0∨t>15∨n<0∨n>15
 ·rw [if_pos h2,decide_eq_true h2]
  refine Yt rfl ?_
  refine Yc (Dd3 122) ?_;rintro _ h ⟨rfl,o⟩<;>(refine Jf o ?_;intros)
  refine Ys fun o=>?_
  exact ⟨rfl,o.sub⟩
 rw [if_neg h2,decide_eq_false h2]
 refine Yf rfl ?_
 refine Yc (H12 b k F X ok c t (by omega)) ?_
 rintro _ h ⟨a,ac,rfl,o⟩
 refine Jh o ?_
 have hm:=Hb3 c (t:=t) (by omega)
 have hl8:=H88 (X:=X) (t:=t)
 generalize Bi1 X t=L at *
 (refine Jb ?_;intros)
 by_cases h3:L.length=0
 ·rw [if_pos h3,if_pos h3]
  refine Yt rfl ?_
  refine Yc (Dd3 103) ?_;rintro _ h ⟨rfl,o⟩<;>(refine Jf o ?_;intros)
  refine Ys fun o=>?_
  exact ⟨rfl,o.sub⟩
 rw [if_neg h3,if_neg h3]
 refine Yf rfl ?_
 refine V4 [0,2,0] 1 rfl rfl ?_
 exact Yr (H70 b k F ok n b0 L hm hl8 a ac L.length 0 X c (Nat.zero_add _)) fun v h q=>q
def Gj5 (V:VW) (n:Int):List (Int × ProcS)→VW
 | []=>V
 | s::l=>Gj5 (if Dv2 s.2 n then wS V s.1 (A32 s.2 n) else V) n l
theorem See.kill {n:Int}:∀ (L:List (Int × ProcS)) {X:CX} {V:VW},Ig6 L→See X V→See (Dr0 X n L) (Gj5 V n L)
 | [],X,V,_,A=>A
 | s::l,X,V,h,A=>by
  obtain ⟨h1,h2,h3⟩:=h s (by simp)
  rw [Dr0,Gj5]
  refine See.kill l (fun x hx=>h x (by simp [hx])) ?_
  by_cases hc:Dv2 s.2 n
  ·obtain ⟨r1,r2⟩:=G98 h2 h3 hc
   rw [if_pos hc,if_pos hc];exact A.ws h1 r1 r2
  ·rw [if_neg hc,if_neg hc];exact A
end Go.EQ

set_option maxRecDepth 10000
namespace Go.EQ
open Go Go.NN Go.Proofs
section
variable {c k:Nat} {F:Fr} {X:CX} {V V':VW} (ok:FrOk F) (A:See X V) {i:Int} (hi:0≤i∧i<8) {n e:Int}
include ok A hi
theorem H79 {p:ProcS} (hv:V.S i=(p,1)) (hs:p.state=1) (hw:IntKind.wrap .i64 (p.parent-1)=n) (a b:Int) (d:List UInt8):DoJ c k F X V i 17 a b d n 0 [] false:=by
 intro da dc
 have es:=A.self hi
 have e2:Ai3 V i=(p,0):=by unfold Ai3;rw [hv,if_pos ⟨rfl,hs⟩]
 rw [e2] at es
 refine Ct.of B24 rfl fun h r=>Tr.eq (B48 ..) ?_;refine Je ?_
 refine Tr.nw fun b1 h=>?_
 refine Tr.nw fun b2 h=>?_
 refine Tr.xCall (Al1 c k F X ok) ?_;rintro _ h ⟨rfl,o⟩<;>refine Jh o ?_
 rw [U7 A.c]
 (refine Jc ?_;unhygienic intros)
 refine Tr.xCall (Dx7 (by omega) a b da d.length dc) ?_;rintro _ h ⟨rfl,o⟩<;>refine Jh o ?_
 (refine Jc ?_;unhygienic intros)
 refine Tr.nw fun b3 h=>?_
 (refine Jd ?_;unhygienic intros)
 refine Tr.xCall (?_:Ct A6 V9 [P0 c,int i,.agg ⟨[int 17,int a,int b,.slice da d.length dc]⟩] [cmC c k F X] fun v own=>v=.agg ⟨Aa0 n 0 false⟩∧own [cmC c k F X]) ?_
 ·refine Ct.of D74 rfl fun h r=>Tr.eq (D96 ..) ?_;refine Je ?_
  refine Tr.nw fun b1 h=>?_
  refine Tr.nw fun b2 h=>?_
  refine Tr.xCall (Ec2 c k F X ok A.c i hi) ?_;rintro _ h ⟨rfl,o⟩<;>refine Jh o ?_
  rw [es]
  (refine Jc ?_;unhygienic intros)
  refine Tr.nw fun b3 h=>?_
  (refine Jd ?_;unhygienic intros)
  refine Tr.some fun o=>?_
  exact ⟨by rw [← hw],o.sub⟩
 rintro _ h ⟨rfl,o⟩
 refine (?_:Tr _ _ _ _) o
 refine Je ?_
 (refine Jc ?_;unhygienic intros)
 refine Bp9 ?_
 refine Tr.some fun o=>?_
 exact ⟨none,0,X,A,rfl,o.sub⟩
theorem Hu4 {p q:ProcS} (hv:V.S i=(p,1)) (hs:p.state=1) {t s:Int} (ht:0≤t∧t<8) (hq:V.S t=(q,1)) (hc:Dv2 q s) (d:List UInt8):DoJ c k F X (wS V t (A32 q s)) i 5 t s d 0 0 [] false:=by
 intro da dc
 have es:=A.self hi
 have e2:Ai3 V i=(p,0):=by unfold Ai3;rw [hv,if_pos ⟨rfl,hs⟩]
 rw [e2] at es
 have et:Bi1 X t=[(t,q)]:=by
  unfold Bi1
  rw [if_neg (by omega),A.s t ht,hq,if_neg (show ¬ (1:Int)=0 by decide)]
 have hk:=Hb3 A.c (t:=t) (by omega)
 rw [et] at hk
 have A2:=See.kill (n:=s) _ hk A
 rw [show Gj5 V s [(t,q)]=wS V t (A32 q s) by unfold Gj5;rw [if_pos hc];rfl] at A2
 have e3:Gi9 X i t s=(Aa0 0 0 false,Dr0 X s [(t,q)]):=by
  have h1:=hc.1
  unfold Gi9
  rw [es,et,if_neg (by simp),if_neg (by omega),if_neg (by simp)]
 refine Ct.of B24 rfl fun h r=>Tr.eq (B48 ..) ?_;refine Je ?_
 refine Tr.nw fun b1 h=>?_
 refine Tr.nw fun b2 h=>?_
 refine Tr.xCall (Al1 c k F X ok) ?_;rintro _ h ⟨rfl,o⟩<;>refine Jh o ?_
 rw [U7 A.c]
 (refine Jc ?_;unhygienic intros)
 refine Tr.xCall (Dx7 (by omega) t s da d.length dc) ?_;rintro _ h ⟨rfl,o⟩<;>refine Jh o ?_
 (refine Jc ?_;unhygienic intros)
 refine Tr.nw fun b3 h=>?_
 (refine Jd ?_;unhygienic intros)
 refine Tr.xCall (It1 c k F X ok A.c i t s hi) ?_;rintro _ h ⟨rfl,o⟩<;>refine Jh o ?_
 rw [e3]
 (refine Jc ?_;unhygienic intros)
 refine Bp9 ?_
 refine Tr.some fun o=>?_
 exact ⟨none,0,_,A2,rfl,o.sub⟩
theorem Iu9 {p:ProcS} (hv:V.S i=(p,1)) (hs:p.state=1) (a b:Int) (d:List UInt8):DoJ c k F X V i 1 a b d i 0 [] false:=by
 intro da dc
 have es:=A.self hi
 have e2:Ai3 V i=(p,0):=by unfold Ai3;rw [hv,if_pos ⟨rfl,hs⟩]
 rw [e2] at es
 refine Ct.of B24 rfl fun h r=>Tr.eq (B48 ..) ?_;refine Je ?_
 refine Tr.nw fun b1 h=>?_
 refine Tr.nw fun b2 h=>?_
 refine Tr.xCall (Al1 c k F X ok) ?_;rintro _ h ⟨rfl,o⟩<;>refine Jh o ?_
 rw [U7 A.c]
 (refine Jc ?_;unhygienic intros)
 refine Tr.xCall (Dx7 (by omega) a b da d.length dc) ?_;rintro _ h ⟨rfl,o⟩<;>refine Jh o ?_
 (refine Jc ?_;unhygienic intros)
 refine Tr.nw fun b3 h=>?_
 (refine Jd ?_;unhygienic intros)
 refine Tr.xCall (?_:Ct A6 V9 [P0 c,int i,.agg ⟨[int 1,int a,int b,.slice da d.length dc]⟩] [cmC c k F X] fun v own=>v=.agg ⟨Aa0 i 0 false⟩∧own [cmC c k F X]) ?_
 ·refine Ct.of D74 rfl fun h r=>Tr.eq (D96 ..) ?_;refine Je ?_
  refine Tr.nw fun b1 h=>?_
  refine Tr.nw fun b2 h=>?_
  refine Tr.xCall (Ec2 c k F X ok A.c i hi) ?_;rintro _ h ⟨rfl,o⟩<;>refine Jh o ?_
  rw [es]
  (refine Jc ?_;unhygienic intros)
  refine Tr.nw fun b3 h=>?_
  (refine Jd ?_;unhygienic intros)
  refine Tr.some fun o=>?_
  exact ⟨rfl,o.sub⟩
 rintro _ h ⟨rfl,o⟩
 refine (?_:Tr _ _ _ _) o
 refine Je ?_
 (refine Jc ?_;unhygienic intros)
 refine Bp9 ?_
 refine Tr.some fun o=>?_
 exact ⟨none,0,X,A,rfl,o.sub⟩
end
theorem E91 (q k:Nat) (j:Int) (y:HoS):Ct A6 Ak9 [P0 q] [hoC q k j y] fun v own=>v=P0 y.c∧own [hoC q k j y]:=by
 refine Ct.of Er0 rfl fun h r=>Tr.eq (Er4 ..) ?_;refine Je ?_
 refine A9 (hoC q k j y) fun ⟨da,dc⟩=>?_;refine Je ?_
 (refine Ja ?_;unhygienic intros)
 refine A7 (hoC q k j y) (da,dc) ?_;refine Je ?_
 refine Tr.some fun o=>?_
 exact ⟨rfl,o.sub⟩
theorem If3 (n lo hi:Int) (h:NN.H):A6 A30 [int n,int lo,int hi] h=some (.bool (decide (n≥lo) && decide (n≤hi)),h) :=
 H08.call rfl ((H65 ..).trans (by cases decide (n≥lo)<;>rfl))
theorem Ir9 (n:Int) (h:NN.H):A6 Ah8 [int n] h=some (.bool (decide (n≥0) && J7 .i64 n 65534==0),h) :=
 Gp8.call rfl ((Go7 ..).trans (by cases decide (n≥0)<;>rfl))
theorem Iq9 (a b:Int):BitVec.ofInt 64 (Bb7 .i64 a b)=BitVec.ofInt 64 a ||| BitVec.ofInt 64 b:=by
 unfold Bb7;rw [Ed2];exact E02 _
theorem bA0 (a b:Int):D2 .i64 a b=0↔BitVec.ofInt 64 a &&& BitVec.ofInt 64 b=0#64 :=
 ⟨fun h=>by rw [← I47,h];rfl,Hc5⟩
theorem I49 (a b c w:BitVec 64):(a ||| b ||| c) &&& w=0#64↔a &&& w=0#64∧b &&& w=0#64∧c &&& w=0#64:=by
 constructor
 ·intro h
  have hb:∀ i,((a.getLsbD i || b.getLsbD i || c.getLsbD i) && w.getLsbD i)=false:=fun i=>by
   have:=congrArg (·.getLsbD i) h
   simpa only [BitVec.getLsbD_and,BitVec.getLsbD_or,BitVec.getLsbD_zero] using this
  refine ⟨?_,?_,?_⟩<;>(apply BitVec.eq_of_getLsbD_eq;intro i hi;have:=hb i;simp only [BitVec.getLsbD_and,BitVec.getLsbD_zero];revert this;cases a.getLsbD i<;>cases b.getLsbD i<;>cases c.getLsbD i<;>cases w.getLsbD i<;>simp)
 ·rintro ⟨h1,h2,h3⟩
  apply BitVec.eq_of_getLsbD_eq;intro i hi
  have g1:=congrArg (·.getLsbD i) h1
  have g2:=congrArg (·.getLsbD i) h2
  have g3:=congrArg (·.getLsbD i) h3
  simp only [BitVec.getLsbD_and,BitVec.getLsbD_zero] at g1 g2 g3
  simp only [BitVec.getLsbD_and,BitVec.getLsbD_or,BitVec.getLsbD_zero]
  revert g1 g2 g3;cases a.getLsbD i<;>cases b.getLsbD i<;>cases c.getLsbD i<;>cases w.getLsbD i<;>simp
theorem bO3 (a b c w:Int):D2 .i64 (Bb7 .i64 (Bb7 .i64 a b) c) w=0↔D2 .i64 a w=0∧D2 .i64 b w=0∧D2 .i64 c w=0:=by
 rw [bA0,bA0,bA0,bA0,Iq9,Iq9];exact I49 ..
theorem bAz (a:Int):D2 .i64 a 0=0:=Hc5 (by simp)
def Dx0 (p:ProcS):Bool :=
 !(decide (p.state<1) || decide (p.state>3) || decide (p.parent<0) || decide (p.parent>8) || decide (p.group<0) || decide (p.group≥8) || decide (p.code<0) || decide (p.code>255)) &&
 !(!A18 p.pending 0 || !A18 p.mask 16896 || !A18 p.ignored 16896 || !A18 p.caught 16896 || D2 .i64 p.ignored p.caught != 0)
def Dj1 (p:ProcS) (s:Bool) (l:List Int):Bool :=
 !(l.any fun f=>decide (f<0) || decide (f>12)) && if p.state=2 then !(s || l.any (· != 0)) && p.pending==0 else p.code==0
theorem Hb0:∀ (l:List Int),l.any (· != 0)=false↔l=List.replicate l.length 0
 | []=>by simp
 | x::l=>by
  have:=Hb0 l
  rw [List.any_cons,Bool.or_eq_false_iff,this,List.length_cons,List.replicate_succ]
  simp
theorem Ic1 (p:ProcS):okS p=(Dx0 p && Dj1 p false p.fds):=by
 have h8:(p.fds.any (· != 0)=false)↔p.fds=Go2:=by
  have:=Hb0 p.fds;rw [p.len] at this;exact this
 unfold okS Dx0 Dj1
 rw [Bool.and_assoc]
 congr 2
 congr 1
 by_cases h:p.state=2
 ·rw [if_pos h,if_pos h,Bool.false_or,Bool.and_comm]
  congr 1
  rw [Bool.eq_iff_iff,decide_eq_true_iff,Bool.not_eq_true',h8]
 ·rw [if_neg h,if_neg h]
theorem Eo8 (b:Nat) (p:ProcS):∀ (m i:Nat) (s:Bool),i+m=8 →
  CtJ I4 Ae5 A72 [(1,P0 b),(3,.bool s),(4,int i)] [pt b (.cells B2 false (B5 p))] fun v own=>v=.bool (Dj1 p s (p.fds.drop i))∧own []
 | 0,i,s,hi=>by
  obtain rfl:i=8:=by omega
  have hl:=p.len
  have e:Dj1 p s (p.fds.drop 8)=if p.state=2 then !s && p.pending==0 else p.code==0:=by
   rw [List.drop_eq_nil_of_le (by omega)];unfold Dj1;simp
  rw [e]
  refine CtJ.of Db2 fun h r=>Tr.eq (Dm7 ..) ?_;refine Je ?_
  refine Yf (by simp) ?_
  (refine Jb ?_;unhygienic intros)
  by_cases h2:p.state=2
  ·rw [if_pos h2]
   refine Yt (by rw [beq_iff_eq];exact h2) ?_
   (refine Ja ?_;unhygienic intros)
   refine Ys fun o=>?_
   exact ⟨rfl,o.sub⟩
  ·rw [if_neg h2]
   refine Yf (by rw [beq_eq_false_iff_ne];exact h2) ?_
   (refine Ja ?_;unhygienic intros)
   refine Ys fun o=>?_
   exact ⟨rfl,o.sub⟩
 | m+1,i,s,hi=>by
  have hl:=p.len
  have e1:=wN i
  have hd:p.fds.drop i=p.fds.getD i 0::p.fds.drop (i+1):=by rw [List.drop_eq_getElem_cons (by omega),List.getD_eq_getElem?_getD,List.getElem?_eq_getElem (by omega)];rfl
  have hx:(B5 p)[8+i]?=some (int (p.fds.getD i 0)):=by
   have h1:(p.fds.map int)[i]?=some (int (p.fds.getD i 0)):=by rw [List.getElem?_map,List.getD_eq_getElem?_getD,List.getElem?_eq_getElem (by omega)];rfl
   rw [show 8+i=i+8 by omega];exact h1
  have ih:=fun s=>Eo8 b p m (i+1) s (by omega)
  have ht:Dj1 p s (p.fds.drop i)=if p.fds.getD i 0<0∨p.fds.getD i 0>12 then false else Dj1 p (s || p.fds.getD i 0 != 0) (p.fds.drop (i+1)):=by
   rw [hd]
   generalize p.fds.getD i 0=x
   generalize p.fds.drop (i+1)=l
   unfold Dj1
   rw [List.any_cons,List.any_cons]
   by_cases h:x<0∨x>12
   ·rw [if_pos h,show (decide (x<0) || decide (x>12))=true by simpa using h];rfl
   ·rw [if_neg h,show (decide (x<0) || decide (x>12))=false by simpa using h,Bool.false_or,Bool.or_assoc]
  rw [ht]
  generalize p.fds.getD i 0=x at *
  refine CtJ.of Db2 fun h r=>Tr.eq (Dm7 ..) ?_;refine Je ?_
  refine Yt (by simp;omega) ?_
  rw [e1]
  refine Tr.ck (by omega) ?_
  simp only [If3]
  (refine Jb ?_;unhygienic intros;repeat(refine Gw ?_;rintro px rfl;refine Jb ?_;unhygienic intros))
  by_cases h:x<0∨x>12
  ·rw [if_pos h]
   refine Yt (by rw [Bool.not_eq_true',Bool.and_eq_false_iff,decide_eq_false_iff_not,decide_eq_false_iff_not];omega) ?_
   refine Ys fun o=>?_
   exact ⟨rfl,o.sub⟩
  ·rw [if_neg h]
   refine Yf (by rw [Bool.not_eq_false',Bool.and_eq_true,decide_eq_true_iff,decide_eq_true_iff];omega) ?_
   refine Tr.orG (c:=x != 0) (fun hb=>?_) ?_
   ·refine Tr.ck (by omega) ?_
    exact Jy
   exact Yr (ih (s || x != 0)) fun v h q=>q
theorem H25 (p:ProcS):Dx0 p=true↔((1≤p.state∧p.state≤3)∧(0≤p.parent∧p.parent≤8)∧(0≤p.group∧p.group≤7)∧(0≤p.code∧p.code≤255)) ∧
  J7 .i64 p.pending 65534=0∧J7 .i64 p.mask 65534=0∧J7 .i64 p.ignored 65534=0∧J7 .i64 p.caught 65534=0∧(D2 .i64 p.mask 16896=0∧D2 .i64 p.ignored 16896=0∧D2 .i64 p.caught 16896=0)∧D2 .i64 p.ignored p.caught=0:=by
 unfold Dx0 A18
 rw [bAz]
 simp only [Bool.and_eq_true,Bool.not_eq_true',Bool.or_eq_false_iff,Bool.not_eq_false',decide_eq_false_iff_not,bne_eq_false_iff_eq,beq_iff_eq]
 constructor
 ·rintro ⟨h1,h2⟩
  exact ⟨by omega,by simp_all⟩
 ·rintro ⟨h1,h2⟩
  exact ⟨by omega,by simp_all⟩
structure InW (p:ProcS):Prop where
 a:J7 .i64 p.pending 65534=0→0≤p.pending∧p.pending≤65535
 b:J7 .i64 p.mask 65534=0→0≤p.mask∧p.mask≤65535
 c:J7 .i64 p.ignored 65534=0→0≤p.ignored∧p.ignored≤65535
 d:J7 .i64 p.caught 65534=0→0≤p.caught∧p.caught≤65535
theorem InS.w {p:ProcS} (k:InS p):InW p:=⟨fun _=>k.a,fun _=>k.b,fun _=>k.c,fun _=>k.d⟩
theorem H19 (p:ProcS) (hin:InW p):Ct A6 Ae5 [.agg ⟨B5 p⟩] [] fun v own=>v=.bool (okS p)∧own []:=by
 refine Ct.of Db2 rfl fun h r=>Tr.eq (Gq7 ..) ?_;refine Je ?_
 refine Yn fun b h=>?_
 (refine Jb ?_;unhygienic intros)
 simp only [If3,Ir9]
 (refine Ja ?_;unhygienic intros)
 have J:=Eo8 b p 8 0 false rfl
 have hr:=H25 p
 rw [List.drop_zero] at J
 rw [Ic1]
 by_cases hE:(1≤p.state∧p.state≤3)∧(0≤p.parent∧p.parent≤8)∧(0≤p.group∧p.group≤7)∧(0≤p.code∧p.code≤255)
 case neg =>
  refine Yt ?_ ?_
  ·simp only [Bool.or_eq_true,Bool.not_eq_true',Bool.and_eq_false_iff,decide_eq_false_iff_not];omega
  refine Ys fun o=>?_
  rw [show Dx0 p=false by rw [← Bool.not_eq_true,hr];exact fun h=>hE h.1]
  exact ⟨rfl,o.sub⟩
 refine Yf ?_ ?_
 ·simp only [Bool.or_eq_false_iff,Bool.not_eq_false',Bool.and_eq_true,decide_eq_true_iff];omega
 (refine Ja ?_;unhygienic intros)
 by_cases hF:J7 .i64 p.pending 65534=0∧J7 .i64 p.mask 65534=0∧J7 .i64 p.ignored 65534=0∧J7 .i64 p.caught 65534=0∧(D2 .i64 p.mask 16896=0∧D2 .i64 p.ignored 16896=0∧D2 .i64 p.caught 16896=0)∧D2 .i64 p.ignored p.caught=0
 case neg =>
  refine Yt ?_ ?_
  ·simp only [Bool.or_eq_true,Bool.not_eq_true',Bool.and_eq_false_iff,decide_eq_false_iff_not,bne_iff_ne,beq_eq_false_iff_ne,ne_eq,bO3]
   by_cases a1:J7 .i64 p.pending 65534=0
   case neg=>simp [a1]
   by_cases a2:J7 .i64 p.mask 65534=0
   case neg=>simp [a2]
   by_cases a3:J7 .i64 p.ignored 65534=0
   case neg=>simp [a3]
   by_cases a4:J7 .i64 p.caught 65534=0
   case neg=>simp [a4]
   by_cases a6:D2 .i64 p.ignored p.caught=0
   case neg=>simp [a6]
   exact .inl (.inr fun a5=>hF ⟨a1,a2,a3,a4,a5,a6⟩)
  refine Ys fun o=>?_
  rw [show Dx0 p=false by rw [← Bool.not_eq_true,hr];exact fun h=>hF h.2]
  exact ⟨rfl,o.sub⟩
 refine Yf ?_ ?_
 ·simp only [Bool.or_eq_false_iff,Bool.not_eq_false',Bool.and_eq_true,decide_eq_true_iff,bne_eq_false_iff_eq,beq_iff_eq,bO3]
  obtain ⟨a1,a2,a3,a4,a5,a6⟩:=hF
  exact ⟨⟨⟨⟨⟨⟨(hin.a a1).1,a1⟩,⟨(hin.b a2).1,a2⟩⟩,⟨(hin.c a3).1,a3⟩⟩,⟨(hin.d a4).1,a4⟩⟩,a5⟩,a6⟩
 rw [show Dx0 p=true from hr.2 ⟨hE,hF⟩,Bool.true_and]
 exact Yr J fun v h q=>q
end Go.EQ
