/- A blocked call ends when a signal that is caught comes, and tells so; one that ends the process ends it with that code; one that is ignored, or kept off, does nothing. -/
import Derived.Test.YtonlefldpebcpaaGreatDoorMk
set_option linter.all false
set_option maxRecDepth 10000
namespace Go.EQ
open Go Go.NN
abbrev inG (g:Int):Int→ProcS→Bool:=fun _ p=>p.state != 2 && p.group==g
abbrev E52:List Value:=[int 0,int 0,int 0,int 0,int 0,int 0,int 0,int 0,int 0,int 0,int 0,int 0,int 0,int 0,int 0,int 0]
def Ei2 (V:VW) (q:Int→ProcS→Bool):Nat→Int→List (Int × ProcS)
 | 0,_=>[]
 | m+1,i=>if (V.S i).2=1∧q i (V.S i).1=true then (i,(V.S i).1)::Ei2 V q m (i+1) else Ei2 V q m (i+1)
theorem See.slots {X V} (A:See X V) (q:Int→ProcS→Bool):∀ (m:Nat) (i:Int),0≤i→i+m≤8→N9 X q m i=Ei2 V q m i
 | 0,_,_,_=>rfl
 | m+1,i,h0,hm=>by rw [N9,Ei2,A.slots q m (i+1) (by omega) (by omega),A.s i (by omega)]
abbrev M0 (n:Int):Int:=2 ^ n.toNat
theorem Jh0 {P:Int→Prop} {n:Int} (h:1≤n∧n≤15) (h1:P 1) (h2:P 2) (h3:P 3) (h4:P 4) (h5:P 5) (h6:P 6) (h7:P 7) (h8:P 8) (h9:P 9) (h10:P 10) (h11:P 11) (h12:P 12) (h13:P 13) (h14:P 14) (h15:P 15):P n:=by
 have:n=1∨n=2∨n=3∨n=4∨n=5∨n=6∨n=7∨n=8∨n=9∨n=10∨n=11∨n=12∨n=13∨n=14∨n=15:=by omega
 rcases this with rfl|rfl|rfl|rfl|rfl|rfl|rfl|rfl|rfl|rfl|rfl|rfl|rfl|rfl|rfl<;>assumption
theorem Gt5 {n:Int} (h:1≤n∧n≤15):IntKind.wrap .i64 (1*2 ^ (min (IntKind.wrap .u64 n).toNat 64))=M0 n∧0≤IntKind.wrap .u64 n:=by
 refine Jh0 (P:=fun n=>IntKind.wrap .i64 (1*2 ^ (min (IntKind.wrap .u64 n).toNat 64))=M0 n∧0≤IntKind.wrap .u64 n) h ?_ ?_ ?_ ?_ ?_ ?_ ?_ ?_ ?_ ?_ ?_ ?_ ?_ ?_ ?_<;>exact ⟨by decide,by decide⟩
theorem J43 {n:Int} (h:1≤n∧n≤15):BitVec.ofInt 64 (M0 n) &&& ~~~ BitVec.ofInt 64 65534=0#64:=by
 refine Jh0 (P:=fun n=>BitVec.ofInt 64 (M0 n) &&& ~~~ BitVec.ofInt 64 65534=0#64) h ?_ ?_ ?_ ?_ ?_ ?_ ?_ ?_ ?_ ?_ ?_ ?_ ?_ ?_ ?_<;>decide
theorem Kc0 (a b:Int):BitVec.ofInt 64 (Bb7 .i64 a b)=BitVec.ofInt 64 a ||| BitVec.ofInt 64 b:=by
 unfold Bb7;rw [Hn1];exact Ig0 _
theorem bv7 {x b m:BitVec 64} (h:x &&& ~~~ m=0#64) (h2:b &&& ~~~ m=0#64):(x ||| b) &&& ~~~ m=0#64:=by
 rw [show (x ||| b) &&& ~~~ m=(x &&& ~~~ m) ||| (b &&& ~~~ m) from ?_,h,h2];rfl;apply BitVec.eq_of_getLsbD_eq;intro i hi;simp only [BitVec.getLsbD_and,BitVec.getLsbD_or,BitVec.getLsbD_not]
 cases x.getLsbD i<;>cases b.getLsbD i<;>simp
theorem bv8 {x m:BitVec 64} (c:BitVec 64) (h:x &&& ~~~ m=0#64):(x &&& ~~~ c) &&& ~~~ m=0#64:=by
 rw [show (x &&& ~~~ c) &&& ~~~ m=(x &&& ~~~ m) &&& ~~~ c from ?_,h];simp;apply BitVec.eq_of_getLsbD_eq;intro i hi;simp only [BitVec.getLsbD_and,BitVec.getLsbD_not,decide_eq_true hi,Bool.true_and]
 cases x.getLsbD i<;>cases c.getLsbD i<;>cases m.getLsbD i<;>rfl
abbrev Db9 (y:Int):Prop:=BitVec.ofInt 64 y &&& ~~~ BitVec.ofInt 64 65534=0#64
theorem Jw1 {y:Int} (h:B70 y 0=true):Db9 y:=by
 unfold B70 at h;simp only [Bool.and_eq_true,beq_iff_eq] at h;unfold Db9;rw [← J27,h.1];rfl
theorem Jd2 {y:Int} (h:Db9 y):B70 y 0=true:=by
 unfold B70;rw [J44 h,J78 (by simp)];rfl
theorem H57 {x:BitVec 64} (h:Db9 (IntKind.wrap .i64 x.toNat)):0≤IntKind.wrap .i64 (x.toNat:Int)∧IntKind.wrap .i64 (x.toNat:Int)≤65535:=by
 unfold Db9 at h;rw [Hn1,Ig0] at h
 have e:x=x &&& BitVec.ofInt 64 65534:=by
  apply BitVec.eq_of_getLsbD_eq;intro i hi;have:=congrArg (fun z=>z.getLsbD i) h;simp only [BitVec.getLsbD_and,BitVec.getLsbD_not,BitVec.getLsbD_zero,decide_eq_true hi,Bool.true_and] at this ⊢;revert this;generalize x.getLsbD i=u;generalize (BitVec.ofInt 64 65534).getLsbD i=w
  cases u<;>cases w<;>decide
 have h2:x.toNat≤65534:=by
  rw [e,BitVec.toNat_and];exact Nat.and_le_right
 rw [B8];omega
theorem J64 {y n:Int} (h:Db9 y) (hn:1≤n∧n≤15):Db9 (Bb7 .i64 y (M0 n))∧0≤Bb7 .i64 y (M0 n)∧Bb7 .i64 y (M0 n)≤65535:=by
 have k:Db9 (Bb7 .i64 y (M0 n)):=by unfold Db9;rw [Kc0];exact bv7 h (J43 hn)
 exact ⟨k,H57 k⟩
theorem I72 {y:Int} (h:Db9 y) (c:Int):Db9 (J8 .i64 y c)∧0≤J8 .i64 y c∧J8 .i64 y c≤65535:=by
 have k:Db9 (J8 .i64 y c):=by unfold Db9;rw [J27];exact bv8 _ h
 exact ⟨k,H57 k⟩
abbrev Bo4 (p:ProcS) (s n:Int):ProcS:=⟨s,p.parent,p.group,p.code,n,p.mask,p.ignored,p.caught,p.fds,p.len⟩
abbrev Dt4 (p:ProcS) (n:Int):Int:=if D5 .i64 p.ignored (M0 n)=0∨D5 .i64 (M0 n) 16896≠0 then Bb7 .i64 p.pending (M0 n) else p.pending
abbrev Gr7 (p:ProcS) (n:Int):Int:=if M0 n=32768 then J8 .i64 (Dt4 p n) 16384 else if M0 n=16384 then J8 .i64 (Dt4 p n) 32768 else Dt4 p n
abbrev st2 (p:ProcS) (n:Int):Int:=if (M0 n=512∨M0 n=32768)∧p.state=3 then 1 else p.state
abbrev Ea9 (p:ProcS) (n:Int):Prop:=(1≤n∧n≤15)∧(p.state=1∨p.state=3)
def Bg9 (p:ProcS) (n:Int):ProcS:=Bo4 p (st2 p n) (Gr7 p n)
theorem Ic1 {p:ProcS} (h:okS p=true) (r:InS p) {n:Int} (c:Ea9 p n):okS (Bg9 p n)=true∧InS (Bg9 p n):=by
 obtain ⟨hn,hs⟩:=c;unfold okS at h;rw [if_neg (by omega)] at h;simp only [Bool.and_eq_true,Bool.not_eq_true',Bool.or_eq_false_iff,decide_eq_false_iff_not] at h;obtain ⟨⟨⟨⟨⟨⟨⟨⟨a1,a2⟩,a3⟩,a4⟩,a5⟩,a6⟩,a7⟩,a8⟩,⟨⟨⟨⟨b1,b2⟩,b3⟩,b4⟩,b5⟩,d1,d2⟩:=h;have i0:=Jw1 (by simpa using b1)
 have i1:Db9 (Dt4 p n)∧0≤Dt4 p n∧Dt4 p n≤65535:=by
  unfold Dt4;split
  ·exact J64 i0 hn
  ·exact ⟨i0,r.a⟩
 have i2:Db9 (Gr7 p n)∧0≤Gr7 p n∧Gr7 p n≤65535:=by
  unfold Gr7;split
  ·exact I72 i1.1 _
  ·split
   ·exact I72 i1.1 _
   ·exact i1
 have hst:st2 p n=1∨st2 p n=3:=by unfold st2;split<;>omega
 refine ⟨?_,⟨i2.2,r.b,r.c,r.d⟩⟩;unfold okS;rw [if_neg (show ¬ (Bg9 p n).state=2 by show ¬ st2 p n=2;omega)];simp only [Bool.and_eq_true,Bool.not_eq_true',Bool.or_eq_false_iff,decide_eq_false_iff_not];refine ⟨⟨⟨⟨⟨⟨⟨⟨?_,?_⟩,a3⟩,a4⟩,a5⟩,a6⟩,a7⟩,a8⟩,⟨⟨⟨⟨?_,b2⟩,b3⟩,b4⟩,b5⟩,d1,d2⟩
 ·show ¬ st2 p n<1;omega
 ·show ¬ st2 p n>3;omega
 ·show (!B70 (Gr7 p n) 0)=false;rw [Jd2 i2.1];rfl
theorem Hr2 (n:Int):Ct B0 Ee2 [int n] [] fun v own=>v=.bool (decide (1≤n∧n≤15))∧own []:=by
 refine Co Ji6 (fun _=>Jo4 ..) fun h r=>?_;by_cases h1:1≤n
 ·refine Yb (Yt (by simpa using h1) ?_);refine Yv ?_;refine Ys fun o=>?_;exact ⟨by rw [decide_eq_decide.2 (show n≤15↔1≤n∧n≤15 by omega)],o.sub⟩
 ·refine Yb (Yf (by simpa using h1) ?_);refine Yv ?_;refine Ys fun o=>?_;exact ⟨by rw [decide_eq_false (show ¬ (1≤n∧n≤15) by omega)],o.sub⟩
abbrev rs2 (p:ProcS) (b:Int):ProcS:=Bo4 p p.state (if b=32768 then J8 .i64 p.pending 16384 else if b=16384 then J8 .i64 p.pending 32768 else p.pending)
theorem In1 (b0 b1:Nat) (p:ProcS) (b:Int):CtJ H0 Aa1 Bz1 [(2,P0 b0),(4,P0 b1),(6,int b)] [pt b0 (.cells B2 false (B5 p)),pt b1 (.cells B2 false E52)] fun v own=>v=.tuple ⟨[.agg ⟨B5 (rs2 p b)⟩,.bool true]⟩∧own []:=by
 obtain ⟨st,pa,gr,co,pe,ma,ig,ca,fds,len⟩:=p;unfold rs2 Bo4;dsimp only;refine Cj Es6 (fun _=>Ho8 ..) fun h r=>?_;by_cases h1:b=32768
 ·rw [if_pos h1];refine Yt (by simpa using h1) ?_;refine Jb ?_;intros;refine (?_:Tr (pt _ (.cells B2 false (B5 ⟨st,pa,gr,co,J8 .i64 pe 16384,ma,ig,ca,fds,len⟩))::_) _ _ _);generalize hp2:(⟨st,pa,gr,co,J8 .i64 pe 16384,ma,ig,ca,fds,len⟩:ProcS)=p2;refine Ja ?_;intros;exact Yz
 rw [if_neg h1];refine Yf (by simpa using h1) ?_;by_cases h2:b=16384
 ·rw [if_pos h2];refine Yt (by simpa using h2) ?_;refine Jb ?_;intros;refine (?_:Tr (pt _ (.cells B2 false (B5 ⟨st,pa,gr,co,J8 .i64 pe 32768,ma,ig,ca,fds,len⟩))::_) _ _ _);generalize hp2:(⟨st,pa,gr,co,J8 .i64 pe 32768,ma,ig,ca,fds,len⟩:ProcS)=p2;refine Ja ?_;intros;exact Yz
 rw [if_neg h2];refine Yf (by simpa using h2) ?_;generalize hp2:(⟨st,pa,gr,co,pe,ma,ig,ca,fds,len⟩:ProcS)=p2;refine Ja ?_;intros;exact Yz
abbrev rs1 (p:ProcS) (b:Int):ProcS:=Bo4 p (if (b=512∨b=32768)∧p.state=3 then 1 else p.state) p.pending
theorem Ik9 (b0 b1:Nat) (p:ProcS) (b:Int):CtJ H0 Aa1 Bf0 [(2,P0 b0),(4,P0 b1),(6,int b)] [pt b0 (.cells B2 false (B5 p)),pt b1 (.cells B2 false E52)] fun v own=>v=.tuple ⟨[.agg ⟨B5 (rs2 (rs1 p b) b)⟩,.bool true]⟩∧own []:=by
 have J:=In1 b0 b1 (rs1 p b) b;obtain ⟨st,pa,gr,co,pe,ma,ig,ca,fds,len⟩:=p;generalize hq:rs2 (rs1 ⟨st,pa,gr,co,pe,ma,ig,ca,fds,len⟩ b) b=q2 at J ⊢;unfold rs1 Bo4 at J;dsimp only at J;refine Cj Es6 (fun _=>Hj1 ..) fun h r=>?_;refine Yb fun o=>Wp.mono (Q:=fun v h'=>v=decide (b=512∨b=32768)∧Own h' (pt b0 (.cells B2 false (B5 ⟨st,pa,gr,co,pe,ma,ig,ca,fds,len⟩))::pt b1 (.cells B2 false E52)::r)) ?_ ?_
 ·refine Jh o ?_;by_cases h1:b=512
  ·refine Yt (by simpa using h1) ?_;refine Ys fun o=>?_;exact ⟨(decide_eq_true (.inl h1)).symm,o⟩
  ·refine Yf (by simpa using h1) ?_;refine Ys fun o=>?_;exact ⟨by rw [Bool.eq_iff_iff,beq_iff_eq,decide_eq_true_iff];exact ⟨.inr,fun h=>h.elim (fun h=>absurd h h1) id⟩,o⟩
 rintro v h ⟨rfl,o⟩;refine Jh o ?_;refine Yb fun o=>Wp.mono (Q:=fun v h'=>v=decide ((b=512∨b=32768)∧st=3)∧Own h' (pt b0 (.cells B2 false (B5 ⟨st,pa,gr,co,pe,ma,ig,ca,fds,len⟩))::pt b1 (.cells B2 false E52)::r)) ?_ ?_
 ·refine Jh o ?_;by_cases h1:b=512∨b=32768
  ·refine Yt (decide_eq_true h1) ?_;refine Jb ?_;intros;refine Ys fun o=>?_;exact ⟨by rw [Bool.eq_iff_iff,beq_iff_eq,decide_eq_true_iff];exact ⟨fun h=>⟨h1,h⟩,fun h=>h.2⟩,o⟩
  ·refine Yf (decide_eq_false h1) ?_;refine Ys fun o=>?_;exact ⟨(decide_eq_false fun h=>h1 h.1).symm,o⟩
 rintro v h ⟨rfl,o⟩;refine Jh o ?_;by_cases h1:(b=512∨b=32768)∧st=3
 ·rw [if_pos h1] at J;refine Yt (decide_eq_true h1) ?_;refine Jb ?_;intros;refine (?_:Tr (pt _ (.cells B2 false (B5 ⟨1,pa,gr,co,pe,ma,ig,ca,fds,len⟩))::_) _ _ _);exact Yr J fun v h q=>q
 ·rw [if_neg h1] at J;refine Yf (decide_eq_false h1) ?_;exact Yr J fun v h q=>q
theorem Jj1 (p:ProcS) (n:Int):Ct B0 Aa1 [.agg ⟨B5 p⟩,int n] [] fun v own=>v=.tuple ⟨[.agg ⟨B5 (if Ea9 p n then Bg9 p n else p)⟩,.bool (decide (Ea9 p n))]⟩∧own []:=by
 refine Co Es6 (fun _=>Ir5 ..) fun h r=>?_;refine Yn fun b0 h=>?_;refine Yn fun b1 h=>?_;refine Yd (Hr2 n) fun h=>?_;refine Jb ?_;intros;refine Yb fun o=>Wp.mono (Q:=fun v h'=>v=!decide (Ea9 p n)∧Own h' (pt b1 (.cells B2 false E52)::pt b0 (.cells B2 false (B5 p))::r)) ?_ ?_
 ·refine Jh o ?_;by_cases hn:1≤n∧n≤15
  case neg =>
   refine Yt (by rw [decide_eq_false hn];rfl) ?_;refine Ys fun o=>?_;exact ⟨by rw [decide_eq_false (fun h=>hn h.1)];rfl,o⟩
  refine Yf (by rw [decide_eq_true hn];rfl) ?_;refine Jb ?_;intros;by_cases h1:p.state=1
  ·refine Yb (Yf (by rw [h1];rfl) ?_);refine Yv ?_;refine Ys fun o=>?_;exact ⟨by rw [decide_eq_true ⟨hn,.inl h1⟩];rfl,o⟩
  ·refine Yb (Yt (by simpa using h1) ?_);refine Jb ?_;intros;refine Yv ?_;refine Ys fun o=>?_;refine ⟨?_,o⟩;rw [Bool.eq_iff_iff,Bool.not_eq_true',decide_eq_false_iff_not,bne_iff_ne];exact ⟨fun h k=>k.2.elim h1 h,fun h k=>h ⟨hn,.inr k⟩⟩
 rintro v h ⟨rfl,o⟩;refine Jh o ?_;by_cases hc:Ea9 p n
 case neg =>
  rw [if_neg hc,decide_eq_false hc];refine Yt rfl ?_;refine Ja ?_;intros;exact Yz
 rw [if_pos hc,decide_eq_true hc];refine Yf rfl ?_;obtain ⟨e1,e2⟩:=Gt5 hc.1;rw [e1];refine Tr.ck e2 ?_;have J:CtJ H0 Aa1 Bf0 [(2,P0 b0),(4,P0 b1),(6,int (M0 n))] [pt b0 (.cells B2 false (B5 (Bo4 p p.state (Dt4 p n)))),pt b1 (.cells B2 false E52)] fun v own=>v=.tuple ⟨[.agg ⟨B5 (Bg9 p n)⟩,.bool true]⟩∧own []:=Ik9 b0 b1 (Bo4 p p.state (Dt4 p n)) (M0 n);generalize Bg9 p n=p2 at *;unfold Bo4 Dt4 at J;generalize M0 n=b at *;obtain ⟨st,pa,gr,co,pe,ma,ig,ca,fds,len⟩:=p;dsimp only at J;refine Jb ?_;intros;refine Yb fun o=>Wp.mono (Q:=fun v h'=>v=decide (D5 .i64 ig b=0∨D5 .i64 b 16896≠0)∧Own h' (pt b1 (.cells B2 false E52)::pt b0 (.cells B2 false (B5 ⟨st,pa,gr,co,pe,ma,ig,ca,fds,len⟩))::r)) ?_ ?_
 ·refine Jh o ?_;by_cases h1:D5 .i64 ig b=0
  ·refine Yt (by simpa using h1) ?_;refine Ys fun o=>?_;exact ⟨(decide_eq_true (.inl h1)).symm,o⟩
  ·refine Yf (by simpa using h1) ?_;refine Ys fun o=>?_;exact ⟨by rw [Bool.eq_iff_iff,bne_iff_ne,decide_eq_true_iff];exact ⟨.inr,fun h=>h.elim (fun h=>absurd h h1) id⟩,o⟩
 rintro v h ⟨rfl,o⟩;refine Jh o ?_;by_cases h1:D5 .i64 ig b=0∨D5 .i64 b 16896≠0
 ·rw [if_pos h1] at J;refine Yt (decide_eq_true h1) ?_;refine Jb ?_;intros;refine (?_:Tr (_::pt _ (.cells B2 false (B5 ⟨st,pa,gr,co,Bb7 .i64 pe b,ma,ig,ca,fds,len⟩))::_) _ _ _);exact Yr J fun v h q=>q
 ·rw [if_neg h1] at J;refine Yf (decide_eq_false h1) ?_;exact Yr J fun v h q=>q
end Go.EQ

set_option maxRecDepth 10000
namespace Go.EQ
open Go Go.NN Go.Proofs
def Iz6:List Int:=[0,1,56,2,57,49,28,3,61,58,42,50,38,29,17,4,62,47,59,36,45,43,51,22,53,39,33,30,24,18,12,5,63,55,48,27,60,41,37,16,46,35,44,21,52,32,23,11,54,26,40,15,34,20,31,10,25,14,19,9,13,8,7,6]
abbrev gC:HP:=pt 1 (.cells A9 true (Iz6.map (Value.int .u8)))
abbrev TzE (x:Int) (ix:Nat):Prop:=∀ (C:E0) (R:Ab8) (h:H),xQ Ar6 C R Ag0 Tryz.f265 Bi2 [(0,.int .u64 x)] h=NN.gInt .u8 ⟨1,ix,none⟩ h fun z=>some (int (IntKind.wrap .i64 z),h)
theorem Du6 {x n:Int} {ix:Nat} (e:TzE x ix) (hx:(Iz6.map (Value.int .u8))[ix]?=some (.int .u8 n)) (hw:IntKind.wrap .i64 n=n):Ct B0 Ab1 [.int .u64 x] [gC] fun v own=>v=int n∧own [gC]:=by
 have J:Ct B0 Ag0 [.int .u64 x] [gC] fun v own=>v=int n∧own [gC]:=Ct.of Dy2 rfl fun h r=>show Tr (gC::r) h _ _ from Tr.eq (e ..) (Tr.xInt (n:=n) hx (Ys fun o=>⟨by rw [hw],o⟩))
 refine Co D93 (fun _=>D71 ..) fun h r=>?_;refine Yd J fun h=>?_;refine Jc ?_;unhygienic intros;exact Yz
theorem tz1:TzE (M0 1) 1:=fun _ _ _=>by kernel_rfl
theorem tz2:TzE (M0 2) 3:=fun _ _ _=>by kernel_rfl
theorem tz3:TzE (M0 3) 7:=fun _ _ _=>by kernel_rfl
theorem tz4:TzE (M0 4) 15:=fun _ _ _=>by kernel_rfl
theorem tz5:TzE (M0 5) 31:=fun _ _ _=>by kernel_rfl
theorem tz6:TzE (M0 6) 63:=fun _ _ _=>by kernel_rfl
theorem tz7:TzE (M0 7) 62:=fun _ _ _=>by kernel_rfl
theorem tz8:TzE (M0 8) 61:=fun _ _ _=>by kernel_rfl
theorem Kc2:TzE (M0 14) 57:=fun _ _ _=>by kernel_rfl
theorem Kc6:TzE (M0 15) 51:=fun _ _ _=>by kernel_rfl
structure SigT (n:Int):Prop where
 rng:n=1∨n=2∨n=3∨n=4∨n=5∨n=6∨n=7∨n=8∨n=14∨n=15
theorem SigT.tz {n:Int} (s:SigT n):Ct B0 Ab1 [.int .u64 (M0 n)] [gC] fun v own=>v=int n∧own [gC]:=by
 obtain ⟨rfl|rfl|rfl|rfl|rfl|rfl|rfl|rfl|rfl|rfl⟩:=s
 ·exact Du6 tz1 rfl rfl
 ·exact Du6 tz2 rfl rfl
 ·exact Du6 tz3 rfl rfl
 ·exact Du6 tz4 rfl rfl
 ·exact Du6 tz5 rfl rfl
 ·exact Du6 tz6 rfl rfl
 ·exact Du6 tz7 rfl rfl
 ·exact Du6 tz8 rfl rfl
 ·exact Du6 Kc2 rfl rfl
 ·exact Du6 Kc6 rfl rfl
theorem SigT.b {n:Int} (s:SigT n):IntKind.wrap .u64 (M0 n)=M0 n∧D5 .i64 (M0 n) 512=0∧M0 n≠0:=by
 obtain ⟨rfl|rfl|rfl|rfl|rfl|rfl|rfl|rfl|rfl|rfl⟩:=s
 all_goals exact ⟨by decide,by decide,by decide⟩
abbrev Bs3 (p:ProcS):Int:=D5 .i64 (J8 .i64 p.pending p.mask) 65534
abbrev I67 (p:ProcS) (n:Int):Int:=D5 .i64 (Int.fdiv p.caught (2 ^ (min (Int.toNat (IntKind.wrap .u64 n)) 64))) 1
abbrev E10 (p:ProcS) (n:Int):Int:=if I67 p n=1 then 2 else if n=15 then 1 else if n=14 then 3 else 4
theorem H85 (p:ProcS) (h0:p.state≠1∨Bs3 p=0):Ct B0 Aq5 [.agg ⟨B5 p⟩] [] fun v own=>v=.tuple ⟨[int 0,int 0]⟩∧own []:=by
 refine Co D90 (fun _=>Ga5 ..) fun h r=>?_;refine Yn fun b h=>?_;refine Jb ?_;unhygienic intros;by_cases h1:p.state=1
 ·have h2:D5 .i64 (J8 .i64 p.pending p.mask) 65534=0:=h0.resolve_left (by simpa using h1);rw [h2];refine Yb (Yf (by simpa using h1) ?_);refine Yv ?_;refine Yt rfl ?_;exact Yz
 ·refine Yb (Yt (by simpa using h1) ?_);refine Yv ?_;refine Yt rfl ?_;exact Yz
theorem G78 (p:ProcS) {n:Int} (s:SigT n) (h1:p.state=1) (ho:Bs3 p=M0 n):Ct B0 Aq5 [.agg ⟨B5 p⟩] [gC] fun v own=>v=.tuple ⟨[int n,int (E10 p n)]⟩∧own [gC]:=by
 obtain ⟨e1,e2,e3⟩:=s.b;refine Co D90 (fun _=>Ga5 ..) fun h r=>?_;refine Yn fun b h=>?_;refine Jb ?_;unhygienic intros;rw [show D5 .i64 (J8 .i64 p.pending p.mask) 65534=M0 n from ho];refine Yb (Yf (by simpa using h1) ?_);refine Yv ?_;refine Yf (by simpa using e3) ?_;rw [e2];refine Yf rfl ?_;rw [e1];refine Yd (s.tz) fun h=>?_;refine Yj D90 (Hw2 ..) ?_;refine Jc ?_;unhygienic intros;refine Tr.ck (Gt5 (by have:=s.rng;omega)).2 ?_;have hk:∀ m,B5 p=m→m=B5 p:=fun _ h=>h.symm;unfold E10;by_cases hc:I67 p n=1
 ·rw [if_pos hc];refine Yt (by simpa using hc) ?_;exact Yz
 rw [if_neg hc];refine Yf (by simpa using hc) ?_;by_cases h15:n=15
 ·rw [if_pos h15];refine Yt (by simpa using h15) ?_;exact Yz
 rw [if_neg h15];refine Yf (by simpa using h15) ?_;by_cases h14:n=14
 ·rw [if_pos h14];refine Yt (by simpa using h14) ?_;exact Yz
 rw [if_neg h14];refine Yf (by simpa using h14) ?_;exact Yz
end Go.EQ

set_option maxRecDepth 10000
namespace Go.EQ
open Go Go.NN Go.Proofs
abbrev H05 (p:ProcS) (n:Int):Int:=J8 .i64 p.pending (M0 n)
section
variable (p:ProcS) {n:Int} (s:SigT n) (h1:p.state=1) (ho:Bs3 p=M0 n)
include s h1 ho
theorem Ik1 (w:E10 p n=4) (q:ProcS) (eq:q=Bo4 p p.state (H05 p n)):Ct B0 S9 [.agg ⟨B5 p⟩] [gC] fun v own=>v=.tuple ⟨[.agg ⟨B5 q⟩,.slice none 0 0,int n]⟩∧own [gC]:=by
 obtain ⟨k1,k2⟩:=Gt5 (n:=n) (by have:=s.rng;omega);refine Co Au5 (fun _=>Dz4 ..) fun h r=>?_;refine Yn fun b h=>?_;refine Yn fun b1 h=>?_;refine Yj Au5 (Bi7 ..) ?_;refine Ja ?_;unhygienic intros;refine Yd (G78 p s h1 ho) fun h=>?_;rw [w];refine Jc ?_;unhygienic intros;refine Yf rfl ?_;refine Jc ?_;unhygienic intros;rw [k1];refine Jd ?_;unhygienic intros;rw [show (B5 p).set 4 (int (J8 .i64 p.pending (M0 n)))=B5 q from eq ▸ rfl];refine Jd ?_;unhygienic intros;exact Yz
theorem Ip6 (w:E10 p n=2) (q:ProcS) (eq:q=Bo4 p p.state (H05 p n)) (hq:Bs3 q=0):Ct B0 S9 [.agg ⟨B5 p⟩] [gC] fun v own=>∃ x xc,v=.tuple ⟨[.agg ⟨B5 q⟩,.slice x 1 xc,int 0]⟩∧own [gC,slC false B9 1 x 1 xc [int n]]:=by
 obtain ⟨k1,k2⟩:=Gt5 (n:=n) (by have:=s.rng;omega);refine Co Au5 (fun _=>Dz4 ..) fun h r=>?_;refine Yn fun b h=>?_;refine Yn fun b1 h=>?_;refine Yj Au5 (Bi7 ..) ?_;refine Ja ?_;unhygienic intros;refine Yd (G78 p s h1 ho) fun h=>?_;rw [w];refine Jc ?_;unhygienic intros;refine Yf rfl ?_;refine Jc ?_;unhygienic intros;rw [k1];refine Jd ?_;unhygienic intros;refine G0 false B9 1 (by omega) ?_;rw [show (B5 p).set 4 (int (J8 .i64 p.pending (M0 n)))=B5 q from eq ▸ rfl];simp only [List.drop_zero,List.take_succ_cons,List.take_zero];refine Tr.xApd ?_ (fun xx yy h=>?_);exact ⟨by first|rfl|simp,by first|rfl|simp,by simp only [B3];omega⟩;refine Je ?_;refine Yj Au5 (Bi7 ..) ?_;refine Ja ?_;unhygienic intros;refine Yd (H85 q (.inr hq)) fun h=>?_;refine Jd ?_;unhygienic intros;refine Ys fun o=>?_;exact ⟨_,_,rfl,o.sub⟩
end
end Go.EQ

set_option maxRecDepth 10000
namespace Go.EQ
open Go Go.NN Go.Proofs
abbrev H38 (p p':ProcS) (l:List Int) (d:Int):Prop:=Ct B0 S9 [.agg ⟨B5 p⟩] [gC] fun v own=>∃ x xc,v=.tuple ⟨[.agg ⟨B5 p'⟩,.slice x l.length xc,int d]⟩∧own [gC,slC false B9 1 x l.length xc (l.map int)]
theorem Jz0 {p p':ProcS} {d:Int} (J:Ct B0 S9 [.agg ⟨B5 p⟩] [gC] fun v own=>v=.tuple ⟨[.agg ⟨B5 p'⟩,.slice none 0 0,int d]⟩∧own [gC]):H38 p p' [] d:=by
 intro h r o;obtain ⟨v,h',e,hv,o2⟩:=J h r o
 exact ⟨v,h',e,none,0,hv,(G0 (Q:=fun _ h=>Own h (gC::slC false B9 1 none 0 0 []::r)) false B9 1 (by omega) (Ys fun o=>o.picks [1] rfl):Tr (gC::r) h' (some ((),h')) _) o2 |>.elim fun _ x=>by
  obtain ⟨h2,e2,o3⟩:=x
  cases e2;exact o3⟩
abbrev Jq0 (s slot op a b:Int) (da:Option Addr) (dn dc:Nat) (n e:Int) (xa:Option Addr) (xn xc:Nat) (back:Bool) (sa:Option Addr) (sn sc:Nat) (d:Int):List Value:=[int s,int slot,int op,int a,int b,.slice da dn dc,int n,int e,.slice xa xn xc,.bool back,.slice sa sn sc,int d]
abbrev Hm3 (S:KS) (q k N:Nat) (j:Int) (y:HoS) (T:SectS) (t:Int) (V V':VW) (l:List Int) (d:Int):Prop:=∀ (X:CX),See X V→∀ (s slot op a b:Int) (da:Option Addr) (dn dc:Nat) (n e:Int) (xa:Option Addr) (xn xc:Nat) (back:Bool),
 Ct B0 Am8 [P0 q,.agg ⟨Ev2 s slot op a b da dn dc n e xa xn xc back⟩] [hoC q k j y,kmC S k T t X.m,gC] fun v own=>∃ X' x sc,See X' V'∧v=.agg ⟨Jq0 s slot op a b da dn dc n e xa xn xc back x l.length sc d⟩∧own [hoC q k j y,kmC S k T t X'.m,gC,slC false B9 1 x l.length sc (l.map int)]
section
variable {S:KS} (B:Base S)
include B
theorem Jr7 (q k N:Nat) {j:Int} (hj:0≤j∧j<4) (y:HoS) (T:SectS) (t:Int) (ok:TOk N T t) {V:VW} {p p':ProcS} (hv:V.S j=(p,1)) (hs:p.state=1) {l:List Int} (J:H38 p p' l 0) (k1:okS p'=true) (k2:InS p'):Hm3 S q k N j y T t V (wS V j p') l 0:=by
 intro X A s slot op a b da dn dc n e xa xn xc back;have fo:=A71 B ok (Dq7 hj);have e0:=A.s j (by omega);rw [hv] at e0;have w:=O7 A.c (i:=j) (by omega) k1 k2;have sm:=A.ws (i:=j) (by omega) k1 k2;refine Co Dl3 (fun _=>Dl8 ..) fun h r=>?_;refine Yn fun b1 h=>?_;refine Yn fun b2 h=>?_;refine B6 (hoC q k j y) fun ⟨ha,hc⟩=>?_;refine Je ?_;refine Jc ?_;unhygienic intros;refine Yn fun b3 h=>?_;refine B04 S y.c k N T t j X.m ?_;rw [A.eX];refine Yd (Aa6 y.c k (frH S T t N j) X fo j) fun h=>?_;rw [O8 A.c (by omega),e0];dsimp only;refine Jb ?_;unhygienic intros;refine Yb (Yf rfl ?_);refine Jb ?_;unhygienic intros;refine Yv ?_;rw [hs];refine Yf rfl ?_;refine Jc ?_;unhygienic intros;refine Yc (J) ?_;rintro _ h ⟨x,sc,rfl,o⟩<;>refine Jh o ?_;refine Jc ?_;unhygienic intros;refine Yd (Ah8 y.c k (frH S T t N j) X fo j p') fun h=>?_;rw [w.1];refine Jc ?_;unhygienic intros;refine Yf rfl ?_;refine Jc ?_;unhygienic intros;refine Bt6 S y.c k N T t j (As5 X j p') sm.c.bad ?_;refine B1 (hoC q k j y) (ha,hc) ?_;refine Je ?_;refine Ys fun o=>?_;exact ⟨_,x,sc,sm,rfl,o.sub⟩
end
end Go.EQ

set_option maxRecDepth 10000
namespace Go.EQ
open Go Go.NN Go.Proofs
section
variable {S:KS} (B:Base S) (q k N:Nat) {j:Int} (hj:0≤j∧j<4) (y:HoS) (T:SectS) (t:Int) (ok:TOk N T t) {X:CX} {V:VW} (A:See X V) {p:ProcS} (hv:V.S j=(p,1))
include B hj ok A hv
end
theorem Ia6 {β:Type} {a b:Bool} {h:NN.H} {K:Bool→NN.H→Option (β × NN.H)}:bnd (cond a (some (true,h)) (some (b,h))) K=K (a || b) h:=by cases a<;>rfl
theorem Ip3 (bi:Nat) (t:Int) (ht:0≤t∧t≤15) (j:Int) (p:ProcS):Ct B0 A24 [.agg ⟨int j::B5 p⟩,P0 bi] [pt bi (.cells B9 false [int t])] fun v own=>v=.bool (inG (t-8) j p)∧own [pt bi (.cells B9 false [int t])]:=by
 have e1:IntKind.wrap .i64 (t-8)=t-8:=by rw [B8];omega
 refine Co G73 (fun _=>G71 ..) fun h r=>?_;refine Yn fun b h=>?_;refine Ja ?_;intros;refine Yd (G62 j p) fun h=>?_;refine Jb ?_;intros;by_cases h2:p.state=2
 ·refine Yb (Yf (by simpa using h2) ?_);refine Yv ?_;refine Ys fun o=>?_;exact ⟨by rw [show inG (t-8) j p=false by unfold inG;simp [h2]],o.sub⟩
 ·refine Yb (Yt (by simpa using h2) ?_);refine Jb ?_;intros;refine Yv ?_;refine Ys fun o=>?_;rw [e1];exact ⟨by rw [show inG (t-8) j p=(p.group==t-8) by unfold inG;simp [h2]],o.sub⟩
def Bs5 (X:CX) (t:Int):List (Int × ProcS):=if t≥8 then N9 X (inG (t-8)) 8 0 else if (vS X t).2=0 then [] else [(t,(vS X t).1)]
theorem Gg4 {X:CX} (q:Int→ProcS→Bool):∀ (m:Nat) (i:Int),∀ s ∈ N9 X q m i,InS s.2
 | 0,i,s,hs=>by simp [N9] at hs
 | m+1,i,s,hs=>by
  rw [N9] at hs
  split at hs
  ·rcases List.mem_cons.1 hs with rfl|h2
   ·exact A65 _
   ·exact Gg4 q m (i+1) s h2
  ·exact Gg4 q m (i+1) s hs
theorem Ib5 {nc:Nat} {X:CX} (c:Clean nc X) {t:Int} (ht:0≤t∧t≤15):∀ s ∈ Bs5 X t,(0≤s.1∧s.1<8)∧okS s.2=true∧InS s.2:=by
 intro s hs;unfold Bs5 at hs
 split at hs
 ·obtain ⟨h1,h2,h3⟩:=Dh0 c _ 8 0 (by omega) (by omega) s hs;exact ⟨⟨h1,h2⟩,h3,Gg4 _ 8 0 s hs⟩
 ·split at hs
  ·cases hs
  ·rename_i h8 h0
   rw [List.mem_singleton] at hs;subst hs;refine ⟨⟨ht.1,by simp only;omega⟩,?_,A65 _⟩;rcases Du5 c (i:=t) (by omega) with ⟨h1,_⟩|⟨_,h2⟩
   ·exact absurd h1 h0
   ·exact h2
theorem I04 (b k:Nat) (F:Fr) (X:CX) (ok:FrOk F) {nc:Nat} (c:Clean nc X) (t:Int) (ht:0≤t∧t≤15):Ct B0 Bz5 [P0 b,int t] [cmC b k F X] fun v own=>∃ a ac,v=.tuple ⟨[.slice a (Bs5 X t).length ac,int (if (Bs5 X t).length=0 then 103 else 0)]⟩∧own [slC false J7 17 a (Bs5 X t).length ac ((Bs5 X t).flatMap A48),cmC b k F X]:=by
 have hk:t<8→(vS X t).2=0∨(vS X t).2=1:=fun h=>by
  rcases Du5 c (i:=t) (by omega) with ⟨h1,_⟩|⟨h1,_⟩
  ·exact .inl h1
  ·exact .inr h1
 unfold Bs5;refine Co Hj3 (fun _=>Hk0 ..) fun h r=>?_;refine Yn fun bi h=>?_;refine Jb ?_;intros;by_cases h8:t≥8
 ·rw [if_pos h8];refine Yt (decide_eq_true h8) ?_;refine Yc (G24 b k F X ok c (pt bi (.cells B9 false [int t])) A24 [P0 bi] (inG (t-8)) (fun j p=>Ip3 bi t ht j p)) ?_;rintro _ h ⟨a,ac,rfl,o⟩<;>refine Jh o ?_;refine Jb ?_;intros;by_cases hz:(N9 X (inG (t-8)) 8 0).length=0
  ·refine Yt (by simp [hz]) ?_;refine Ys fun o=>?_;have e:N9 X (inG (t-8)) 8 0=[]:=List.eq_nil_of_length_eq_zero hz;rw [e];exact ⟨none,0,rfl,o.sub.slNil false J7 (by omega)⟩
  ·refine Yf (by simpa using hz) ?_;refine Ys fun o=>?_;rw [if_neg hz];exact ⟨a,ac,rfl,o.sub⟩
 rw [if_neg h8];refine Yf (decide_eq_false h8) ?_;refine Jb ?_;intros;refine Yd (Aa6 b k F X ok t) fun h=>?_;rw [O8 c (by omega)];dsimp only;generalize (vS X t).1=p at *;generalize (vS X t).2=st at *;refine Jc ?_;intros;refine Yn fun b1 h=>?_;refine Jb ?_;intros;rcases hk (by omega) with h1|h1
 ·rw [if_pos h1];refine Yt (by simpa using h1) ?_;refine Ys fun o=>?_;exact ⟨none,0,rfl,o.sub.slNil false J7 (by omega)⟩
 ·rw [if_neg (by omega)];refine Yf (by rw [h1];rfl) ?_;refine Yf (by rw [h1];rfl) ?_;refine Jb ?_;intros;refine Tr.ck (by rw [List.append_nil];exact Ac8 t p) ?_;refine Yn fun b2 h=>?_;rw [List.append_nil,List.append_nil];refine Ag4 0 rfl 17 1 (by rw [Ac8]) (by omega) ?_;refine (?_:Tr (slC false J7 17 (some ⟨b2,0,none⟩) 1 1 (int t::B5 p)::_::cmC b k F X::_) _ _ _);refine Ys fun o=>?_;refine ⟨some ⟨b2,0,none⟩,1,rfl,?_⟩;rw [show List.flatMap A48 [(t,p)]=int t::B5 p from List.append_nil _,show [(t,p)].length=1 from rfl];exact o.sub
def D55 (X:CX) (n:Int):List (Int × ProcS)→CX
 | []=>X
 | s::l=>D55 (if Ea9 s.2 n then As5 X s.1 (Bg9 s.2 n) else X) n l
def Jd0 (L:List (Int × ProcS)):Prop:=∀ s ∈ L,(0≤s.1∧s.1<8)∧okS s.2=true∧InS s.2
instance {j:Int} {p:ProcS}:PartC (int j::B5 p) 1 16 (B5 p):=⟨by
 unfold By8;rw [Nat.ble_eq_true_of_le (by rw [Ac8];omega),List.drop_succ_cons,List.drop_zero,List.take_of_length_le (by rw [A00];omega)];rfl⟩
theorem Iy3 (b k:Nat) (F:Fr) (ok:FrOk F) {nc:Nat} (n:Int) (b4:Nat) (L:List (Int × ProcS)) (hL:Jd0 L) (h8:L.length≤8) (a:Option Addr) (ac:Nat):∀ (m i:Nat) (X:CX),Clean nc X→i+m=L.length →
  CtJ H0 A04 Bz6 [(0,P0 b),(3,int n),(8,P0 b4),(53,.slice a L.length ac),(54,int L.length),(55,int i)] [slC false J7 17 a L.length ac (L.flatMap A48),pt b4 (.cells P3 false J79),cmC b k F X] fun v own =>
   v=.agg ⟨I2 0 0 false⟩∧own [cmC b k F (D55 X n (L.drop i))]:=by
 intro m
 induction m with
 | zero =>
  intro i X c hi;rw [show L.drop i=[] from List.drop_eq_nil_of_le (by omega),show D55 X n []=X from rfl];refine Cj Eu0 (fun _=>Ew0 ..) fun h r=>?_;refine Yf (by simp;omega) ?_;refine Ja ?_;intros;exact Yz
 | succ m ih =>
  intro i X c hi;have hil:i<L.length:=by omega
  have e1:=wN i;have hg:L[i]?=some L[i]:=List.getElem?_eq_getElem hil;have hd:L.drop i=L[i]::L.drop (i+1):=List.drop_eq_getElem_cons hil;obtain ⟨r1,r2,r3⟩:=hL _ (List.getElem_mem hil);rw [hd];generalize L[i]=s at hg r1 r2 r3;obtain ⟨j,p⟩:=s;simp only at r1 r2 r3;rw [show D55 X n ((j,p)::L.drop (i+1))=D55 (if Ea9 p n then As5 X j (Bg9 p n) else X) n (L.drop (i+1)) from rfl];have hpart:=Av3 (f:=A48) (k:=17) (fun x=>Ac8 x.1 x.2) hg;have hlen:=V4 (f:=A48) (k:=17) (fun x=>Ac8 x.1 x.2) L;refine Cj Eu0 (fun _=>Ew0 ..) fun h r=>?_;refine Yt (by simp;omega) ?_;rw [e1];refine S4 0 rfl fun h1 h2 h3=>?_;(refine Jc ?_;intros;repeat(refine Gw ?_;rintro px rfl;refine Jc ?_;intros));rw [Int.toNat_natCast];refine Tr.xAggS (xs:=int j::B5 p) ⟨by omega,by omega,hpart⟩ ?_;refine Yn fun b2 h=>?_;refine Ja ?_;intros;refine Yd (Jj1 p n) fun h=>?_;by_cases hc:Ea9 p n
  ·obtain ⟨k1,k2⟩:=Ic1 r2 r3 hc;obtain ⟨w1,w2,_⟩:=O7 c r1 k1 k2;rw [if_pos hc,if_pos hc,decide_eq_true hc];generalize Bg9 p n=p2 at *;refine Jc ?_;intros;refine Yn fun b3 h=>?_;refine Jb ?_;intros;refine Yb (Yt rfl ?_);refine Jb ?_;intros;refine Yd (Ah8 b k F X ok j p2) fun h=>?_;rw [w1];dsimp only;refine Jb ?_;intros;refine Yv ?_;refine Yf rfl ?_;refine N8 [3,3,0] 2 rfl rfl ?_;exact Yr (ih (i+1) _ w2 (by omega)) fun v h q=>q
  ·rw [if_neg hc,if_neg hc,decide_eq_false hc];refine Jc ?_;intros;refine Yn fun b3 h=>?_;refine Jb ?_;intros;refine N8 [2,2,2] 2 rfl rfl ?_;exact Yr (ih (i+1) _ c (by omega)) fun v h q=>q
def G91 (X:CX) (i t n:Int):List Value × CX :=
 if (N4 X i).2≠0 then (I2 0 (N4 X i).2 false,X)
 else if t<0∨t>15∨n<0∨n>15 then (I2 0 122 false,X)
 else if (Bs5 X t).length=0 then (I2 0 103 false,X)
 else (I2 0 0 false,D55 X n (Bs5 X t))
theorem Ja1 {X:CX} {t:Int}:(Bs5 X t).length≤8:=by
 unfold Bs5;split
 ·exact D61 X _ 8 0
 ·split<;>simp
theorem J04 (b k:Nat) (F:Fr) (X:CX) (ok:FrOk F) {nc:Nat} (c:Clean nc X) (i t n:Int) (hi:0≤i∧i<8):Ct B0 A04 [P0 b,int i,int t,int n] [cmC b k F X] fun v own=>v=.agg ⟨(G91 X i t n).1⟩∧own [cmC b k F (G91 X i t n).2]:=by
 unfold G91;refine Co Eu0 (fun _=>Io8 ..) fun h r=>?_;refine Yn fun b0 h=>?_;refine Yd (B02 b k F X ok c i hi) fun h=>?_;refine Jc ?_;intros;refine Yn fun b1 h=>?_;refine Jb ?_;intros;by_cases h0:(N4 X i).2=0
 case neg =>
  rw [if_pos h0];refine Yt (by simpa using h0) ?_;refine Ye (Bf1 (N4 X i).2) fun h=>?_;intros;exact Yz
 rw [if_neg (by simpa using h0)];refine Yf (by simpa using h0) ?_;rw [Ia6,Ia6,Ia6];rw [show (((decide (t<0) || decide (t>15)) || decide (n<0)) || decide (n>15))=decide (t<0∨t>15∨n<0∨n>15) by rw [Bool.decide_or,Bool.decide_or,Bool.decide_or,Bool.or_assoc,Bool.or_assoc]];by_cases h2:t<0∨t>15∨n<0∨n>15
 ·rw [if_pos h2,decide_eq_true h2];refine Yt rfl ?_;refine Ye (Bf1 122) fun h=>?_;intros;exact Yz
 rw [if_neg h2,decide_eq_false h2];refine Yf rfl ?_;refine Yc (I04 b k F X ok c t (by omega)) ?_;rintro _ h ⟨a,ac,rfl,o⟩;refine Jh o ?_;have hm:=Ib5 c (t:=t) (by omega);have hl8:=Ja1 (X:=X) (t:=t);generalize Bs5 X t=L at *;refine Jb ?_;intros;by_cases h3:L.length=0
 ·rw [if_pos h3,if_pos h3];refine Yt rfl ?_;refine Ye (Bf1 103) fun h=>?_;intros;exact Yz
 rw [if_neg h3,if_neg h3];refine Yf rfl ?_;refine N8 [0,2,0] 1 rfl rfl ?_;exact Yr (Iy3 b k F ok n b0 L hm hl8 a ac L.length 0 X c (Nat.zero_add _)) fun v h q=>q
def Hf6 (V:VW) (n:Int):List (Int × ProcS)→VW
 | []=>V
 | s::l=>Hf6 (if Ea9 s.2 n then wS V s.1 (Bg9 s.2 n) else V) n l
theorem See.kill {n:Int}:∀ (L:List (Int × ProcS)) {X:CX} {V:VW},Jd0 L→See X V→See (D55 X n L) (Hf6 V n L)
 | [],X,V,_,A=>A
 | s::l,X,V,h,A=>by
  obtain ⟨h1,h2,h3⟩:=h s (by simp);rw [D55,Hf6];refine See.kill l (fun x hx=>h x (by simp [hx])) ?_;by_cases hc:Ea9 s.2 n
  ·obtain ⟨r1,r2⟩:=Ic1 h2 h3 hc;rw [if_pos hc,if_pos hc];exact A.ws h1 r1 r2
  ·rw [if_neg hc,if_neg hc];exact A
end Go.EQ

set_option maxRecDepth 10000
namespace Go.EQ
open Go Go.NN Go.Proofs
section
variable {c k:Nat} {F:Fr} {X:CX} {V V':VW} (ok:FrOk F) (A:See X V) {i:Int} (hi:0≤i∧i<8) {n e:Int}
include ok A hi
theorem J22 {p q:ProcS} (hv:V.S i=(p,1)) (hs:p.state=1) {t s:Int} (ht:0≤t∧t<8) (hq:V.S t=(q,1)) (hc:Ea9 q s) (d:List UInt8):DoJ c k F X (wS V t (Bg9 q s)) i 5 t s d 0 0 [] false:=by
 intro da dc;have es:=A.self hi;have e2:S6 V i=(p,0):=by unfold S6;rw [hv,if_pos ⟨rfl,hs⟩]
 rw [e2] at es
 have et:Bs5 X t=[(t,q)]:=by
  unfold Bs5;rw [if_neg (by omega),A.s t ht,hq,if_neg (show ¬ (1:Int)=0 by decide)]
 have hk:=Ib5 A.c (t:=t) (by omega);rw [et] at hk;have A2:=See.kill (n:=s) _ hk A;rw [show Hf6 V s [(t,q)]=wS V t (Bg9 q s) by unfold Hf6;rw [if_pos hc];rfl] at A2
 have e3:G91 X i t s=(I2 0 0 false,D55 X s [(t,q)]):=by
  have h1:=hc.1;unfold G91;rw [es,et,if_neg (by simp),if_neg (by omega),if_neg (by simp)]
 refine Co Bk2 (fun _=>Bk3 ..) fun h r=>?_;refine Yn fun b1 h=>?_;refine Yn fun b2 h=>?_;refine Yd (Ag5 c k F X ok) fun h=>?_;rw [Q8 A.c];refine Jc ?_;unhygienic intros;refine Yd (Ds1 (by omega) t s da d.length dc) fun h=>?_;refine Jc ?_;unhygienic intros;refine Yn fun b3 h=>?_;refine Jd ?_;unhygienic intros;refine Yd (J04 c k F X ok A.c i t s hi) fun h=>?_;rw [e3];refine Jc ?_;unhygienic intros;refine Bh5 ?_;refine Ys fun o=>?_;exact ⟨none,0,_,A2,rfl,o.sub⟩
end
def oZ (V:VW) (i:Int):VW:=⟨fun j=>if j=i then (.zero,0) else V.S j,V.F,V.P⟩
theorem See.oz {X:CX} {V:VW} (A:See X V) {i:Int} (hi:0≤i∧i<8):See (D22 X i) (oZ V i):=by
 obtain ⟨_,w2,w3,w4,w5⟩:=Bg0 A.c hi;exact ⟨w2,fun j h=>by rw [w3 j h,A.s j h];rfl,fun j h=>by rw [w4 j h];exact A.f j h,fun j h=>by rw [w5 j (by omega)];exact A.p j h⟩
theorem See.okS {X:CX} {V:VW} (A:See X V) {i:Int} (hi:0≤i∧i<8) (h:(V.S i).2=1):EQ.okS (V.S i).1=true∧InS (V.S i).1:=by
 have e:=A.s i hi;have h1:=Du5 A.c hi;have h2:InS (vS X i).1:=A65 _;rw [e] at h1 h2;rcases h1 with ⟨h3,_⟩|⟨_,h3⟩
 ·rw [h3] at h;cases h
 ·exact ⟨h3,h2⟩
def Gq3:List Int→VW→VW
 | [],V=>V
 | f::l,V=>Gq3 l (if f>0 then (Ez8 V (f-1)).2 else V)
theorem See.closeL:∀ (l:List Int) {X:CX} {V:VW},Bq4 l→See X V→See (EQ.closeL 3 l X) (Gq3 l V)
 | [],X,V,_,A=>A
 | f::l,X,V,hf,A=>by
  have h1:=hf f (by simp);rw [EQ.closeL,Gq3];refine See.closeL l (fun x hx=>hf x (by simp [hx])) ?_;by_cases h:f>0
  ·rw [if_pos h,if_pos h];exact (A.close (f:=f-1) (by omega)).2
  ·rw [if_neg h,if_neg h];exact A
def Ek9 (V:VW) (i:Int):VW:=if (V.S i).2=1 then wS (Gq3 (V.S i).1.fds V) i (Dt2 (V.S i).1) else V
theorem See.closeAll {X:CX} {V:VW} (A:See X V) {i:Int} (hi:0≤i∧i<8):See (W4 3 X i) (Ek9 V i):=by
 unfold W4 Ek9;rw [A.s i hi];by_cases h:(V.S i).2=1
 ·obtain ⟨k,r⟩:=A.okS hi h;rw [if_pos h,if_pos h];exact (See.closeL _ (Do4 k) A).ws hi (Ho5 k) ⟨r.a,r.b,r.c,r.d⟩
 ·rw [if_neg h,if_neg h];exact A
def Hf8:List (Int × ProcS)→VW→VW
 | [],V=>V
 | s::l,V=>Hf8 l (if s.2.state=2 then oZ V s.1 else wS V s.1 (E97 s.2))
theorem See.orphL:∀ (L:List (Int × ProcS)) {X:CX} {V:VW},SlOk L→See X V→See (EQ.orphL L X) (Hf8 L V)
 | [],X,V,_,A=>A
 | s::l,X,V,h,A=>by
  obtain ⟨h1,h2,h3⟩:=h s (by simp);rw [EQ.orphL,Hf8];refine See.orphL l (fun x hx=>h x (by simp [hx])) ?_;by_cases hz:s.2.state=2
  ·rw [if_pos hz,if_pos hz];exact A.oz h1
  ·rw [if_neg hz,if_neg hz];exact A.ws h1 (Hl7 h2) ⟨h3.a,h3.b,h3.c,h3.d⟩
def H07 (V:VW) (i:Int):VW:=Hf8 (Ei2 V (H02 i) 8 0) V
theorem See.orph {X:CX} {V:VW} (A:See X V) (i:Int):See (A84 X i) (H07 V i):=by
 have h:=Dx9 A.c (H02 i) 8 0 (by omega) (by omega);unfold A84 H07;rw [A.slots _ 8 0 (by omega) (by omega)] at h ⊢;exact See.orphL _ h A
def Jt1 (V:VW) (i code:Int):List Value × VW :=
 if (V.S i).2≠1 then (I2 0 105 false,V)
 else if (V.S i).1.parent>0∧(V.S ((V.S i).1.parent-1)).2=1∧(V.S ((V.S i).1.parent-1)).1.state≠2 then (I2 0 0 false,wS V i (Gq7 (V.S i).1 code))
 else (I2 0 0 false,oZ V i)
def Gt1 (V:VW) (i code:Int):List Value × VW:=if (S6 V i).2≠0 then (I2 0 (S6 V i).2 false,V) else Jt1 (H07 (Ek9 V i) i) i code
theorem See.exit {X:CX} {V:VW} (A:See X V) {i:Int} (hi:0≤i∧i<8) (code:Int):(E21 3 X i code).1=(Gt1 V i code).1∧See (E21 3 X i code).2 (Gt1 V i code).2:=by
 have B:=(A.closeAll hi).orph i;unfold E21 Gt1 Jt1;rw [A.self hi];by_cases h0:(S6 V i).2=0
 case neg=>rw [if_pos h0,if_pos h0];exact ⟨rfl,A⟩
 have hn:¬ (S6 V i).2≠0:=by simpa using h0
 rw [if_neg hn,if_neg hn];generalize A84 (W4 3 X i) i=Y at B;generalize H07 (Ek9 V i) i=W at B;rw [B.s i hi];by_cases h1:(W.S i).2=1
 case neg=>rw [if_pos h1,if_pos h1];exact ⟨rfl,B⟩
 have hm:¬ (W.S i).2≠1:=by simpa using h1
 rw [if_neg hm,if_neg hm];obtain ⟨k,r⟩:=B.okS hi h1;have hp:=Ir8 k;by_cases h2:(W.S i).1.parent>0
 case neg=>rw [if_neg (fun h=>h2 h.1),if_neg (fun h=>h2 h.1)];exact ⟨rfl,B.oz hi⟩
 rw [B.s _ (show 0≤(W.S i).1.parent-1∧(W.S i).1.parent-1<8 by omega)]
 split
 ·exact ⟨rfl,B.ws hi (Iu6 k code) ⟨by show (0:Int)≤0∧(0:Int)≤65535;omega,r.b,r.c,r.d⟩⟩
 ·exact ⟨rfl,B.oz hi⟩
def waitL (V:VW) (n:Nat):List (Int × ProcS)→List Value × VW
 | []=>(if n=0 then I2 0 110 false else I2 0 0 true,V)
 | s::l=>if s.2.state=2 then (I2 (256*s.1+s.2.code) 0 false,oZ V s.1) else waitL V n l
def Gs8 (V:VW) (i:Int):List Value × VW :=
 if (S6 V i).2≠0 then (I2 0 (S6 V i).2 false,V)
 else waitL V (Ei2 V (fun _ p=>p.parent==i+1) 8 0).length (Ei2 V (fun _ p=>p.parent==i+1) 8 0)
theorem See.waitL {X:CX} {V:VW} (A:See X V) (n:Nat):∀ (L:List (Int × ProcS)),(∀ s ∈ L,0≤s.1∧s.1<8)→(Du0 X n L).1=(EQ.waitL V n L).1∧See (Du0 X n L).2 (EQ.waitL V n L).2
 | [],_=>⟨rfl,A⟩
 | s::l,h=>by
  rw [Du0,EQ.waitL];by_cases hz:s.2.state=2
  ·rw [if_pos hz,if_pos hz];exact ⟨rfl,A.oz (h s (by simp))⟩
  ·rw [if_neg hz,if_neg hz];exact See.waitL A n l fun x hx=>h x (by simp [hx])
theorem See.wait {X:CX} {V:VW} (A:See X V) {i:Int} (hi:0≤i∧i<8):(Gq1 X i).1=(Gs8 V i).1∧See (Gq1 X i).2 (Gs8 V i).2:=by
 have h:=Dh0 A.c (fun _ p=>p.parent==i+1) 8 0 (by omega) (by omega);unfold Gq1 Gs8;rw [A.self hi];by_cases h0:(S6 V i).2=0
 case neg=>rw [if_pos h0,if_pos h0];exact ⟨rfl,A⟩
 have hn:¬ (S6 V i).2≠0:=by simpa using h0
 rw [if_neg hn,if_neg hn];rw [A.slots _ 8 0 (by omega) (by omega)] at h ⊢;exact A.waitL _ _ fun s hs=>⟨(h s hs).1,(h s hs).2.1⟩
abbrev Ao3:=Int × Int × Int
abbrev Hl5 (i:Ao3):List Value:=[int i.1,int i.2.1,int i.2.2]
abbrev Hm7 (l:List Ao3):List Value:=l.flatMap Hl5
theorem H35 (i:Ao3):(Hl5 i).length=3:=rfl
def okI (i:Ao3) (behind:Int):Bool :=
 !(decide (i.1<1) || decide (i.1>7) || decide (i.2.1<0) || decide (i.2.1>65535) || !(i.1==1 || i.1==3 || i.1==4 || i.1==5) && i.2.1 != 0 || i.2.2 != 0) && (i.1 != 5 || decide (i.2.1≤behind))
theorem Ji2 (i:Ao3) (behind:Int):Ct B0 Em0 [.agg ⟨Hl5 i⟩,int behind] [] fun v own=>v=.bool (okI i behind)∧own []:=by
 obtain ⟨op,a,b⟩:=i;unfold okI;dsimp only;refine Co I58 (fun _=>I66 ..) fun h r=>?_;refine Yn fun b1 h=>?_;refine Ja ?_;unhygienic intros;generalize (decide (op<1) || decide (op>7) || decide (a<0) || decide (a>65535) || !(op==1 || op==3 || op==4 || op==5) && a != 0 || b != 0)=z
 cases z with
 | true =>
  refine Yt rfl ?_;exact Yz
 | false =>
  refine Yf rfl ?_;refine Jb ?_;unhygienic intros;by_cases h5:op=5
  ·refine Yb (Yf (by simpa using h5) ?_);refine Jb ?_;unhygienic intros;refine Yv ?_;refine Ys fun o=>?_;exact ⟨by subst h5;rfl,o.sub⟩
  ·refine Yb (Yt (by simpa using h5) ?_);refine Yv ?_;refine Ys fun o=>?_;exact ⟨by rw [show (op != 5)=true by simpa using h5];rfl,o.sub⟩
abbrev isC (ro:Bool) (a:Option Addr) (c:Nat) (l:List Ao3):HP:=slC ro Q9 3 a l.length c (Hm7 l)
theorem Is4 {l:List Ao3} {i:Nat} {x:Ao3} (h:l[i]?=some x):0<3∧i*3+3≤(Hm7 l).length∧((Hm7 l).drop (i*3)).take 3=Hl5 x:=by
 have h1:=Av3 H35 h;have h2:(Hm7 l).length=l.length*3:=V4 H35 l;have hlt:=(List.getElem?_eq_some_iff.1 h).1;exact ⟨by omega,by omega,h1⟩
abbrev Es4 (l:List Ao3):Prop:=∀ (i:Nat) (x:Ao3),l[i]?=some x→okI x ((l.length:Int)-1-i)=true
theorem Ek3 (ro:Bool) (a:Option Addr) (c:Nat) (l:List Ao3) (hl:l.length≤32) (hk:Es4 l):∀ (m i:Nat),i+m=l.length →
  CtJ H0 Ad4 Br9 [(0,.slice a l.length c),(8,.slice a l.length c),(9,int (l.length:Int)),(10,int (i:Int))] [isC ro a c l] fun v own=>v=int 0∧own [isC ro a c l]
 | 0,i,hi=>by
  refine Cj Eb2 (fun _=>En4 ..) fun h r=>?_;refine Yf (by simp;omega) ?_;exact Yz
 | m+1,i,hi=>by
  have ih:=Ek3 ro a c l hl hk m (i+1) (by omega);have hlt:i<l.length:=by omega
  have hx:l[i]?=some l[i]:=List.getElem?_eq_getElem hlt;have hp:=Is4 hx;have hok:=hk i _ hx;generalize l[i]=x at hx hp hok;obtain ⟨op,xa,xb⟩:=x;have e1:=wN i;have e2:IntKind.wrap .i64 (IntKind.wrap .i64 ((l.length:Int)-1)-(i:Int))=(l.length:Int)-1-i:=by rw [B8,B8];omega
  refine Cj Eb2 (fun _=>En4 ..) fun h r=>?_;refine Yt (by simp;omega) ?_;rw [e1,e2];(refine Jc ?_;unhygienic intros;repeat(refine Gw ?_;rintro px rfl;refine Jc ?_;unhygienic intros));rw [Int.toNat_natCast];refine Tr.xAggS (xs:=Hl5 (op,xa,xb)) hp ?_;refine Yn fun b1 h=>?_;refine Jc ?_;unhygienic intros;refine Yd (Ji2 (op,xa,xb) ((l.length:Int)-1-i)) fun h=>?_;rw [hok];refine Jc ?_;unhygienic intros;refine Yr (ih) ?_;rintro _ h ⟨rfl,o⟩;exact ⟨rfl,o.sub⟩
theorem Df0 (ro:Bool) (a:Option Addr) (c:Nat) (l:List Ao3) (hl:l.length≤32) (hk:Es4 l):Ct B0 Ad4 [.slice a l.length c] [isC ro a c l] fun v own=>v=int 0∧own [isC ro a c l]:=by
 have J:=Ek3 ro a c l hl hk l.length 0 (by omega);rw [show ((0:Nat):Int)=0 from rfl] at J;refine Co Eb2 (fun _=>If0 ..) fun h r=>?_;refine Yf (by simp;omega) ?_;refine Yr (J) ?_;rintro _ h ⟨rfl,o⟩;exact ⟨rfl,o.sub⟩
theorem Hq8 (n:Int) (hn:0≤n∧n≤65535):Ct B0 Dv5 [int n] [] fun v own=>v=.bool true∧own []:=by
 refine Co Jb9 (fun _=>I60 ..) fun h r=>?_;refine Yb (Yt (by simp;omega) ?_);refine Yv ?_;refine Ys fun o=>?_;exact ⟨by rw [decide_eq_true hn.2],o.sub⟩
abbrev Jp0 (at0 mask:Int):List Ao3:=[(1,at0,0),(3,mask,0),(7,0,0),(5,1,0),(6,0,0)]
theorem Iv6 (at0 mask:Int) (h1:0≤at0∧at0≤65535) (h2:0≤mask∧mask≤65535):Ct B0 De8 [int at0,int mask] [] fun v own=>∃ x,v=.slice x 5 5∧own [isC false x 5 (Jp0 at0 mask)]:=by
 refine Co I28 (fun _=>I51 ..) fun h r=>?_;refine Yd (Hq8 at0 h1) fun h=>?_;refine Jb ?_;unhygienic intros;refine Yb (Yf rfl ?_);refine Yd (Hq8 mask h2) fun h=>?_;refine Jb ?_;unhygienic intros;refine Yv ?_;refine Yf rfl ?_;refine Yn fun b1 h=>?_;refine Ag4 0 rfl 3 5 rfl (by omega) ?_;refine (?_:Tr (isC false (some ⟨b1,0,none⟩) 5 (Jp0 at0 mask)::_) _ _ _);refine Ys fun o=>?_;exact ⟨_,rfl,o.sub⟩
theorem Own.cut0 {ro:Bool} {e:TypeId} {sz n c k:Nat} {cs:List Value} {h:H} {r:List HP} {a:Option Addr} (o:Own h (slC ro e sz a n c cs::r)):Own h (slC ro e sz (E5 a (decide (0<c)) (0*k)) 0 c []::r):=by
 cases a with
 | none =>
  obtain ⟨pq,o1⟩:=Own.ex o;have:=o1.pure;obtain ⟨rfl,rfl,rfl,h4⟩:=this;exact Own.inex (f:=fun pq=>slX ro e sz none 0 0 pq []) pq o1
 | some x =>
  obtain ⟨b,of,sp⟩:=x;obtain ⟨pre,post,o1,h1,h2,h3,h4,h5,h6,h7⟩:=Own.slOpen o
  have e1:E5 (some ⟨b,of,sp⟩) (decide (0<c)) (0*k)=some ⟨b,of,sp⟩:=by
   unfold E5;cases decide (0<c)<;>simp
  rw [e1];refine Own.slShut (pre:=pre) (cs:=[]) (post:=cs++post) (by simpa using o1) ⟨by simp,Nat.zero_le _,?_,h4,h5,h6,h7⟩;rw [List.length_append,← h1,Nat.sub_zero];rw [Nat.sub_mul] at h3;omega
theorem Jv2 {l r:List HP} {α:Type} {x:Option (α × H)} {h:H} {Q:α→H→Prop} (ro:Bool) (e:TypeId) (sz:Nat) (a:Option Addr) (n c k:Nat) (cs:List Value) [tk:Take (slC ro e sz a n c cs) l r] (t:Tr (slC ro e sz (E5 a (decide (0<c)) (0*k)) 0 c []::r) h x Q):Tr l h x Q:=fun o=>t (Own.cut0 (o.perm tk.pm))
theorem Kc5 {α:Type} (c:Nat) (k:Nat→Option α):Gg5 none c k=k c:=rfl
theorem Kb4 (e:TypeId) (h:NN.H):NN.fitsOpen none e h=true:=rfl
theorem ckT {α:Type} (x:Option α):NN.ckB true x=x:=rfl
abbrev z24:List Value:=[int 0,int 0,int 0,int 0,int 0,int 0,int 0,int 0,int 0,int 0,int 0,int 0,int 0,int 0,int 0,int 0,int 0,int 0,int 0,int 0,int 0,int 0,int 0,int 0]
theorem J21:Ct B0 O5 [.slice none 0 0,int 8] [] fun v own=>∃ x c,v=.slice x 0 c∧own [isC false x c []]:=by
 refine Co A51 (fun _=>Dd9 ..) fun h r=>?_;refine Yf rfl ?_;refine Yj A51 (B25 ..) ?_;simp only [Kc5,Kb4,ckT];refine Yt (by decide) ?_;refine Tr.ck (by decide) ?_;refine Tr.ck (by decide) ?_;refine (?_:Tr _ _ (NN.apd Q9 3 none 0 0 8 z24 _ _) _);refine G0 false Q9 3 (by omega) ?_;refine Tr.xApd ?_ (fun xx yy h=>?_);exact ⟨by first|rfl|simp,by first|rfl|simp,by simp only [B3];omega⟩;refine Je ?_
 have em:∀ u:Option Addr,∀ q:Bool,E5 u q (0*3)=u:=fun u q=>by
  cases u with
  | none=>rfl
  | some u=>obtain ⟨u1,u2,u3⟩:=u;cases q<;>simp [E5]
 refine Jc ?_;unhygienic intros;refine Jv2 false Q9 3 xx 8 yy 3 z24 ?_;rw [em];refine (?_:Tr (isC false xx yy []::_) _ _ _);refine Ys fun o=>?_;exact ⟨xx,yy,rfl,o.sub⟩
theorem Own.clip {ro:Bool} {e:TypeId} {sz n c k:Nat} {cs:List Value} {h:H} {r:List HP} {a:Option Addr} {q:Bool} (o:Own h (slC ro e sz a n c cs::r)):Own h (slC ro e sz (At6 (E5 a q (0*k))) n n cs::r):=by
 cases a with
 | none =>
  obtain ⟨pq,o1⟩:=Own.ex o;obtain ⟨rfl,rfl,rfl,h4⟩:=o1.pure;exact Own.inex (f:=fun pq=>slX ro e sz none 0 0 pq []) pq o1
 | some x =>
  obtain ⟨b,of,sp⟩:=x;obtain ⟨pre,post,o1,h1,h2,h3,h4,h5,h6,h6'⟩:=Own.slOpen o
  have e1:At6 (E5 (some ⟨b,of,sp⟩) q (0*k))=some ⟨b,of,none⟩:=by
   unfold E5;cases q<;>simp [At6,B4]
  rw [e1]
  exact Own.slShut (pre:=pre) (cs:=cs) (post:=post) o1 ⟨h1,Nat.le_refl _,by simp,fun hc=>h4 (by omega),by simp,h6,fun hc=>by
   by_cases h8:c=0
   ·exact h6' h8
   ·exact Nat.le_of_eq (h4 (by omega))⟩
theorem J09 {l r:List HP} {α:Type} {x:Option (α × H)} {h:H} {Q:α→H→Prop} (ro:Bool) (e:TypeId) (sz:Nat) (a:Option Addr) (n c k:Nat) (q:Bool) (cs:List Value) [tk:Take (slC ro e sz a n c cs) l r] (t:Tr (slC ro e sz (At6 (E5 a q (0*k))) n n cs::r) h x Q):Tr l h x Q:=fun o=>t (Own.clip (o.perm tk.pm))
abbrev cc5 (x1 x2 x3 x4 x5:Ao3):List Ao3:=[x1,x2,x3,x4,x5]
abbrev cc3 (x6 x7 x8:Ao3):List Ao3:=[x6,x7,x8]
theorem Jd4 (x1 x2 x3 x4 x5 x6 x7 x8:Ao3) (p:Nat) (a b:Option Addr) :
  Ct B0 D7 [.slice (some ⟨p,0,none⟩) 2 2] [pt p (.cells Gy6 false [.slice a 5 5,.slice b 3 3]),isC false a 5 (cc5 x1 x2 x3 x4 x5),isC false b 3 (cc3 x6 x7 x8)] fun v own=>∃ x c,v=.slice x 8 c ∧
   own [isC false x c ([x1,x2,x3,x4,x5,x6,x7,x8]),isC false a 5 (cc5 x1 x2 x3 x4 x5),isC false b 3 (cc3 x6 x7 x8)]:=by
 refine Co J4 (fun _=>B49 ..) fun h r=>?_;refine Yj J4 (Ad1 ..) ?_;refine Yt rfl ?_;refine Jd ?_;unhygienic intros;refine Yj J4 (Ad1 ..) ?_;refine Yt rfl ?_;refine Jd ?_;unhygienic intros;refine Yj J4 (Ad1 ..) ?_;refine Yf rfl ?_;rw [show IntKind.wrap .i64 (IntKind.wrap .i64 (0+((5:Nat):Int))+((3:Nat):Int))=8 by decide];refine Yc (J21) ?_;rintro _ h ⟨u,w,rfl,o⟩<;>refine Jh o ?_;refine Jc ?_;unhygienic intros;refine Yj J4 (Ad3 ..) ?_;refine Yt rfl ?_;refine Jd ?_;unhygienic intros;refine Tr.xApd ?_ (fun xa ya h=>?_);exact ⟨by first|rfl|simp,by first|rfl|simp,by simp only [B3];omega⟩;refine Je ?_;refine Yj J4 (Ad3 ..) ?_;refine Yt rfl ?_;refine Jd ?_;unhygienic intros;refine Tr.xApd ?_ (fun xb yb h=>?_);exact ⟨by first|rfl|simp,by first|rfl|simp,by simp only [B3];omega⟩;refine Je ?_;refine Yj J4 (Ad3 ..) ?_;refine Yf rfl ?_;refine (?_:Tr (isC false xb yb ([x1,x2,x3,x4,x5,x6,x7,x8])::_) _ _ _);refine Ys fun o=>?_;exact ⟨xb,yb,rfl,o.sub⟩
theorem Jr2 (cs:List Value) (x:Option Addr) (n c:Nat) (hc:n≤c):Ct B0 Z8 [.slice x n c] [slC false Q9 3 x n c cs] fun v own=>∃ y,v=.slice y n n∧own [slC false Q9 3 y n n cs]:=by
 refine Co De1 (fun _=>De0 ..) fun h r=>?_;refine Jc ?_;unhygienic intros;rw [Int.toNat_natCast]
 have em:At6 (E5 x true (0*3))=At6 x:=by
  cases x with
  | none=>rfl
  | some u=>obtain ⟨u1,u2,u3⟩:=u;simp [E5,At6,B4]
 refine J09 false Q9 3 x n c 3 true cs ?_;rw [em];refine Ys fun o=>?_;exact ⟨At6 x,rfl,o.sub⟩
theorem Jh9 (x1 x2 x3 x4 x5 x6 x7 x8:Ao3) (h1:Es4 (cc5 x1 x2 x3 x4 x5)) (h2:Es4 (cc3 x6 x7 x8)) (h3:Es4 [x1,x2,x3,x4,x5,x6,x7,x8]) (a b:Option Addr) :
  Ct B0 B63 [.slice a 5 5,.slice b 3 3] [isC false a 5 (cc5 x1 x2 x3 x4 x5),isC false b 3 (cc3 x6 x7 x8)] fun v own=>∃ x,v=.tuple ⟨[.slice x 8 8,.bool true]⟩∧own [isC false x 8 [x1,x2,x3,x4,x5,x6,x7,x8]]:=by
 refine Co Hy8 (fun _=>Hy5 ..) fun h r=>?_;refine Yn fun p h=>?_;refine Yc (Jd4 x1 x2 x3 x4 x5 x6 x7 x8 p a b) ?_;rintro _ h ⟨x,c,rfl,o⟩<;>refine Jh o ?_;refine Jc ?_;unhygienic intros;refine Yd (Df0 false a 5 (cc5 x1 x2 x3 x4 x5) (by simp) h1) fun h=>?_;refine Jb ?_;unhygienic intros;refine Yb (Yf rfl ?_);refine Yd (Df0 false b 3 (cc3 x6 x7 x8) (by simp) h2) fun h=>?_;refine Jb ?_;unhygienic intros;refine Yv ?_;refine Yb (Yf rfl ?_);refine Yd (Df0 false x c [x1,x2,x3,x4,x5,x6,x7,x8] (by simp) h3) fun h=>?_;refine Jb ?_;unhygienic intros;refine Yv ?_;refine Yf rfl ?_;refine S4 0 rfl fun h1 h2 h3=>?_;refine Yc (Jr2 (Hm7 [x1,x2,x3,x4,x5,x6,x7,x8]) x 8 c h2) ?_;rintro _ h ⟨y,rfl,o⟩<;>refine Jh o ?_;refine Jc ?_;unhygienic intros;refine (?_:Tr (isC false y 8 [x1,x2,x3,x4,x5,x6,x7,x8]::_) _ _ _);refine Ys fun o=>?_;exact ⟨y,rfl,o.sub⟩
def byN (view:List UInt8) (a:Int):Int:=if a<view.length then ((view.getD a.toNat 0).toNat:Int) else 0
def Dz8 (view:List UInt8) (now:Int) (i:Ao3) (n:Int):Int :=
 if i.1=1 then byN view i.2.1 else if i.1=2 then now else if i.1=3 then D5 .i64 n i.2.1 else if i.1=4 then (if n<i.2.1 then 1 else 0) else if i.1=7 then (if n=0 then 1 else 0) else n
def D12 (i:Ao3) (n:Int):Int:=if i.1=5∧n≠0 then i.2.1 else 0
abbrev mcC (m:Nat) (n:Int) (x:Option Addr) (vn vc:Nat) (now:Int):HP:=pt m (.cells Ex0 false [int n,.slice x vn vc,int now])
abbrev vwC (x:Option Addr) (vc:Nat) (view:List UInt8):HP:=slC false A9 1 x view.length vc (A0 view)
theorem Hd3 (z:Bool):Ct B0 Dh5 [.bool z] [] fun v own=>v=int (if z then 1 else 0)∧own []:=by
 refine Co I25 (fun _=>I24 ..) fun h r=>?_
 cases z with
 | true =>
  refine Yt rfl ?_;exact Yz
 | false =>
  refine Yf rfl ?_;exact Yz
theorem J48 (m:Nat) (n now:Int) (x:Option Addr) (vc:Nat) (view:List UInt8) (op a b:Int) (ha:0≤a) :
  Ct B0 Be1 [P0 m,.agg ⟨[int op,int a,int b]⟩] [mcC m n x view.length vc now,vwC x vc view] fun v own=>v=int (D12 (op,a,b) n)∧own [mcC m (Dz8 view now (op,a,b) n) x view.length vc now,vwC x vc view]:=by
 unfold Dz8 D12;dsimp only;refine Co Gx5 (fun _=>Gw3 ..) fun h r=>?_;refine Yn fun b1 h=>?_;refine Jb ?_;unhygienic intros;by_cases h1:op=1
 ·rw [if_pos h1,if_neg (fun k=>by omega)];refine Yt (by simpa using h1) ?_;refine Jb ?_;unhygienic intros;unfold byN;by_cases hlt:a<view.length
  ·rw [if_pos hlt];refine Yt (by simpa using hlt) ?_;have hk:0≤a∧a<view.length:=⟨ha,hlt⟩
   have hg:(A0 view)[a.toNat]?=some (.int .u8 ((view.getD a.toNat 0).toNat:Int)):=Ai6 (by omega);have hb:=(view.getD a.toNat 0).toNat_lt;have hw:IntKind.wrap .i64 ((view.getD a.toNat 0).toNat:Int)=((view.getD a.toNat 0).toNat:Int):=by rw [B8];omega
   (refine Ja ?_;unhygienic intros;repeat(refine Gw ?_;rintro px rfl;refine Ja ?_;unhygienic intros));rw [hw];simp only [List.set_cons_zero];exact Yz
  ·rw [if_neg hlt];refine Yf (by simpa using hlt) ?_;simp only [List.set_cons_zero];exact Yz
 rw [if_neg h1];refine Yf (by simpa using h1) ?_;by_cases h2:op=2
 ·rw [if_pos h2,if_neg (fun k=>by omega)];refine Yt (by simpa using h2) ?_;refine Ja ?_;unhygienic intros;simp only [List.set_cons_zero];exact Yz
 rw [if_neg h2];refine Yf (by simpa using h2) ?_;by_cases h3:op=3
 ·rw [if_pos h3,if_neg (fun k=>by omega)];refine Yt (by simpa using h3) ?_;refine Ja ?_;unhygienic intros;simp only [List.set_cons_zero];exact Yz
 rw [if_neg h3];refine Yf (by simpa using h3) ?_;by_cases h4:op=4
 ·rw [if_pos h4,if_neg (fun k=>by omega)];refine Yt (by simpa using h4) ?_;refine Ja ?_;unhygienic intros;refine Yd (Hd3 (decide (n<a))) fun h=>?_;refine Ja ?_;unhygienic intros;simp only [List.set_cons_zero,decide_eq_true_eq,beq_iff_eq];exact Yz
 rw [if_neg h4];refine Yf (by simpa using h4) ?_;by_cases h7:op=7
 ·rw [if_pos h7,if_neg (fun k=>by omega)];refine Yt (by simpa using h7) ?_;refine Ja ?_;unhygienic intros;refine Yd (Hd3 (n==0)) fun h=>?_;refine Ja ?_;unhygienic intros;simp only [List.set_cons_zero,decide_eq_true_eq,beq_iff_eq];exact Yz
 rw [if_neg h7];refine Yf (by simpa using h7) ?_;by_cases h5:op=5
 ·refine Yt (by simpa using h5) ?_;refine Jb ?_;unhygienic intros;by_cases h0:n=0
  ·rw [if_neg (fun k=>k.2 h0)];refine Yf (by simpa using h0) ?_;exact Yz
  ·rw [if_pos ⟨h5,h0⟩];refine Yt (by simpa using h0) ?_;refine Ja ?_;unhygienic intros;exact Yz
 ·rw [if_neg (fun k=>h5 k.1)];refine Yf (by simpa using h5) ?_;exact Yz
def evI (view:List UInt8) (now:Int) (l:List Ao3):Nat→Nat→Int→Bool
 | 0,_,_=>false
 | m+1,i,n=>match l[i]? with
  | none=>false
  | some x=>if x.1=6 then true else evI view now l m (i+(D12 x n).toNat+1) (Dz8 view now x n)
theorem J97 {x:Ao3} {n:Int} (h:okI x n=true):0≤x.2.1∧x.2.1≤65535:=by
 unfold okI at h;simp only [Bool.and_eq_true,Bool.not_eq_true',Bool.or_eq_false_iff,decide_eq_false_iff_not] at h;omega
theorem Hc8 (ro:Bool) (a:Option Addr) (c:Nat) (l:List Ao3) (hl:l.length≤32) (hk:Es4 l) (mb:Nat) (now:Int) (x:Option Addr) (vc:Nat) (view:List UInt8):∀ (m i:Nat) (n steps:Int),l.length≤i+m→i≤100000 →
  CtJ H0 A02 By9 [(2,.slice a l.length c),(8,P0 mb),(9,int steps),(10,int (i:Int))] [isC ro a c l,mcC mb n x view.length vc now,vwC x vc view] fun v own=>∃ s,v=.tuple ⟨[.bool (evI view now l m i n),int s]⟩∧own [isC ro a c l,vwC x vc view]
 | 0,i,n,steps,hi,h1=>by
  refine Cj Du8 (fun _=>Dr2 ..) fun h r=>?_;refine Yf (by simp;omega) ?_;refine Ys fun o=>?_;exact ⟨steps,rfl,o.sub⟩
 | m+1,i,n,steps,hi,h1=>by
  by_cases hlt:i<l.length
  case neg =>
   rw [show evI view now l (m+1) i n=false by unfold evI;rw [List.getElem?_eq_none (by omega)]];refine Cj Du8 (fun _=>Dr2 ..) fun h r=>?_;refine Yf (by simp;omega) ?_;refine Ys fun o=>?_;exact ⟨steps,rfl,o.sub⟩
  have hx:l[i]?=some l[i]:=List.getElem?_eq_getElem hlt;have hp:=Is4 hx;have hok:=J97 (hk i _ hx);generalize l[i]=ins at hx hp hok;obtain ⟨op,xa,xb⟩:=ins;simp only at hok;have hkr:0≤D12 (op,xa,xb) n∧D12 (op,xa,xb) n≤65535:=by unfold D12;split<;>(try simp only)<;>omega
  have hev:evI view now l (m+1) i n=if op=6 then true else evI view now l m (i+(D12 (op,xa,xb) n).toNat+1) (Dz8 view now (op,xa,xb) n):=by rw [evI,hx]
  have e1:IntKind.wrap .i64 (IntKind.wrap .i64 ((i:Int)+D12 (op,xa,xb) n)+1)=((i+(D12 (op,xa,xb) n).toNat+1:Nat):Int):=by rw [B8,B8];omega
  have hc0:(Hm7 l)[i*3+0]?=some (int op):=by
   have h9:=congrArg (fun z=>z[0]?) hp.2.2;simp only [List.getElem?_take,List.getElem?_drop] at h9;exact h9
  rw [hev];refine Cj Du8 (fun _=>Dr2 ..) fun h r=>?_;refine Yt (by simp;omega) ?_;(refine Jc ?_;unhygienic intros;repeat(refine Gw ?_;rintro px rfl;refine Jc ?_;unhygienic intros));rw [Int.toNat_natCast];by_cases h6:op=6
  ·rw [if_pos h6];refine Yt (by simpa using h6) ?_;refine Ys fun o=>?_;exact ⟨_,rfl,o.sub⟩
  rw [if_neg h6];refine Yf (by simpa using h6) ?_;refine Jc ?_;unhygienic intros;refine Tr.xAggS (xs:=Hl5 (op,xa,xb)) hp ?_;refine Yd (J48 mb n now x vc view op xa xb hok.1) fun h=>?_;refine Jc ?_;unhygienic intros;rw [e1];have ih:=Hc8 ro (some px) c l hl hk mb now x vc view m (i+(D12 (op,xa,xb) n).toNat+1) (Dz8 view now (op,xa,xb) n) (IntKind.wrap .i64 (steps+1)) (by omega) (by omega);refine Yr (ih) ?_;rintro _ h ⟨s,rfl,o⟩;exact ⟨s,rfl,o.sub⟩
theorem J08 (ro:Bool) (a:Option Addr) (c:Nat) (l:List Ao3) (hl:l.length≤32) (hk:Es4 l) (now:Int) (x:Option Addr) (vc:Nat) (view:List UInt8) :
  Ct B0 A02 [.slice x view.length vc,int now,.slice a l.length c] [isC ro a c l,vwC x vc view] fun v own=>∃ s,v=.tuple ⟨[.bool (evI view now l l.length 0 0),int s]⟩∧own [isC ro a c l,vwC x vc view]:=by
 refine Co Du8 (fun _=>Io3 ..) fun h r=>?_;refine Yd (Df0 ro a c l hl hk) fun h=>?_;refine Jc ?_;unhygienic intros;refine Yf rfl ?_;refine Yn fun mb h=>?_;have J:=Hc8 ro a c l hl hk mb now x vc view l.length 0 0 0 (by omega) (by omega);rw [show ((0:Nat):Int)=0 from rfl] at J;refine Yr (J) ?_;rintro _ h ⟨s,rfl,o⟩;exact ⟨s,rfl,o.sub⟩
abbrev De7 (p w:Int):List Ao3:=[(1,p,0),(3,255,0),(7,0,0),(5,1,0),(6,0,0),(1,w,0),(5,1,0),(6,0,0)]
theorem Jw2 (view:List UInt8) (now p w:Int) (hp:0≤byN view p∧byN view p<256):evI view now (De7 p w) 8 0 0=(decide (byN view p≠0) || decide (byN view w=0)):=by
 have hA:D5 .i64 (byN view p) 255=byN view p:=by rw [Ef4];omega
 have h1:∀ (k m i:Nat) (n:Int) (x:Ao3),(De7 p w)[i]?=some x→x.1≠6→D12 x n=k→evI view now (De7 p w) (m+1) i n=evI view now (De7 p w) m (i+k+1) (Dz8 view now x n):=fun k m i n x hx h6 hk=>by
  rw [evI,hx];simp only;rw [if_neg h6,hk,Int.toNat_natCast]
 have h6:∀ (m i:Nat) (n:Int) (x:Ao3),(De7 p w)[i]?=some x→x.1=6→evI view now (De7 p w) (m+1) i n=true:=fun m i n x hx h6=>by
  rw [evI,hx];simp only;rw [if_pos h6]
 rw [h1 0 7 0 0 (1,p,0) rfl (show (1:Int)≠6 by decide) rfl,show Dz8 view now (1,p,0) 0=byN view p from rfl,
  h1 0 6 1 _ (3,255,0) rfl (by decide) rfl,show Dz8 view now (3,255,0) (byN view p)=D5 .i64 (byN view p) 255 from rfl,hA,
  h1 0 5 2 _ (7,0,0) rfl (by decide) rfl,show Dz8 view now (7,0,0) (byN view p)=(if byN view p=0 then 1 else 0) from rfl]
 by_cases hz:byN view p=0
 ·rw [if_pos hz,h1 1 4 3 1 (5,1,0) rfl (by decide) rfl,show Dz8 view now (5,1,0) 1=1 from rfl,
   h1 0 3 5 1 (1,w,0) rfl (show (1:Int)≠6 by decide) rfl,show Dz8 view now (1,w,0) 1=byN view w from rfl,hz]
  by_cases hw:byN view w=0
  ·rw [hw,h1 0 2 6 0 (5,1,0) rfl (by decide) rfl,h6 _ _ _ (6,0,0) rfl rfl];rfl
  ·rw [h1 1 2 6 _ (5,1,0) rfl (by decide) (by unfold D12;rw [if_pos ⟨rfl,hw⟩];rfl)];rw [show evI view now (De7 p w) 2 (6+1+1) (Dz8 view now (5,1,0) (byN view w))=false from rfl];simp [hw]
 ·rw [if_neg hz,h1 0 4 3 0 (5,1,0) rfl (by decide) rfl,h6 _ _ _ (6,0,0) rfl rfl];simp [hz]
theorem Ka0 {F:Fr} (k:FrOk F) {m:List (List UInt8)} (f:Fit F.S.mem.length F.rg m) (h492:(m.getD 0 []).length=492) :
  Z1 (F.at m) F.env ⟨1,F.caps.getD 0 0,0,492,0,0,[]⟩=((0,0,m.getD 0 []),F.at m):=by
 obtain ⟨lo,z,cap,hc,hr,ha,hx,hl,hz,rfl⟩:=Eb5 k f (r:=⟨5,0⟩) (j:=0) (a:=488) (n:=4) rfl;obtain rfl:z=492:=by omega
 have hp:=k.pl 0 _ lo 492 hc hr 0 492 1 (.inl rfl) (by omega);have lp:=B90 f;have hs:slice (m.getD 0 []) 0 492=m.getD 0 []:=by unfold slice;rw [List.drop_zero,List.take_of_length_le (by omega)]
 have hb:De4 (Y3 F.S.mem F.rg m) ((lo+0:Nat):Int) ((492:Nat):Int)=some (m.getD 0 []):=by
  unfold De4;rw [if_pos (by rw [lp];omega),Int.toNat_natCast,Int.toNat_natCast];have:=Hh8 f k.dj hr hx (show 0+492≤492 by omega);rw [hs] at this;rw [← this];rfl
 have e:Aq4 (F.at m).tabs (F.at m).regs (F.at m).mem F.env (F.caps.getD 0 0) 0 492=(m.getD 0 [],0):=by
  unfold Aq4;rw [show V6 (F.at m).tabs (F.at m).regs F.env (F.caps.getD 0 0) 1 0 492=(((lo+0:Nat):Int),0) from hp];rw [if_neg (by simp),show De4 (F.at m).mem (((lo+0:Nat):Int),(0:Int)).1 492=some (m.getD 0 []) from hb]
 unfold Z1;rw [if_neg (show ¬ (F.env<0∨F.env≥((F.at m).envs.length:Int)) from k.env)];unfold kDo;rw [if_pos rfl,e]
theorem Jv8 (c k:Nat) (F:Fr) (X:CX) (ok:FrOk F) (h492:(X.m.getD 0 []).length=492):Ct B0 Ar0 [P0 c] [cmC c k F X] fun v own=>∃ x d,v=.slice x (X.m.getD 0 []).length d∧own [vwC x d (X.m.getD 0 []),cmC c k F X]:=by
 refine Co Et8 (fun _=>Ev0 ..) fun h r=>?_;refine B6 (cmC c k F X) fun u=>?_;refine Je ?_;refine P9 2 rfl fun f=>?_;refine B6 (Z6 c k F.env F.caps X.bad) fun ⟨ca,cn,mb⟩=>?_;refine Je ?_;have hne:=ok.ne;have hcc:F.caps[0]?=some (F.caps.getD 0 0):=by rw [List.getD_eq_getElem?_getD,List.getElem?_eq_getElem hne];rfl
 have hg:(F.caps.map int)[0]?=some (int (F.caps.getD 0 0)):=by rw [List.getElem?_map,hcc];rfl
 have hk:(0:Int)≤0∧0<(F.caps.length:Int):=⟨Int.le_refl _,by omega⟩
 (refine Ja ?_;unhygienic intros;repeat(refine Gw ?_;rintro px rfl;refine Ja ?_;unhygienic intros));refine B1 (Z6 c k F.env F.caps X.bad) ⟨some px,cn,mb⟩ ?_;refine Je ?_;have J:=Gs1 k (F.at X.m) F.N (F.at_ok ok f) ok.hN F.env 1 (F.caps.getD 0 0) 0 492 0 0 (by decide);rw [Ka0 ok f h492] at J;refine Yc (J) ?_;rintro _ h ⟨y,d,rfl,o⟩<;>(refine Jf o ?_;unhygienic intros);refine Jc ?_;unhygienic intros;refine B1 (cmC c k F X) () ?_;refine Je ?_;refine Ys fun o=>?_;exact ⟨y,d,rfl,o.sub⟩
theorem J40 {X:CX} {V:VW} (A:See X V) {pi:Int} (hpi:0≤pi∧pi<4) {q:PipeS} (hq:V.P pi=(q,1)):byN (X.m.getD 0 []) (288+40*pi+2)=q.count∧byN (X.m.getD 0 []) (288+40*pi+4)=q.writers:=by
 have e:V9 (rd X ⟨3,pi⟩)=(q,1):=(A.p pi (by omega)).trans hq;have hl:=A.c.len;have h492:=A.c.own
 have hr:rd X ⟨3,pi⟩=slice (X.m.getD 0 []) (288+40*pi.toNat) 40:=by
  unfold rd;rw [hl,show L0 3 ⟨3,pi⟩=some (0,288+40*pi.toNat,40) by unfold L0 Ab4;simp only;rw [if_neg (by simp;omega),if_neg (by decide),if_neg (by decide),if_pos trivial,if_pos hpi.2]]
 have hg:Bm4 (rd X ⟨3,pi⟩)=q:=by
  unfold V9 at e
  split at e
  ·cases e
  ·split at e
   ·exact congrArg Prod.fst e
   ·cases e
 have at_:∀ j:Nat,j<40→byN (X.m.getD 0 []) (288+40*pi+j)=byI (rd X ⟨3,pi⟩) j:=fun j hj=>by
  unfold byN byI;rw [if_pos (by omega),hr];unfold slice;rw [show (288+40*pi+(j:Int)).toNat=288+40*pi.toNat+j by omega];simp only [List.getD_eq_getElem?_getD,List.getElem?_take,List.getElem?_drop];rw [if_pos hj]
 exact ⟨(at_ 2 (by omega)).trans (by rw [← hg];rfl),(at_ 4 (by omega)).trans (by rw [← hg];rfl)⟩
theorem H49 {p w:Int} (hp:0≤p∧p≤65535) (hw:0≤w∧w≤65535):Es4 (De7 p w)∧Es4 (Jp0 p 255)∧Es4 (cc3 (1,w,0) (5,1,0) (6,0,0)):=by
 refine ⟨fun i x hx=>?_,fun i x hx=>?_,fun i x hx=>?_⟩
 all_goals
  have hlt:=(List.getElem?_eq_some_iff.1 hx).1;simp only [List.length_cons,List.length_nil,Nat.zero_add,Nat.reduceAdd] at hlt ⊢
 ·obtain rfl|rfl|rfl|rfl|rfl|rfl|rfl|rfl:i=0∨i=1∨i=2∨i=3∨i=4∨i=5∨i=6∨i=7:=by omega
  all_goals (cases hx;unfold okI;simp;try omega)
 ·obtain rfl|rfl|rfl|rfl|rfl:i=0∨i=1∨i=2∨i=3∨i=4:=by omega
  all_goals (cases hx;unfold okI;simp;try omega)
 ·obtain rfl|rfl|rfl:i=0∨i=1∨i=2:=by omega
  all_goals (cases hx;unfold okI;simp;try omega)
theorem Jw8 (c k:Nat) (F:Fr) (X:CX) (ok:FrOk F) {V:VW} (A:See X V) {i:Int} (hi:0≤i∧i<8) (fd b:Int) (da:Option Addr) (dn dc:Nat) {f pi refs nw:Int} (ho:ofW V i fd=((f,⟨1,pi,refs,nw⟩),0)) (hpi:0≤pi∧pi<4) :
  Ct B0 Dh3 [P0 c,int i,.agg ⟨[int 10,int fd,int b,.slice da dn dc]⟩] [cmC c k F X] fun v own=>∃ x,v=.slice x 8 8∧own [cmC c k F X,isC false x 8 (De7 (288+40*pi+2) (288+40*pi+4))]:=by
 have eo:=A.ofv hi fd;have e1:IntKind.wrap .i64 (IntKind.wrap .i64 (288+IntKind.wrap .i64 (40*pi))+2)=288+40*pi+2:=by simp only [B8];omega
 have e2:IntKind.wrap .i64 (IntKind.wrap .i64 (288+IntKind.wrap .i64 (40*pi))+4)=288+40*pi+4:=by simp only [B8];omega
 refine Co H67 (fun _=>H23 ..) fun h r=>?_;refine Yn fun b1 h=>?_;refine Yd (Ag5 c k F X ok) fun h=>?_;rw [Q8 A.c];refine Jc ?_;unhygienic intros;refine Yn fun b2 h=>?_;refine Jc ?_;unhygienic intros;refine Yf rfl ?_;refine Jc ?_;unhygienic intros;refine Yd (Jt6 c k F X ok A.c i fd hi) fun h=>?_;rw [eo,ho];dsimp only;refine Jc ?_;unhygienic intros;refine Yn fun b3 h=>?_;refine Jb ?_;unhygienic intros;obtain ⟨k1,k2,k3⟩:=H49 (p:=288+40*pi+2) (w:=288+40*pi+4) (by omega) (by omega);refine Yb (Yt rfl ?_);refine Jb ?_;unhygienic intros;refine Yv ?_;refine Yf rfl ?_;refine Yb (Yf rfl ?_);refine Jb ?_;unhygienic intros;refine Yv ?_;refine Yb (Yf rfl ?_);refine Jb ?_;unhygienic intros;refine Yv ?_;refine Yf (decide_eq_false (by omega)) ?_;refine Jb ?_;unhygienic intros;rw [e1,e2];refine Yc (Iv6 (288+40*pi+2) 255 (by omega) (by omega)) ?_;rintro _ h ⟨x,rfl,o⟩<;>refine Jh o ?_;refine Jc ?_;unhygienic intros;refine Yn fun b4 h=>?_;refine Jc ?_;unhygienic intros;refine Ag4 0 rfl 3 3 rfl (by omega) ?_;refine (?_:Tr (isC false (some ⟨b4,0,none⟩) 3 (cc3 (1,288+40*pi+4,0) (5,1,0) (6,0,0))::_) _ _ _);refine Yc (Jh9 (1,288+40*pi+2,0) (3,255,0) (7,0,0) (5,1,0) (6,0,0) (1,288+40*pi+4,0) (5,1,0) (6,0,0) k2 k3 k1 x (some ⟨b4,0,none⟩)) ?_;rintro _ h ⟨y,rfl,o⟩<;>refine Jh o ?_;refine Jc ?_;unhygienic intros;refine Ys fun o=>?_;exact ⟨y,rfl,o.sub⟩
theorem Jc1 (p:ProcS) (h0:p.state≠1∨Bs3 p=0):Ct B0 Ar1 [.agg ⟨B5 p⟩] [] fun v own=>v=.bool false∧own []:=by
 refine Co G04 (fun _=>Gx9 ..) fun h r=>?_;refine Yn fun b h=>?_;refine Jc ?_;unhygienic intros;refine Yd (H85 p h0) fun h=>?_;refine Jc ?_;unhygienic intros;exact Yz
theorem Hs4 (p:ProcS) {n:Int} (s:SigT n) (h1:p.state=1) (ho:Bs3 p=M0 n):Ct B0 Ar1 [.agg ⟨B5 p⟩] [gC] fun v own=>v=.bool (decide (E10 p n>1))∧own [gC]:=by
 refine Co G04 (fun _=>Gx9 ..) fun h r=>?_;refine Yn fun b h=>?_;refine Jc ?_;unhygienic intros;refine Yd (G78 p s h1 ho) fun h=>?_;refine Jc ?_;unhygienic intros;exact Yz
theorem J16 (c k:Nat) (F:Fr) (X:CX):Ct B0 A76 [P0 k] [cmC c k F X] fun v own=>v=int F.S.now∧own [cmC c k F X]:=by
 intro h r o;obtain ⟨u,o1⟩:=Own.unfold (cmC c k F X) o;have e:=Jz5 k (F.at X.m) h _ (o1.picks [0] rfl);exact ⟨_,h,e,rfl,o⟩
abbrev Hl4 (q:PipeS):Bool:=decide (q.count≠0) || decide (q.writers=0)
section
variable {S:KS} (B:Base S) (q k N:Nat) {j:Int} (hj:0≤j∧j<4) (y:HoS) (T:SectS) (t:Int) (ok:TOk N T t) {X:CX} {V:VW} (A:See X V) {p:ProcS}
include B hj ok A
theorem Jz6 (h0:p.state≠1∨Bs3 p=0) (h10:y.op=10) {f pi refs nw:Int} (ho:ofW V j y.a=((f,⟨1,pi,refs,nw⟩),0)) (hpi:0≤pi∧pi<4) {qp:PipeS} (hq:V.P pi=(qp,1)) :
  Ct B0 Ap0 [P0 q,.agg ⟨B5 p⟩] [hoC q k j y,kmC S k T t X.m] fun v own=>v=E29∧own [hoC q k j { y with phase:=if Hl4 qp then 1 else y.phase },kmC S k T t X.m]:=by
 have fo:=A71 B ok (Dq7 hj);obtain ⟨w1,w2⟩:=J40 A hpi hq;obtain ⟨k1,k2,k3⟩:=H49 (p:=288+40*pi+2) (w:=288+40*pi+4) (by omega) (by omega);have h492:=A.c.own
 have hcnt:0≤qp.count∧qp.count≤255:=by
  have e:=A.p pi (by omega);rcases Hc5 A.c (i:=pi) (by omega) with ⟨h1,_⟩|⟨_,h1⟩
  ·rw [e,hq] at h1;cases h1
  ·rw [e,hq] at h1;have:=(Ea2 (p:=qp) h1).2.1;omega
 have hev:=Jw2 (X.m.getD 0 []) t (288+40*pi+2) (288+40*pi+4) (by rw [w1];omega);rw [w1,w2] at hev;obtain ⟨yc,yph,yst,yop,ya,yb,yd⟩:=y;simp only at h10 ho ⊢;subst h10;refine Co Dn8 (fun _=>Dn5 ..) fun h r=>?_;refine Yn fun b1 h=>?_;refine Yn fun b2 h=>?_;refine Jc ?_;unhygienic intros;refine Yd (Jc1 p h0) fun h=>?_;refine Jc ?_;unhygienic intros;refine B6 (hoC q k j ⟨yc,yph,yst,10,ya,yb,yd⟩) fun ⟨ha,hc⟩=>?_;refine Je ?_;refine Jc ?_;unhygienic intros;refine B04 S yc k N T t j X.m ?_;rw [A.eX];refine Yc (Jv8 yc k (frH S T t N j) X fo h492) ?_;rintro _ h ⟨x,d,rfl,o⟩<;>refine Jh o ?_;refine Jc ?_;unhygienic intros;simp only [List.take_succ_cons,List.take_zero,List.drop_succ_cons,List.drop_zero];refine Jc ?_;unhygienic intros;refine Yd (J16 yc k (frH S T t N j) X) fun h=>?_;refine Jc ?_;unhygienic intros;simp only [List.take_succ_cons,List.take_zero,List.drop_succ_cons,List.drop_zero];refine Jc ?_;unhygienic intros;refine Yc (Jw8 yc k (frH S T t N j) X fo A (by omega) ya yb ha yd.length hc ho hpi) ?_;rintro _ h ⟨z,rfl,o⟩<;>refine Jh o ?_;refine Jc ?_;unhygienic intros;refine Yc (J08 false z 8 (De7 (288+40*pi+2) (288+40*pi+4)) (by simp) k1 (frH S T t N j).S.now x d (X.m.getD 0 [])) ?_;rintro _ h ⟨s,rfl,o⟩<;>refine Jh o ?_;rw [show (De7 (288+40*pi+2) (288+40*pi+4)).length=8 from rfl,show (frH S T t N j).S.now=t from rfl,hev,show (decide (qp.count≠0) || decide (qp.writers=0))=Hl4 qp from rfl];refine Bt6 S yc k N T t j X A.c.bad ?_;refine Jc ?_;unhygienic intros
 cases Hl4 qp with
 | true =>
  rw [if_pos rfl];refine Jc ?_;unhygienic intros;simp only [List.set_cons_zero,List.set_cons_succ];refine B1 (hoC q k j ⟨yc,1,yst,10,ya,yb,yd⟩) (ha,hc) ?_;refine Je ?_;exact Yz
 | false =>
  rw [if_neg (by simp)];refine Jc ?_;unhygienic intros;refine B1 (hoC q k j ⟨yc,yph,yst,10,ya,yb,yd⟩) (ha,hc) ?_;refine Je ?_;exact Yz
end
end Go.EQ

set_option maxRecDepth 10000
namespace Go.EQ
open Go Go.NN Go.Proofs
abbrev H06 (p:ProcS) (n how:Int):ProcS :=
 ⟨p.state,p.parent,p.group,p.code,if how=1 then J8 .i64 p.pending (M0 n) else p.pending,p.mask,if how=1 then Bb7 .i64 (J8 .i64 p.ignored (M0 n)) (M0 n) else J8 .i64 p.ignored (M0 n),if how=2 then Bb7 .i64 (J8 .i64 p.caught (M0 n)) (M0 n) else J8 .i64 p.caught (M0 n),p.fds,p.len⟩
theorem Jd5 (p:ProcS) {n how:Int} (hn:1≤n∧n≤15) (hb:D5 .i64 (M0 n) 16896=0) (hh:0≤how∧how≤2):Ct B0 Bw6 [.agg ⟨B5 p⟩,int n,int how] [] fun v own=>v=.tuple ⟨[.agg ⟨B5 (H06 p n how)⟩,int 0]⟩∧own []:=by
 obtain ⟨e1,e2⟩:=Gt5 hn;refine Co Id2 (fun _=>H31 ..) fun h r=>?_;refine Yn fun b0 h=>?_;refine Yn fun b1 h=>?_;refine Yd (Hr2 n) fun h=>?_;rw [decide_eq_true hn,e1];obtain ⟨st,pa,gr,co,pe,ma,ig,ca,fds,len⟩:=p;unfold H06;dsimp only;generalize M0 n=b at hb ⊢;refine Jb ?_;unhygienic intros;refine Yb (Yf rfl (Tr.ck e2 ?_));rw [hb];refine Yv ?_;refine Yb (Yf rfl ?_);refine Yv ?_;refine Yb (Yf (decide_eq_false (by omega)) ?_);refine Yv ?_;refine Yf (decide_eq_false (by omega)) ?_;refine Tr.ck e2 ?_;obtain rfl|rfl|rfl:how=0∨how=1∨how=2:=by omega
 ·refine Jd ?_;unhygienic intros;refine (?_:Tr (_::pt _ (.cells B2 false (B5 ⟨st,pa,gr,co,pe,ma,J8 .i64 ig b,J8 .i64 ca b,fds,len⟩))::_) _ _ _);generalize hp2:(⟨st,pa,gr,co,pe,ma,J8 .i64 ig b,J8 .i64 ca b,fds,len⟩:ProcS)=p2;refine Ja ?_;unhygienic intros;refine Ys fun o=>?_;exact ⟨by rw [← hp2];rfl,o.sub⟩
 ·refine Jd ?_;unhygienic intros;refine (?_:Tr (_::pt _ (.cells B2 false (B5 ⟨st,pa,gr,co,J8 .i64 pe b,ma,Bb7 .i64 (J8 .i64 ig b) b,J8 .i64 ca b,fds,len⟩))::_) _ _ _);generalize hp2:(⟨st,pa,gr,co,J8 .i64 pe b,ma,Bb7 .i64 (J8 .i64 ig b) b,J8 .i64 ca b,fds,len⟩:ProcS)=p2;refine Ja ?_;unhygienic intros;refine Ys fun o=>?_;exact ⟨by rw [← hp2];rfl,o.sub⟩
 ·refine Jd ?_;unhygienic intros;refine (?_:Tr (_::pt _ (.cells B2 false (B5 ⟨st,pa,gr,co,pe,ma,J8 .i64 ig b,Bb7 .i64 (J8 .i64 ca b) b,fds,len⟩))::_) _ _ _);generalize hp2:(⟨st,pa,gr,co,pe,ma,J8 .i64 ig b,Bb7 .i64 (J8 .i64 ca b) b,fds,len⟩:ProcS)=p2;refine Ja ?_;unhygienic intros;refine Ys fun o=>?_;exact ⟨by rw [← hp2];rfl,o.sub⟩
abbrev Iz3 (p:ProcS) (m:Int):ProcS:=⟨p.state,p.parent,p.group,p.code,p.pending,J8 .i64 (D5 .i64 m 65534) 16896,p.ignored,p.caught,p.fds,p.len⟩
theorem Ju7 (p:ProcS) {m:Int} (hm:0≤m∧m≤65535):Ct B0 Dk2 [.agg ⟨B5 p⟩,int m] [] fun v own=>v=.tuple ⟨[.agg ⟨B5 (Iz3 p m)⟩,int p.mask,int 0]⟩∧own []:=by
 obtain ⟨st,pa,gr,co,pe,ma,ig,ca,fds,len⟩:=p;unfold Iz3;dsimp only;refine Co Iv8 (fun _=>Iw3 ..) fun h r=>?_;refine Yn fun b0 h=>?_;refine Yn fun b1 h=>?_;refine Yb (Yf (by simp;omega) ?_);refine Yv ?_;refine Yf (by simp;omega) ?_;refine Jd ?_;unhygienic intros;refine (?_:Tr (_::pt _ (.cells B2 false (B5 ⟨st,pa,gr,co,pe,J8 .i64 (D5 .i64 m 65534) 16896,ig,ca,fds,len⟩))::_) _ _ _);generalize hp2:(⟨st,pa,gr,co,pe,J8 .i64 (D5 .i64 m 65534) 16896,ig,ca,fds,len⟩:ProcS)=p2;refine Ja ?_;unhygienic intros;exact Yz
section
variable {c k:Nat} {F:Fr} {X:CX} {V V':VW} (ok:FrOk F) (A:See X V) {i:Int} (hi:0≤i∧i<8) {n e:Int}
include ok A hi
theorem J30 {p p':ProcS} (hv:V.S i=(p,1)) (hs:p.state=1) {a b:Int} (J:Ct B0 Bw6 [.agg ⟨B5 p⟩,int a,int b] [] fun v own=>v=.tuple ⟨[.agg ⟨B5 p'⟩,int 0]⟩∧own []) (k1:okS p'=true) (k2:InS p') (d:List UInt8):DoJ c k F X (wS V i p') i 7 a b d 0 0 [] false:=by
 intro da dc;have es:=A.self hi;have e2:S6 V i=(p,0):=by unfold S6;rw [hv,if_pos ⟨rfl,hs⟩]
 rw [e2] at es;have w:=O7 A.c (i:=i) hi k1 k2;have sm:=A.ws hi k1 k2;refine Co Bk2 (fun _=>Bk3 ..) fun h r=>?_;refine Yn fun b1 h=>?_;refine Yn fun b2 h=>?_;refine Yd (Ag5 c k F X ok) fun h=>?_;rw [Q8 A.c];refine Jc ?_;unhygienic intros;refine Yd (Ds1 (by omega) a b da d.length dc) fun h=>?_;refine Jc ?_;unhygienic intros;refine Yn fun b3 h=>?_;refine Jd ?_;unhygienic intros;refine Yc (?_:Ct B0 W9 [P0 c,int i,.agg ⟨[int 7,int a,int b,.slice da d.length dc]⟩] [cmC c k F X] fun v own=>v=.agg ⟨I2 0 0 false⟩∧own [cmC c k F (As5 X i p')]) ?_
 ·refine Co B56 (fun _=>Er2 ..) fun h r=>?_;refine Yn fun b1 h=>?_;refine Yn fun b2 h=>?_;refine Yd (B02 c k F X ok A.c i hi) fun h=>?_;rw [es];refine Jc ?_;unhygienic intros;refine Yn fun b3 h=>?_;refine Jd ?_;unhygienic intros;refine Yd J fun h=>?_;refine Jc ?_;unhygienic intros;refine Yj B56 (Ey9 ..) ?_;refine Jd ?_;unhygienic intros;refine Yd (Ah8 c k F X ok i p') fun h=>?_;rw [w.1];refine Jd ?_;unhygienic intros;exact Yz
 rintro _ h ⟨rfl,o⟩;refine (?_:Tr _ _ _ _) o;refine Je ?_;refine Jc ?_;unhygienic intros;refine Bh5 ?_;refine Ys fun o=>?_;exact ⟨none,0,_,sm,rfl,o.sub⟩
theorem Jz1 {p p':ProcS} (hv:V.S i=(p,1)) (hs:p.state=1) {a:Int} (J:Ct B0 Dk2 [.agg ⟨B5 p⟩,int a] [] fun v own=>v=.tuple ⟨[.agg ⟨B5 p'⟩,int n,int 0]⟩∧own []) (k1:okS p'=true) (k2:InS p') (b:Int) (d:List UInt8):DoJ c k F X (wS V i p') i 6 a b d n 0 [] false:=by
 intro da dc;have es:=A.self hi;have e2:S6 V i=(p,0):=by unfold S6;rw [hv,if_pos ⟨rfl,hs⟩]
 rw [e2] at es;have w:=O7 A.c (i:=i) hi k1 k2;have sm:=A.ws hi k1 k2;refine Co Bk2 (fun _=>Bk3 ..) fun h r=>?_;refine Yn fun b1 h=>?_;refine Yn fun b2 h=>?_;refine Yd (Ag5 c k F X ok) fun h=>?_;rw [Q8 A.c];refine Jc ?_;unhygienic intros;refine Yd (Ds1 (by omega) a b da d.length dc) fun h=>?_;refine Jc ?_;unhygienic intros;refine Yn fun b3 h=>?_;refine Jd ?_;unhygienic intros;refine Yc (?_:Ct B0 W9 [P0 c,int i,.agg ⟨[int 6,int a,int b,.slice da d.length dc]⟩] [cmC c k F X] fun v own=>v=.agg ⟨I2 n 0 false⟩∧own [cmC c k F (As5 X i p')]) ?_
 ·refine Co B56 (fun _=>Er2 ..) fun h r=>?_;refine Yn fun b1 h=>?_;refine Yn fun b2 h=>?_;refine Yd (B02 c k F X ok A.c i hi) fun h=>?_;rw [es];refine Jc ?_;unhygienic intros;refine Yn fun b3 h=>?_;refine Jd ?_;unhygienic intros;refine Yd J fun h=>?_;refine Jc ?_;unhygienic intros;refine Yj B56 (Ey9 ..) ?_;refine Jd ?_;unhygienic intros;refine Yd (Ah8 c k F X ok i p') fun h=>?_;rw [w.1];refine Jd ?_;unhygienic intros;exact Yz
 rintro _ h ⟨rfl,o⟩;refine (?_:Tr _ _ _ _) o;refine Je ?_;refine Jc ?_;unhygienic intros;refine Bh5 ?_;refine Ys fun o=>?_;exact ⟨none,0,_,sm,rfl,o.sub⟩
theorem Jy2 {a b:Int} (d:List UInt8) (hR:Gs8 V i=(I2 n e false,V')):DoJ c k F X V' i 4 a b d n e [] false:=by
 intro da dc;have P:=A.wait hi;rw [hR] at P;refine Co Bk2 (fun _=>Bk3 ..) fun h r=>?_;refine Yn fun b1 h=>?_;refine Yn fun b2 h=>?_;refine Yd (Ag5 c k F X ok) fun h=>?_;rw [Q8 A.c];refine Jc ?_;unhygienic intros;refine Yd (Ds1 (by omega) a b da d.length dc) fun h=>?_;refine Jc ?_;unhygienic intros;refine Yn fun b3 h=>?_;refine Jd ?_;unhygienic intros;refine Yd (Jv1 c k F X ok A.c i hi) fun h=>?_;rw [P.1];refine Jc ?_;unhygienic intros;refine Bh5 ?_;refine Ys fun o=>?_;exact ⟨none,0,_,P.2,rfl,o.sub⟩
end
end Go.EQ

set_option maxRecDepth 10000
namespace Go.EQ
open Go Go.NN Go.Proofs
section
variable {S:KS} (B:Base S)
include B
theorem Jk4 (q k N:Nat) {j:Int} (hj:0≤j∧j<4) (y:HoS) (T:SectS) (t:Int) (ok:TOk N T t) {V V':VW} {p p':ProcS} (hv:V.S j=(p,1)) (hs:p.state=1) {n:Int} (hn:0<n∧n≤15) (J:H38 p p' [] n) (k1:okS p'=true) (k2:InS p') {ret:List Value} (hx:Gt1 (wS V j p') j (128+n)=(ret,V')):Hm3 S q k N j y T t V V' [] n:=by
 intro X A s slot op a b da dn dc rn e xa xn xc back;have fo:=A71 B ok (Dq7 hj);have e0:=A.s j (by omega);rw [hv] at e0;have w:=O7 A.c (i:=j) (by omega) k1 k2;have sm:=A.ws (i:=j) (by omega) k1 k2;have ex:=sm.exit (i:=j) (by omega) (128+n);rw [hx] at ex;refine Co Dl3 (fun _=>Dl8 ..) fun h r=>?_;refine Yn fun b1 h=>?_;refine Yn fun b2 h=>?_;refine B6 (hoC q k j y) fun ⟨ha,hc⟩=>?_;refine Je ?_;refine Jc ?_;unhygienic intros;refine Yn fun b3 h=>?_;refine B04 S y.c k N T t j X.m ?_;rw [A.eX];refine Yd (Aa6 y.c k (frH S T t N j) X fo j) fun h=>?_;rw [O8 A.c (by omega),e0];dsimp only;refine Jb ?_;unhygienic intros;refine Yb (Yf rfl ?_);refine Jb ?_;unhygienic intros;refine Yv ?_;rw [hs];refine Yf rfl ?_;refine Jc ?_;unhygienic intros;refine Yc (J) ?_;rintro _ h ⟨x,sc,rfl,o⟩<;>refine Jh o ?_;refine Jc ?_;unhygienic intros;refine Yd (Ah8 y.c k (frH S T t N j) X fo j p') fun h=>?_;rw [w.1];refine Jc ?_;unhygienic intros;refine Yt (by simp;omega) ?_;refine Jc ?_;unhygienic intros;rw [show IntKind.wrap .i64 (128+n)=128+n by rw [B8];omega];refine Yd (Jz2 y.c k (frH S T t N j) (As5 X j p') fo sm.c j (128+n) (by omega)) fun h=>?_;refine Jc ?_;unhygienic intros;refine Bt6 S y.c k N T t j (E21 3 (As5 X j p') j (128+n)).2 ex.2.c.bad ?_;refine B1 (hoC q k j y) (ha,hc) ?_;refine Je ?_;refine Ys fun o=>?_;exact ⟨_,x,sc,ex.2,rfl,o.sub⟩
end
section
variable {S:KS} (B:Base S) (q k N:Nat) {j:Int} (hj:0≤j∧j<4) (y:HoS) (T:SectS) (t:Int) (ok:TOk N T t) {X:CX} {V:VW} (A:See X V) {p:ProcS}
include B hj ok A
theorem Jo6 (hw:Ct B0 Ar1 [.agg ⟨B5 p⟩] [gC] fun v own=>v=.bool true∧own [gC]) {V2:VW} {l:List Int} {d:Int} (E:Hm3 S q k N j { y with phase:=0 } T t V V2 l d) :
  Ct B0 Ap0 [P0 q,.agg ⟨B5 p⟩] [hoC q k j y,kmC S k T t X.m,gC] fun v own=>∃ da dc X' sx sc,See X' V2∧v=.tuple ⟨[.agg ⟨Jq0 0 j y.op y.a y.b da y.d.length dc 0 104 none 0 0 true sx l.length sc d⟩,.bool true]⟩ ∧
   own [hoC q k j { y with phase:=0 },kmC S k T t X'.m,gC,slC false B9 1 sx l.length sc (l.map int)]:=by
 refine Co Dn8 (fun _=>Dn5 ..) fun h r=>?_;refine Yn fun b1 h=>?_;refine Yn fun b2 h=>?_;refine Jc ?_;unhygienic intros;refine Yd hw fun h=>?_;refine B6 (hoC q k j y) fun ⟨ha,hc⟩=>?_;refine Je ?_;refine Jc ?_;unhygienic intros;simp only [List.set_cons_zero,List.set_cons_succ];refine Yd (Ig5 q k j { y with phase:=0 } ha hc 0 104 none 0 0 false) fun h=>?_;refine Jc ?_;unhygienic intros;refine B1 (hoC q k j { y with phase:=0 }) (ha,hc) ?_;refine Je ?_;refine Yc (E X A 0 j y.op y.a y.b ha y.d.length hc 0 104 none 0 0 true) ?_;rintro _ h ⟨X2,sx,sc,A2,rfl,o⟩<;>refine Jh o ?_;refine Jc ?_;unhygienic intros;refine Ys fun o=>?_;exact ⟨ha,hc,X2,sx,sc,A2,rfl,o.sub⟩
variable (hv:V.S j=(p,1))
include hv
theorem Hc6 (hs:p.state=1) (h0:y.phase=3) (hw:Ct B0 Ar1 [.agg ⟨B5 p⟩] [gC] fun v own=>v=.bool true∧own [gC]) {V2:VW} {l:List Int} {d:Int} (E:Hm3 S q k N j { y with phase:=0 } T t V V2 l d) :
  Ct B0 L9 [P0 q] [hoC q k j y,kmC S k T t X.m,gC] fun v own=>∃ da dc X' sx sc,See X' V2∧v=.tuple ⟨[.agg ⟨Jq0 0 j y.op y.a y.b da y.d.length dc 0 104 none 0 0 true sx l.length sc d⟩,.bool true]⟩ ∧
   own [hoC q k j { y with phase:=0 },kmC S k T t X'.m,gC,slC false B9 1 sx l.length sc (l.map int)]:=by
 have J:=Jo6 B q k N hj y T t ok A (p:=p) hw E;have fo:=A71 B ok (Dq7 hj);have e0:=A.s j (by omega);rw [hv] at e0;refine Co A21 (fun _=>A23 ..) fun h r=>?_;refine Yn fun b1 h=>?_;refine B6 (hoC q k j y) fun ⟨ha,hc⟩=>?_;refine Je ?_;refine Jc ?_;unhygienic intros;refine B04 S y.c k N T t j X.m ?_;rw [A.eX];refine Yd (Ag5 y.c k (frH S T t N j) X fo) fun h=>?_;rw [Q8 A.c];refine Jc ?_;unhygienic intros;refine Yn fun b2 h=>?_;refine Yd (Aa6 y.c k (frH S T t N j) X fo j) fun h=>?_;rw [O8 A.c (by omega),e0];dsimp only;refine Jc ?_;unhygienic intros;refine Yf rfl ?_;refine Yb (Yf rfl ?_);refine Jb ?_;unhygienic intros;refine Yv ?_;rw [hs];refine Yf rfl ?_;refine Jb ?_;unhygienic intros;rw [hs];refine Yf rfl ?_;refine Jb ?_;unhygienic intros;rw [h0];refine Bt6 S y.c k N T t j X A.c.bad ?_;refine B1 (hoC q k j y) (ha,hc) ?_;refine Je ?_;refine Yf rfl ?_;refine Yf rfl ?_;refine Yt rfl ?_;refine Jc ?_;unhygienic intros;refine Yc (J) ?_;rintro _ h ⟨da,dc,X',sx,sc,A',rfl,o⟩<;>refine Jh o ?_;refine Jc ?_;unhygienic intros;refine Ys fun o=>?_;exact ⟨da,dc,X',sx,sc,A',rfl,o.sub⟩
end
section
variable {S:KS} (B:Base S) (q k N:Nat) {j:Int} (hj:0≤j∧j<4) (y:HoS) (T:SectS) (t:Int) (ok:TOk N T t) {X:CX} {V:VW} (A:See X V) {p:ProcS} (hv:V.S j=(p,1))
include B hj ok A hv
theorem Jc9 (hs:p.state=1) (hn:Bs3 p=0) (h0:y.phase=3) (h10:y.op=10) {f pi refs nw:Int} (ho:ofW V j y.a=((f,⟨1,pi,refs,nw⟩),0)) (hpi:0≤pi∧pi<4) {qp:PipeS} (hq:V.P pi=(qp,1)) :
  Ct B0 L9 [P0 q] [hoC q k j y,kmC S k T t X.m] fun v own=>v=E29∧own [hoC q k j { y with phase:=if Hl4 qp then 1 else 3 },kmC S k T t X.m]:=by
 have J:=Jz6 B q k N hj y T t ok A (p:=p) (.inr hn) h10 ho hpi hq;rw [h0] at J;have fo:=A71 B ok (Dq7 hj);have e0:=A.s j (by omega);rw [hv] at e0;refine Co A21 (fun _=>A23 ..) fun h r=>?_;refine Yn fun b1 h=>?_;refine B6 (hoC q k j y) fun ⟨ha,hc⟩=>?_;refine Je ?_;refine Jc ?_;unhygienic intros;refine B04 S y.c k N T t j X.m ?_;rw [A.eX];refine Yd (Ag5 y.c k (frH S T t N j) X fo) fun h=>?_;rw [Q8 A.c];refine Jc ?_;unhygienic intros;refine Yn fun b2 h=>?_;refine Yd (Aa6 y.c k (frH S T t N j) X fo j) fun h=>?_;rw [O8 A.c (by omega),e0];dsimp only;refine Jc ?_;unhygienic intros;refine Yf rfl ?_;refine Yb (Yf rfl ?_);refine Jb ?_;unhygienic intros;refine Yv ?_;rw [hs];refine Yf rfl ?_;refine Jb ?_;unhygienic intros;rw [hs];refine Yf rfl ?_;refine Jb ?_;unhygienic intros;rw [h0];refine Bt6 S y.c k N T t j X A.c.bad ?_;refine B1 (hoC q k j y) (ha,hc) ?_;refine Je ?_;refine Yf rfl ?_;refine Yf rfl ?_;refine Yt rfl ?_;refine Jc ?_;unhygienic intros;refine Yd J fun h=>?_;refine Jc ?_;unhygienic intros;exact Yz
end
section
variable {S:KS} (B:Base S) (hb k N:Nat) (a:Option Addr) (ac:Nat) (Q:List Nat) (i q:Nat) (hi:i<4) (hq:Q[i]?=some q) (y:HoS) (T:SectS) (t:Int) (ok:TOk N T t) (hN:N+4<1000000000) {X:CX} {V V':VW} (A:See X V) {p p':ProcS} (hp:Qt V i p)
include B hi hq ok hN A hp
end
end Go.EQ

set_option maxRecDepth 10000
namespace Go.EQ
open Go Go.NN Go.Proofs
section
variable {S:KS} (B:Base S) (hb k N:Nat) (a:Option Addr) (ac:Nat) (Q:List Nat) (i q:Nat) (hi:i<4) (hq:Q[i]?=some q) (y:HoS) (T:SectS) (t:Int) (ok:TOk N T t) (hN:N+4<1000000000) {X:CX} {V V':VW} (A:See X V) {p p':ProcS} (hp:Qt V i p)
include B hi hq ok hN A hp
theorem Je1 (h0:y.phase=0) (op sa sb:Int) (h3:op≠3) (st:Int) (hst:(D0 T i t).1.1=st) (h1:st>0) (hh:W6 (D0 T i t).2 i st=true) (hp':Qt V' i p') {n e:Int} {bs:List UInt8}
  (hJ:∀ (F:Fr) (X:CX),FrOk F→See X V→DoJ y.c k F X V' (i:Nat) op sa sb [] n e bs false) :
  Ct B0 D4 [int (i:Nat),.agg ⟨[int op,int sa,int sb,.slice none 0 0]⟩,P0 hb] [pt hb (.cells Q4 false [.slice a 4 ac]),slC false J9 1 a 4 ac (Q.map P0),hoC q k (i:Nat) y,kmC S k T t X.m] fun v own=>∃ da dc x cap X',See X' V'∧v=.tuple ⟨[.agg ⟨Ev2 0 (i:Nat) op sa sb da 0 dc n e x bs.length cap true⟩,.bool true]⟩ ∧
   own [pt hb (.cells Q4 false [.slice a 4 ac]),slC false J9 1 a 4 ac (Q.map P0),hoC q k (i:Nat) ⟨y.c,0,st,op,sa,sb,[]⟩,kmC S k (E2 (D0 T i t).2 i st) t X'.m,dC x cap bs]:=by
 have hlt:=(List.getElem?_eq_some_iff.1 hq).1;have hg:(Q.map P0)[((i:Nat):Int).toNat]?=some (.pointer (some ⟨q,0,none⟩)):=by rw [Int.toNat_natCast,List.getElem?_map,hq];rfl
 have ok2:=ok.enter hN i;have hj:0≤(i:Int)∧(i:Int)<4:=by omega
 refine Co Dd0 (fun _=>Dd5 ..) fun h r=>?_;refine Yn fun b1 h=>?_;refine Yn fun b2 h=>?_;(refine Ja ?_;unhygienic intros;repeat(refine Gw ?_;rintro px rfl;refine Ja ?_;unhygienic intros));refine Bh5 ?_;refine Yd (Gn4 B q k N hj y T t ok A hp h0 op sa sb (dC none 0 []) none false 0 [] (by simp [B3])) fun h=>?_;refine Jc ?_;unhygienic intros;refine Yd (Gi2 B q k N hj { y with phase:=1,op:=op,a:=sa,b:=sb,d:=[] } T t ok A hp rfl) fun h=>?_;rw [hst,show Gt4 { y with phase:=1,op:=op,a:=sa,b:=sb,d:=[] } st=⟨y.c,2,st,op,sa,sb,[]⟩ from if_pos h1];refine Jc ?_;unhygienic intros;refine Yc (Ha0 B q k (N+2) hj ⟨y.c,2,st,op,sa,sb,[]⟩ (D0 T i t).2 t ok2 A hp rfl hh (hJ _ _ (A71 B ok2 (Dq7 hj)) A) h3 (ok2.leave i st) hp') ?_;rintro _ h ⟨da,dc,x,cap,X',A',rfl,o⟩<;>refine Jh o ?_;refine Jc ?_;unhygienic intros;refine Ys fun o=>?_;exact ⟨da,dc,x,cap,X',A',rfl,o.sub⟩
theorem Ju9 (h0:y.phase=0) (op sa sb:Int) (h3:op≠3) (st:Int) (hst:(D0 T i t).1.1=st) (h1:st>0) (hh:W6 (D0 T i t).2 i st=true) {n e:Int} {bs:List UInt8}
  (hJ:∀ (F:Fr) (X:CX),FrOk F→See X V→DoJ y.c k F X V' (i:Nat) op sa sb [] n e bs true) :
  Ct B0 D4 [int (i:Nat),.agg ⟨[int op,int sa,int sb,.slice none 0 0]⟩,P0 hb] [pt hb (.cells Q4 false [.slice a 4 ac]),slC false J9 1 a 4 ac (Q.map P0),hoC q k (i:Nat) y,kmC S k T t X.m] fun v own=>∃ X',See X' V'∧v=E29 ∧
   own [pt hb (.cells Q4 false [.slice a 4 ac]),slC false J9 1 a 4 ac (Q.map P0),hoC q k (i:Nat) ⟨y.c,3,st,op,sa,sb,[]⟩,kmC S k (E2 (D0 T i t).2 i st) t X'.m]:=by
 have hlt:=(List.getElem?_eq_some_iff.1 hq).1;have hg:(Q.map P0)[((i:Nat):Int).toNat]?=some (.pointer (some ⟨q,0,none⟩)):=by rw [Int.toNat_natCast,List.getElem?_map,hq];rfl
 have ok2:=ok.enter hN i;have hj:0≤(i:Int)∧(i:Int)<4:=by omega
 refine Co Dd0 (fun _=>Dd5 ..) fun h r=>?_;refine Yn fun b1 h=>?_;refine Yn fun b2 h=>?_;(refine Ja ?_;unhygienic intros;repeat(refine Gw ?_;rintro px rfl;refine Ja ?_;unhygienic intros));refine Bh5 ?_;refine Yd (Gn4 B q k N hj y T t ok A hp h0 op sa sb (dC none 0 []) none false 0 [] (by simp [B3])) fun h=>?_;refine Jc ?_;unhygienic intros;refine Yd (Gi2 B q k N hj { y with phase:=1,op:=op,a:=sa,b:=sb,d:=[] } T t ok A hp rfl) fun h=>?_;rw [hst,show Gt4 { y with phase:=1,op:=op,a:=sa,b:=sb,d:=[] } st=⟨y.c,2,st,op,sa,sb,[]⟩ from if_pos h1];refine Jc ?_;unhygienic intros;refine Yc (I02 B q k (N+2) hj ⟨y.c,2,st,op,sa,sb,[]⟩ (D0 T i t).2 t ok2 A hp rfl hh (hJ _ _ (A71 B ok2 (Dq7 hj)) A)) ?_;rintro _ h ⟨X',A',rfl,o⟩<;>refine Jh o ?_;refine Jc ?_;unhygienic intros;refine Ys fun o=>?_;exact ⟨X',A',rfl,o.sub⟩
end
section
variable (k hb q0 q1 q2 q3:Nat) (a:Option Addr) (ac:Nat) (N:Nat) (y:HoS) (T:SectS) (t:Int) (ok:TOk N T t) (hN:N+4<1000000000) {X:CX} {V V':VW} (A:See X V) {p p':ProcS}
include ok hN A
theorem Gs2 (hp:Qt V 0 p) (h0:y.phase=0) (op sa sb:Int) (h3:op≠3) (st:Int) (h1:st>0) (hs:(D0 T 0 t).1.1=st∧W6 (D0 T 0 t).2 0 st=true) (hp':Qt V' 0 p') {n e:Int} {bs:List UInt8}
  (hJ:∀ (F:Fr) (X:CX),FrOk F→See X V→DoJ y.c k F X V' 0 op sa sb [] n e bs false) :
  Ct B0 D4 [int 0,.agg ⟨[int op,int sa,int sb,.slice none 0 0]⟩,P0 hb] [pt hb (.cells Q4 false [.slice a 4 ac]),slC false J9 1 a 4 ac [P0 q0,P0 q1,P0 q2,P0 q3],hoC q0 k 0 y,kmC S3 k T t X.m] fun v own=>∃ da dc x cap X',See X' V'∧v=.tuple ⟨[.agg ⟨Ev2 0 0 op sa sb da 0 dc n e x bs.length cap true⟩,.bool true]⟩ ∧
   own [pt hb (.cells Q4 false [.slice a 4 ac]),slC false J9 1 a 4 ac [P0 q0,P0 q1,P0 q2,P0 q3],hoC q0 k 0 ⟨y.c,0,st,op,sa,sb,[]⟩,kmC S3 k (E2 (D0 T 0 t).2 0 st) t X'.m,dC x cap bs] :=
 Je1 Ar4 hb k N a ac [q0,q1,q2,q3] 0 q0 (by omega) rfl y T t ok hN A hp h0 op sa sb h3 st hs.1 h1 hs.2 hp' hJ
theorem It6 (hp:Qt V 1 p) (h0:y.phase=0) (op sa sb:Int) (h3:op≠3) (st:Int) (h1:st>0) (hs:(D0 T 1 t).1.1=st∧W6 (D0 T 1 t).2 1 st=true) (hp':Qt V' 1 p') {n e:Int} {bs:List UInt8}
  (hJ:∀ (F:Fr) (X:CX),FrOk F→See X V→DoJ y.c k F X V' 1 op sa sb [] n e bs false) :
  Ct B0 D4 [int 1,.agg ⟨[int op,int sa,int sb,.slice none 0 0]⟩,P0 hb] [pt hb (.cells Q4 false [.slice a 4 ac]),slC false J9 1 a 4 ac [P0 q0,P0 q1,P0 q2,P0 q3],hoC q1 k 1 y,kmC S3 k T t X.m] fun v own=>∃ da dc x cap X',See X' V'∧v=.tuple ⟨[.agg ⟨Ev2 0 1 op sa sb da 0 dc n e x bs.length cap true⟩,.bool true]⟩ ∧
   own [pt hb (.cells Q4 false [.slice a 4 ac]),slC false J9 1 a 4 ac [P0 q0,P0 q1,P0 q2,P0 q3],hoC q1 k 1 ⟨y.c,0,st,op,sa,sb,[]⟩,kmC S3 k (E2 (D0 T 1 t).2 1 st) t X'.m,dC x cap bs] :=
 Je1 Ar4 hb k N a ac [q0,q1,q2,q3] 1 q1 (by omega) rfl y T t ok hN A hp h0 op sa sb h3 st hs.1 h1 hs.2 hp' hJ
theorem Jk6 (hp:Qt V 1 p) (h0:y.phase=0) (op sa sb:Int) (h3:op≠3) (st:Int) (h1:st>0) (hs:(D0 T 1 t).1.1=st∧W6 (D0 T 1 t).2 1 st=true) {n e:Int} {bs:List UInt8}
  (hJ:∀ (F:Fr) (X:CX),FrOk F→See X V→DoJ y.c k F X V' 1 op sa sb [] n e bs true) :
  Ct B0 D4 [int 1,.agg ⟨[int op,int sa,int sb,.slice none 0 0]⟩,P0 hb] [pt hb (.cells Q4 false [.slice a 4 ac]),slC false J9 1 a 4 ac [P0 q0,P0 q1,P0 q2,P0 q3],hoC q1 k 1 y,kmC S3 k T t X.m] fun v own=>∃ X',See X' V'∧v=E29 ∧
   own [pt hb (.cells Q4 false [.slice a 4 ac]),slC false J9 1 a 4 ac [P0 q0,P0 q1,P0 q2,P0 q3],hoC q1 k 1 ⟨y.c,3,st,op,sa,sb,[]⟩,kmC S3 k (E2 (D0 T 1 t).2 1 st) t X'.m] :=
 Ju9 Ar4 hb k N a ac [q0,q1,q2,q3] 1 q1 (by omega) rfl y T t ok hN A hp h0 op sa sb h3 st hs.1 h1 hs.2 hJ
end
def cnt (v:Int):List Int→Int
 | []=>0
 | x::l=>(if x=v then 1 else 0)+cnt v l
theorem Hj6 (v:Int):∀ l:List Int,0≤cnt v l∧cnt v l≤l.length
 | []=>by simp [cnt]
 | x::l=>by
  have:=Hj6 v l;unfold cnt;rw [List.length_cons];split<;>omega
theorem Is3 (v:Int):∀ (l:List Int) (j:Nat),j<l.length→l.getD j 0=v→1≤cnt v l
 | [],j,h,_=>by simp at h
 | x::l,0,_,e=>by
  have:=Hj6 v l;rw [List.getD_cons_zero] at e;unfold cnt;rw [if_pos e];omega
 | x::l,j+1,h,e=>by
  rw [List.getD_cons_succ] at e;have:=Is3 v l j (by simpa using h) e;unfold cnt;split<;>omega
theorem Is1 (v w:Int):∀ (l:List Int) (j:Nat),j<l.length→cnt v (l.set j w)=cnt v l-(if l.getD j 0=v then 1 else 0)+(if w=v then 1 else 0)
 | [],j,h=>by simp at h
 | x::l,0,_=>by
  rw [List.set_cons_zero,List.getD_cons_zero,cnt,cnt];omega
 | x::l,j+1,h=>by
  have:=Is1 v w l j (by simpa using h);rw [List.set_cons_succ,List.getD_cons_succ,cnt,cnt,this];omega
theorem Jb2 (l:List Int) (j n:Nat) (w:Int) (h:j<l.length):(l.set j w).getD n 0=if n=j then w else l.getD n 0:=by
 rw [List.getD_eq_getElem?_getD,List.getD_eq_getElem?_getD,List.getElem?_set];by_cases hj:j=n
 ·subst hj;simp [h]
 ·rw [if_neg hj,if_neg (fun e=>hj e.symm)]
structure Own8 (ow:List Int) (r:Int→Int):Prop where
 len:ow.length=8
 rng:∀ j:Nat,0≤ow.getD j 0∧ow.getD j 0≤3
 ct:∀ v:Int,1≤v→v≤3→r v=cnt v ow
theorem Own8.pos {ow:List Int} {r:Int→Int} (I:Own8 ow r) {j:Nat} (hj:j<8) (h:ow.getD j 0>0):1≤r (ow.getD j 0):=by
 rw [I.ct _ (by omega) (I.rng j).2];exact Is3 _ _ j (by rw [I.len];exact hj) rfl
theorem Own8.nn {ow:List Int} {r:Int→Int} (I:Own8 ow r) {v:Int} (h:1≤v∧v≤3):0≤r v∧r v≤8:=by
 rw [I.ct v h.1 h.2];have:=Hj6 v ow;have:=I.len;omega
theorem Own8.set {ow:List Int} {r:Int→Int} (I:Own8 ow r) {j:Nat} (hj:j<8) {w:Int} (hw:0≤w∧w≤3) {r':Int→Int} (hr:∀ v:Int,1≤v→v≤3→r' v=r v-(if ow.getD j 0=v then 1 else 0)+(if w=v then 1 else 0)):Own8 (ow.set j w) r':=by
 refine ⟨by rw [List.length_set];exact I.len,fun n=>?_,fun v h1 h2=>?_⟩
 ·rw [Jb2 _ _ _ _ (by rw [I.len];exact hj)]
  split
  ·exact hw
  ·exact I.rng n
 ·rw [hr v h1 h2,Is1 _ _ _ _ (by rw [I.len];exact hj),I.ct v h1 h2]
section
variable {ow:List Int} {h:ow.length=8} {r:Int→Int} (I:Own8 ow r)
include I
def r2 (r:Int→Int) (w v:Int):Int→Int:=rr (if w>0 then rr r w (-1) else r) v 1
end
theorem Ib9 (V:VW) (j:Int) (q:PipeS) (i fd:Int):ofW (wP V j q) i fd=ofW V i fd:=rfl
theorem Kb5 (V:VW) (j:Int) (q:PipeS):(wP V j q).P j=(q,1):=by
 show (if j=j then (q,(1:Int)) else V.P j)=_;rw [if_pos rfl]
theorem J87 (V:VW) (j:Int) (q q':PipeS):wP (wP V j q) j q'=wP V j q':=by
 refine VW.ext' (fun _=>rfl) (fun _=>rfl) fun n=>?_;show (if n=j then _ else if n=j then _ else _)=if n=j then _ else _
 by_cases h:n=j
 ·rw [if_pos h,if_pos h]
 ·rw [if_neg h,if_neg h,if_neg h]
theorem J00 {V:VW} {j:Int} {q:PipeS} (h:V.P j=(q,1)):wP V j q=V:=by
 refine VW.ext' (fun _=>rfl) (fun _=>rfl) fun n=>?_;show (if n=j then _ else _)=_;by_cases hn:n=j
 ·rw [if_pos hn,hn,h]
 ·rw [if_neg hn]
section
variable {V:VW} {i fd f r fl j:Int} {q:PipeS}
theorem J06 (ho:ofW V i fd=((f,⟨1,j,r,fl⟩),0)) {n:Int} (hn:0≤n∧n≤32):Ae5 (wP V j q) i fd n=(⟨1,j,r,fl⟩,0):=by
 unfold Ae5;rw [Ib9,ho];dsimp only;rw [if_neg (by simp),if_neg (by simp),if_neg (by omega)]
theorem J25 (ho:ofW V i fd=((f,⟨1,j,r,fl⟩),0)) {n:Int} (hn:0≤n∧n≤32):Df1 (wP V j q) i fd n=if n=0 then (⟨[],0,false⟩,wP V j q) else if q.count=0 then (if q.writers=0 then (⟨[],0,false⟩,wP V j q) else if fl=1 then (⟨[],111,false⟩,wP V j q) else (⟨[],0,true⟩,wP V j q)) else (⟨(Bo3 q).take (min n.toNat q.count.toNat),0,false⟩,wP V j (Em2 q (min n.toNat q.count.toNat))):=by
 unfold Df1;rw [J06 ho hn];dsimp only;rw [Kb5];by_cases h0:n=0
 ·rw [if_pos (.inr h0),if_pos h0]
 ·rw [if_neg (fun h=>h.elim (by simp) h0),if_neg h0,if_neg (by simp)];dsimp only;by_cases h1:q.count=0
  ·rw [if_pos h1,if_pos h1];by_cases h2:q.writers=0
   ·rw [if_pos ⟨rfl,h2⟩,if_pos h2]
   ·rw [if_neg (fun h=>h2 h.2),if_neg h2]
  ·rw [if_neg h1,if_neg h1,J87]
end
theorem J56 {V:VW} {i fd f r fl j:Int} {q:PipeS} (ho:ofW V i fd=((f,⟨1,j,r,fl⟩),0)):(ofW (wP V j q) i fd).1.2.kind≠3:=by rw [Ib9,ho];simp
theorem Ka1 {V:VW} {i fd f r fl j:Int} (n:Int) {q:PipeS} (ho:ofW V i fd=((f,⟨1,j,r,fl⟩),0)) (hj:0≤j∧j<6):(Ae5 (wP V j q) i fd n).2=0→0≤(Ae5 (wP V j q) i fd n).1.pipe∧(Ae5 (wP V j q) i fd n).1.pipe<6:=by
 intro _;unfold Ae5;rw [Ib9,ho];dsimp only;rw [if_neg (by simp),if_neg (by simp)]
 split<;>exact hj
def VP:VW:=(Gt0 V1 0).2
def VQ:VW:=(Gq6 VP 0).2
theorem Kb8:Gt0 V1 0=(I2 33 0 false,VP):=Prod.ext (by kernel_rfl) rfl
theorem Ka5:Gq6 VP 0=(I2 1 0 false,VQ):=Prod.ext (by kernel_rfl) rfl
def pA:ProcS:=(VP.S 0).1
def pB:ProcS:=(VQ.S 0).1
def pC:ProcS:=(VQ.S 1).1
theorem J58:Qt VP 0 pA:=⟨Prod.ext rfl (by kernel_rfl),by kernel_rfl,by kernel_rfl⟩
theorem Eb3:Qt VQ 0 pB:=⟨Prod.ext rfl (by kernel_rfl),by kernel_rfl,by kernel_rfl⟩
theorem Ho0:Qt VQ 1 pC:=⟨Prod.ext rfl (by kernel_rfl),by kernel_rfl,by kernel_rfl⟩
abbrev T0:SectS:=I9 5
def T1:SectS:=E2 (D0 T0 0 0).2 0 1
def T2:SectS:=E2 (D0 T1 0 0).2 0 2
def T3:SectS:=(D0 T2 1 0).2
theorem s1:(D0 T0 0 0).1.1=1∧W6 (D0 T0 0 0).2 0 1=true:=⟨by kernel_rfl,by kernel_rfl⟩
theorem s2:(D0 T1 0 0).1.1=2∧W6 (D0 T1 0 0).2 0 2=true:=⟨by kernel_rfl,by kernel_rfl⟩
theorem s3:(D0 T2 1 0).1.1=3∧W6 T3 1 3=true:=⟨by kernel_rfl,by kernel_rfl⟩
theorem tk1:TOk 2 T1 0:=(E84.enter (by omega) 0).leave 0 1
theorem tk2:TOk 4 T2 0:=(tk1.enter (by omega) 0).leave 0 2
structure Late (t:Int):Prop where
 a:(D0 T3 0 t).1.1=4
 b:W6 (D0 T3 0 t).2 0 4=true
 c:W6 (E2 (D0 T3 0 t).2 0 4) 1 3=false
 d:(D0 (E2 (D0 T3 0 t).2 0 4) 1 t).1.1=5
 e:W6 (D0 (E2 (D0 T3 0 t).2 0 4) 1 t).2 1 5=true
 f:(D0 (E2 (D0 (E2 (D0 T3 0 t).2 0 4) 1 t).2 1 5) 0 t).1.1=6
 g:W6 (D0 (E2 (D0 (E2 (D0 T3 0 t).2 0 4) 1 t).2 1 5) 0 t).2 0 6=true
structure Soon (t:Int):Prop where
 a:(D0 T3 0 t).1.1=0
 b:(D0 (D0 T3 0 t).2 0 t).1.1=0
 c:W6 (D0 (D0 T3 0 t).2 0 t).2 1 3=true
 d:(D0 (E2 (D0 (D0 T3 0 t).2 0 t).2 1 3) 0 t).1.1=4
 e:W6 (D0 (E2 (D0 (D0 T3 0 t).2 0 t).2 1 3) 0 t).2 0 4=true
 f:(D0 (E2 (D0 (E2 (D0 (D0 T3 0 t).2 0 t).2 1 3) 0 t).2 0 4) 0 t).1.1=5
 g:W6 (D0 (E2 (D0 (E2 (D0 (D0 T3 0 t).2 0 t).2 1 3) 0 t).2 0 4) 0 t).2 0 5=true
def VC:VW:=(Ji9 VQ 1 2).2
def pX:ProcS:=(VC.S 1).1
structure WokeOk (V:VW) (l:List UInt8):Prop where
 s:Qt V 1 pX
 o:ofW V 1 1=((1,⟨1,0,2,0⟩),0)
 p:∃ q,V.P 0=(q,1)∧Hl4 q=true
 r:∃ V3,Qt V3 1 pX∧∀ (c k:Nat) (F:Fr) (X:CX),FrOk F→See X V→DoJ c k F X V3 1 10 1 32 [] l.length 0 l false
def Z3:SectS:=E2 (D0 T2 1 0).2 1 3
def Z4:SectS:=E2 (D0 Z3 1 0).2 1 4
def Z5:SectS:=E2 (D0 Z4 0 0).2 0 5
theorem z3:(D0 T2 1 0).1.1=3∧W6 (D0 T2 1 0).2 1 3=true:=⟨by kernel_rfl,by kernel_rfl⟩
theorem z4:(D0 Z3 1 0).1.1=4∧W6 (D0 Z3 1 0).2 1 4=true:=⟨by kernel_rfl,by kernel_rfl⟩
theorem z5:(D0 Z4 0 0).1.1=5∧W6 (D0 Z4 0 0).2 0 5=true:=⟨by kernel_rfl,by kernel_rfl⟩
theorem z6:(D0 Z5 1 0).1.1=6∧W6 (D0 Z5 1 0).2 1 6=true:=⟨by kernel_rfl,by kernel_rfl⟩
theorem zk3:TOk 6 Z3 0:=(tk2.enter (by omega) 1).leave 1 3
theorem zk4:TOk 8 Z4 0:=(zk3.enter (by omega) 1).leave 1 4
theorem zk5:TOk 10 Z5 0:=(zk4.enter (by omega) 0).leave 0 5
end Go.EQ
