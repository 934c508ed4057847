/- A blocked call ends when a signal that is caught comes, and tells so; one that ends the process ends it with that code; one that is ignored, or kept off, does nothing. -/
import Derived.Test.YtonlefldpebcpaaGreatDoorMi
set_option linter.all false
set_option maxRecDepth 10000
namespace Go.EQ
open Go Go.NN
abbrev A48 (s:Int × ProcS):List Value:=int s.1::B5 s.2
def N9 (X:CX) (q:Int→ProcS→Bool):Nat→Int→List (Int × ProcS)
 | 0,_=>[]
 | m+1,i=>if (vS X i).2=1∧q i (vS X i).1=true then (i,(vS X i).1)::N9 X q m (i+1) else N9 X q m (i+1)
theorem D61 (X:CX) (q:Int→ProcS→Bool):∀ (m:Nat) (i:Int),(N9 X q m i).length≤m
 | 0,i=>by simp [N9]
 | m+1,i=>by
  have:=D61 X q m (i+1);unfold N9;split<;>simp<;>omega
theorem Ac8 (j:Int) (p:ProcS):(int j::B5 p).length=17:=by simp [A00 p,p.len]
instance {j:Int} {p:ProcS}:LenC (int j::B5 p) 17:=⟨Ac8 j p⟩
instance {j:Int} {p:ProcS}:PartC (int j::B5 p) 0 17 (int j::B5 p):=⟨Bu5 (Ac8 j p)⟩
instance {j:Int} {p:ProcS} {cs:List Value} [k:LenC cs 17]:SetsC cs 0 (int j::B5 p) (int j::B5 p):=⟨Bx3 k.ok (Ac8 j p) (by simp [Value.oneCell])⟩
theorem Iq0 (b k:Nat) (F:Fr) (X:CX) (ok:FrOk F) {nc:Nat} (c:Clean nc X) (pr:HP) (g:FuncId) (cp:List Value) (q:Int→ProcS→Bool)
  (hq:∀ (j:Int) (p:ProcS),Ct B0 g (.agg ⟨int j::B5 p⟩::cp) [pr] fun v own=>v=.bool (q j p)∧own [pr]):∀ (m:Nat) (i:Int) (acc:List (Int × ProcS)) (a:Option Addr) (ac:Nat),0≤i→i+m=8→acc.length≤i →
  CtJ H0 Ad7 A79 [(0,P0 b),(1,.func (.func g) ⟨[]⟩ ⟨cp⟩),(5,.slice a acc.length ac),(10,int i)] [slC false J7 17 a acc.length ac (acc.flatMap A48),cmC b k F X,pr] fun v own =>
   ∃ a' c',v=.slice a' (acc++N9 X q m i).length c'∧own [slC false J7 17 a' (acc++N9 X q m i).length c' ((acc++N9 X q m i).flatMap A48),cmC b k F X,pr]:=by
 intro m
 induction m with
 | zero =>
  intro i acc a ac h0 hi ha;refine Cj Ef3 (fun _=>Em6 ..) fun h r=>?_;refine Yf (by simp;omega) ?_;refine Ys fun o=>?_;rw [show N9 X q 0 i=[] from rfl,List.append_nil];exact ⟨a,ac,rfl,o.sub⟩
 | succ m ih =>
  intro i acc a ac h0 hi ha;have e1:=wI i;refine Cj Ef3 (fun _=>Em6 ..) fun h r=>?_;refine Yt (by simp;omega) ?_;rw [e1];refine Yd (Aa6 b k F X ok i) fun h=>?_;rw [O8 c (by omega)];dsimp only;generalize hp:(vS X i).1=p;simp only [List.append_nil,List.nil_append];refine Jc ?_;intros;refine Yn fun b1 h=>?_;refine Jc ?_;intros;refine Yn fun b2 h=>?_;refine Jb ?_;intros;rw [show N9 X q (m+1) i=if (vS X i).2=1∧q i (vS X i).1=true then (i,(vS X i).1)::N9 X q m (i+1) else N9 X q m (i+1) from rfl,hp];by_cases h1:(vS X i).2=1
  ·refine Yb (Yt (by simpa using h1) ?_);refine Jb ?_;intros;simp only [List.nil_append];refine Yd (hq i p) fun h=>?_;refine Jb ?_;intros;refine Yv ?_;by_cases h2:q i p=true
   ·rw [if_pos ⟨h1,h2⟩];refine Yt h2 ?_;refine Jc ?_;intros;refine Yn fun b3 h=>?_;refine Ja ?_;intros;refine Tr.xCellsB (xs:=int i::B5 p) (E55 (Bu5 (Ac8 i p))) ?_;refine Ja ?_;intros;refine Tr.xApd ⟨Ac8 i p,by simp [Value.oneCell],by simp only [B3];omega⟩ fun a' c' h=>?_;rw [show acc.flatMap A48++(int i::B5 p)=(acc++[(i,p)]).flatMap A48 by simp,show acc.length+1=(acc++[(i,p)]).length by simp];refine N8 [5,4,1] 3 rfl rfl ?_;refine Yr (ih (i+1) (acc++[(i,p)]) a' c' (by omega) (by omega) (by simp;omega)) ?_;intro v h q;rw [List.append_assoc] at q;exact q
   ·rw [if_neg (fun h3=>h2 h3.2)];refine Yf (by simpa using h2) ?_;refine N8 [4,3,0] 2 rfl rfl ?_;refine Yr (ih (i+1) acc a ac (by omega) (by omega) (by omega)) ?_;intro v h q;exact q
  ·rw [if_neg (fun h3=>h1 h3.1)];refine Yb (Yf (by simpa using h1) ?_);refine Yv ?_;refine Yf rfl ?_;refine N8 [3,2,2] 2 rfl rfl ?_;refine Yr (ih (i+1) acc a ac (by omega) (by omega) (by omega)) ?_;intro v h q;exact q
theorem G24 (b k:Nat) (F:Fr) (X:CX) (ok:FrOk F) {nc:Nat} (c:Clean nc X) (pr:HP) (g:FuncId) (cp:List Value) (q:Int→ProcS→Bool)
  (hq:∀ (j:Int) (p:ProcS),Ct B0 g (.agg ⟨int j::B5 p⟩::cp) [pr] fun v own=>v=.bool (q j p)∧own [pr]) :
  Ct B0 Ad7 [P0 b,.func (.func g) ⟨[]⟩ ⟨cp⟩] [cmC b k F X,pr] fun v own=>∃ a' c',v=.slice a' (N9 X q 8 0).length c'∧own [slC false J7 17 a' (N9 X q 8 0).length c' ((N9 X q 8 0).flatMap A48),cmC b k F X,pr]:=by
 refine Co Ef3 (fun _=>Ih1 ..) fun h r=>?_;refine G0 false J7 17 (by omega) ?_;have J:=Iq0 b k F X ok c pr g cp q hq 8 0 [] none 0 (by omega) (by omega) (by simp);simp only [List.nil_append,List.length_nil,List.flatMap_nil] at J;refine Yr J ?_;intro v h q;exact q
theorem Jo9 (bi:Nat) (i:Int) (hi:0≤i∧i<8) (j:Int) (p:ProcS):Ct B0 Bn7 [.agg ⟨int j::B5 p⟩,P0 bi] [pt bi (.cells B9 false [int i])] fun v own=>v=.bool (p.parent==i+1)∧own [pt bi (.cells B9 false [int i])]:=by
 have e1:=wI i;refine Co Hy7 (fun _=>Hv9 ..) fun h r=>?_;refine Ja ?_;intros;refine Ys fun o=>?_;rw [e1];exact ⟨rfl,o.sub⟩
theorem G62 (j:Int) (p:ProcS):Ct B0 An0 [.agg ⟨int j::B5 p⟩] [] fun v own=>v=.bool (p.state != 2)∧own []:=by
 refine Co Gv3 (fun _=>Gx4 ..) fun h r=>?_;refine Ja ?_;intros;exact Yz
def Du0 (X:CX) (n:Nat):List (Int × ProcS)→List Value × CX
 | []=>(if n=0 then I2 0 110 false else I2 0 0 true,X)
 | s::l=>if s.2.state=2 then (I2 (256*s.1+s.2.code) 0 false,D22 X s.1) else Du0 X n l
def Gq1 (X:CX) (i:Int):List Value × CX :=
 if (N4 X i).2≠0 then (I2 0 (N4 X i).2 false,X)
 else Du0 X (N9 X (fun _ p=>p.parent==i+1) 8 0).length (N9 X (fun _ p=>p.parent==i+1) 8 0)
theorem Dh0 {nc:Nat} {X:CX} (c:Clean nc X) (q:Int→ProcS→Bool):∀ (m:Nat) (i:Int),0≤i→i+m=8→∀ s ∈ N9 X q m i,0≤s.1∧s.1<8∧okS s.2=true
 | 0,i,_,_,s,hs=>by simp [N9] at hs
 | m+1,i,h0,hi,s,hs=>by
  rw [show N9 X q (m+1) i=if (vS X i).2=1∧q i (vS X i).1=true then (i,(vS X i).1)::N9 X q m (i+1) else N9 X q m (i+1) from rfl] at hs
  split at hs
  ·rename_i h1
   rcases List.mem_cons.1 hs with rfl|h2
   ·refine ⟨h0,by simp only;omega,?_⟩;rcases Du5 c (i:=i) (by omega) with ⟨h3,_⟩|⟨_,h3⟩
    ·rw [h1.1] at h3;cases h3
    ·exact h3
   ·exact Dh0 c q m (i+1) (by omega) (by omega) s h2
  ·exact Dh0 c q m (i+1) (by omega) (by omega) s hs
theorem Ji7 {p:ProcS} (h:okS p=true):0≤p.code∧p.code≤255:=by
 unfold okS at h;simp only [Bool.and_eq_true,Bool.not_eq_true',Bool.or_eq_false_iff,decide_eq_false_iff_not] at h;have:=h.1;omega
abbrev J79:List Value:=[int 0,int 0,.slice none 0 0,.bool false]
theorem Iw0 (b k:Nat) (F:Fr) (X:CX) (ok:FrOk F) {nc:Nat} (c:Clean nc X) (b4:Nat) (L:List (Int × ProcS)) (hL:∀ s ∈ L,0≤s.1∧s.1<8∧okS s.2=true) (h8:L.length≤8) (a:Option Addr) (ac:Nat):∀ (m i:Nat),i+m=L.length →
  CtJ H0 Az8 Bx8 [(0,P0 b),(4,P0 b4),(7,.slice a L.length ac),(23,.slice a L.length ac),(24,int L.length),(25,int i)] [slC false J7 17 a L.length ac (L.flatMap A48),pt b4 (.cells P3 false J79),cmC b k F X] fun v own =>
   v=.agg ⟨(Du0 X L.length (L.drop i)).1⟩∧own [cmC b k F (Du0 X L.length (L.drop i)).2]:=by
 intro m
 induction m with
 | zero =>
  intro i hi;rw [show L.drop i=[] from List.drop_eq_nil_of_le (by omega),show Du0 X L.length []=(if L.length=0 then I2 0 110 false else I2 0 0 true,X) from rfl];refine Cj Ep2 (fun _=>Ez6 ..) fun h r=>?_;refine Yf (by simp;omega) ?_;by_cases hz:L.length=0
  ·rw [if_pos hz];refine Yt (by simp [hz]) ?_;refine Ye (Bf1 110) fun h=>?_;intros;exact Yz
  ·rw [if_neg hz];refine Yf (by simpa using hz) ?_;refine Ja ?_;intros;exact Yz
 | succ m ih =>
  intro i hi;have hil:i<L.length:=by omega
  have e1:=wN i;have hg:L[i]?=some L[i]:=List.getElem?_eq_getElem hil;have hd:L.drop i=L[i]::L.drop (i+1):=List.drop_eq_getElem_cons hil;obtain ⟨r1,r2,r3⟩:=hL _ (List.getElem_mem hil);rw [hd];generalize L[i]=s at hg r1 r2 r3;obtain ⟨j,p⟩:=s;simp only at r1 r2 r3;rw [show Du0 X L.length ((j,p)::L.drop (i+1))=if p.state=2 then (I2 (256*j+p.code) 0 false,D22 X j) else Du0 X L.length (L.drop (i+1)) from rfl];have hpart:=Av3 (f:=A48) (k:=17) (fun x=>Ac8 x.1 x.2) hg;have hlen:=V4 (f:=A48) (k:=17) (fun x=>Ac8 x.1 x.2) L;have hc:=Ji7 r3;have e2:IntKind.wrap .i64 (256*j)=256*j:=by rw [B8];omega
  have e3:IntKind.wrap .i64 (256*j+p.code)=256*j+p.code:=by rw [B8];omega
  refine Cj Ep2 (fun _=>Ez6 ..) fun h r=>?_;refine Yt (by simp;omega) ?_;rw [e1];refine S4 0 rfl fun h1 h2 h3=>?_;(refine Jc ?_;intros;repeat(refine Gw ?_;rintro px rfl;refine Jc ?_;intros));rw [Int.toNat_natCast];refine Tr.xAggS (xs:=A48 (j,p)) ⟨by omega,by omega,hpart⟩ ?_;refine Yn fun b2 h=>?_;refine Ja ?_;intros;refine Yd (G62 j p) fun h=>?_;refine Ja ?_;intros;by_cases hz:p.state=2
  ·rw [if_pos hz];refine Yt (by simp [hz]) ?_;refine Ja ?_;intros;refine Yd (Dk9 b k F X ok j) fun h=>?_;rw [(Bg0 c ⟨r1,r2⟩).1];dsimp only;refine Ja ?_;intros;rw [e2,e3];refine Yd (Dc2 true (256*j+p.code)) fun h=>?_;rw [if_pos trivial];refine Ja ?_;intros;exact Yz
  ·rw [if_neg hz];refine Yf (by simp [hz]) ?_;refine N8 [1,1,1] 1 rfl rfl ?_;refine Yr (ih (i+1) (by omega)) ?_;intro v h q;exact q
theorem Jv1 (b k:Nat) (F:Fr) (X:CX) (ok:FrOk F) {nc:Nat} (c:Clean nc X) (i:Int) (hi:0≤i∧i<8):Ct B0 Az8 [P0 b,int i] [cmC b k F X] fun v own=>v=.agg ⟨(Gq1 X i).1⟩∧own [cmC b k F (Gq1 X i).2]:=by
 unfold Gq1;refine Co Ep2 (fun _=>In5 ..) fun h r=>?_;refine Yn fun bi h=>?_;refine Yn fun b4 h=>?_;refine Ja ?_;intros;refine Yd (B02 b k F X ok c i hi) fun h=>?_;refine Jc ?_;intros;refine Yn fun b2 h=>?_;refine Ja ?_;intros;by_cases h0:(N4 X i).2=0
 case neg =>
  rw [if_pos h0];refine Yt (by simpa using h0) ?_;refine Ye (Bf1 (N4 X i).2) fun h=>?_;intros;exact Yz
 rw [if_neg (by simpa using h0)];refine Yf (by simpa using h0) ?_;refine Yc (G24 b k F X ok c (pt bi (.cells B9 false [int i])) Bn7 [P0 bi] (fun _ p=>p.parent==i+1) (fun j p=>Jo9 bi i hi j p)) ?_;rintro _ h ⟨a,ac,rfl,o⟩<;>refine Jh o ?_;refine Ja ?_;intros;refine N8 [0,3,0] 2 rfl rfl ?_;refine Yr (Iw0 b k F X ok c b4 _ (Dh0 c _ 8 0 (by omega) (by omega)) (D61 X _ 8 0) a ac _ 0 (Nat.zero_add _)) ?_;intro v h q;exact q
def p0:ProcS:=⟨1,0,0,0,0,0,0,0,[1,0,0,0,0,0,0,0],rfl⟩
def f0:FileS:=⟨3,0,1,0⟩
def A82:List UInt8:=Q1 (Q1 Ag7 0 (Gh7 p0)) 192 (Ap7 f0)
theorem Dk0:A82.length=492:=by kernel_rfl
theorem Gf1:(Gh7 p0).length=24:=by kernel_rfl
theorem Hr7 (l b:List UInt8) (a:Nat):(A0 l).take a++A0 b++(A0 l).drop (a+(A0 b).length)=A0 (Q1 l a b):=by
 rw [Aa9];simp [Q1,A0,List.map_take,List.map_drop]
theorem Ju4 {b:List UInt8} (h:0<b.length):A0 b≠[]:=by
 intro e;have e2:=congrArg List.length e;rw [Aa9] at e2;have e3:b.length=0:=e2;omega
theorem Jo7:Ct B0 B66 [] [] fun v own=>∃ a,v=.slice a 492 492∧own [slC false A9 1 a 492 492 (A0 A82)]:=by
 refine Co Hw5 (fun _=>Hw1 ..) fun h r=>?_;refine Yd Ht5 fun h=>?_;refine Jc ?_;intros;rw [Bh4,Ai1];refine Tr.ck (by simp [B3]) ?_;refine Yn fun b0 h=>?_;refine Eh3 (n:=492) 0 rfl (by rw [Aa9];exact Ai1) ?_;refine Je ?_;refine Yn fun b1 h=>?_;refine Ja ?_;intros;rw [show ([int 1,int 0,int 0,int 0,int 0,int 0,int 0,int 0,int 0,int 0,int 0,int 0,int 0,int 0,int 0,int 0]:List Value).set 8 (int 1)=B5 p0 from rfl];refine Ja ?_;intros;refine Yd (Je5 p0) fun h=>?_;refine Ja ?_;intros;rw [show List.take (min (bs (Gh7 p0)).size 492) (bs (Gh7 p0)).data.toList=Gh7 p0 by kernel_rfl];rw [show B4 (Q0 b0)=(B4 (Q0 b0)).add 0 from rfl];refine Tr.xPAggS (cs':=A0 (Q1 Ag7 0 (Gh7 p0))) ⟨Ju4 (by rw [Gf1];omega),by rw [Aa9,Aa9,Gf1,Ai1];omega,An6 _,Hr7 _ _ 0⟩ fun h=>?_;refine Ja ?_;intros;refine Yd (Jd6 f0) fun h=>?_;refine Ja ?_;intros;rw [show List.take (min (bs (Ap7 f0)).size (492-192)) (bs (Ap7 f0)).data.toList=Ap7 f0 by kernel_rfl];rw [Hl3 (by omega),Gk2];refine Tr.xPAggS (cs':=A0 A82) ⟨Ju4 (by rw [Ea7];omega),by rw [Aa9,Aa9,Am6 (by rw [Gf1,Ai1];omega),Ea7,Ai1];omega,An6 _,Hr7 _ _ 192⟩ fun h=>?_;refine Ys fun o=>?_;exact ⟨_,rfl,o.sub⟩
theorem Iv4 {S:KS} (kS:Like S) {s:Nat} {env:Int} (e:EnvP s env) {j:Nat} {cap:Int} {lo n:Nat} (hc:Jt9[j]?=some cap) (hr:(rgP s)[j]?=some (lo,n)) {b:List UInt8} (hb:b.length≤n) :
  Z1 S env ⟨2,cap,0,0,0,0,b⟩=((0,0,[]),N0 S (Q1 S.mem lo b)):=by
 have F:=He7 kS e;have hroom:lo+n≤S.mem.length:=E37 kS e.hs env j lo n hr;have hp:=F.pl j cap lo n hc hr 0 b.length 2 (.inr rfl) (by omega)
 have hs:Bn6 S.mem ((lo+0:Nat):Int) b=some (Q1 S.mem lo b):=by
  unfold Bn6;rw [if_pos (by omega),Int.toNat_natCast,Nat.add_zero];rfl
 have ew:As8 S.tabs S.regs S.mem env cap 0 b=(0,Q1 S.mem lo b):=by
  unfold As8;rw [show V6 S.tabs S.regs env cap 2 0 (b.length:Int)=(((lo+0:Nat):Int),0) from hp];rw [if_neg (by simp),hs]
 unfold Z1;rw [if_neg (show ¬ (env<0∨env≥(S.envs.length:Int)) from F.env)];unfold kDo;rw [if_neg (show ¬ ((2:Int)=1) by decide),if_pos rfl,ew]
def q1:PipeS:=⟨0,0,1,1,List.replicate 32 0,rfl⟩
def S1:KS:=N0 S0 (Q1 S0.mem 0 A82)
def S2:KS:=N0 S1 (Q1 S1.mem 512 (P2 q1))
def S3:KS:=N0 S2 (Q1 S2.mem 1856 (P2 q1))
theorem Ba0:(P2 q1).length=40:=Bu0 q1.len
theorem Ha6:Like S1:=E50 Eo0 (by rw [Am6 (by rw [Dk0,Eo0.mem];omega)];exact Eo0.mem)
theorem Hg8:Like S2:=E50 Ha6 (by rw [Am6 (by rw [Ba0,Ha6.mem];omega)];exact Ha6.mem)
theorem I03:Like S3:=E50 Hg8 (by rw [Am6 (by rw [Ba0,Hg8.mem];omega)];exact Hg8.mem)
theorem Ka7:Z1 S0 0 ⟨2,256,0,0,0,0,A82⟩=((0,0,[]),S1):=Iv4 Eo0 G64 (j:=0) rfl rfl (by rw [Dk0];omega)
theorem J95:Z1 S1 0 ⟨2,257,0,0,0,0,P2 q1⟩=((0,0,[]),S2):=Iv4 Ha6 G64 (j:=1) rfl rfl (by rw [Ba0];omega)
theorem Kc3:Z1 S2 0 ⟨2,258,0,0,0,0,P2 q1⟩=((0,0,[]),S3):=Iv4 Hg8 G64 (j:=2) rfl rfl (by rw [Ba0];omega)
abbrev F1:Fr:=frP S3 0 0
def X1:CX:=⟨Dk6 S3.mem (rgP 0),[]⟩
theorem J96:FrOk F1:=He7 I03 G64
theorem Jl7:Clean 3 X1:=by
 refine ⟨by kernel_rfl,by omega,rfl,by kernel_rfl,fun j h0 h1=>?_,fun r h1 h2 h3 h4=>?_⟩
 ·have:j=1∨j=2:=by omega
  rcases this with rfl|rfl
  ·clear h0 h1;show (_:Nat)=_;kernel_rfl
  ·clear h0 h1;show (_:Nat)=_;kernel_rfl
 ·have all:((List.range 8).all (fun i=>decide (stR 1 (rd X1 ⟨1,(i:Int)⟩)≠2)) && ((List.range 12).all (fun i=>decide (stR 2 (rd X1 ⟨2,(i:Int)⟩)≠2)) && ((List.range 6).all (fun i=>decide (stR 3 (rd X1 ⟨3,(i:Int)⟩)≠2)) && (decide (stR 4 (rd X1 ⟨4,0⟩)≠2) && decide (stR 5 (rd X1 ⟨5,0⟩)≠2)))))=true:=by kernel_rfl
  simp only [Bool.and_eq_true,List.all_eq_true,List.mem_range,decide_eq_true_eq] at all;obtain ⟨a1,a2,a3,a4,a5⟩:=all;obtain ⟨k,i⟩:=r;simp only at h1 h2 h3 h4 ⊢;obtain ⟨n,rfl⟩:∃ n:Nat,i=n:=⟨i.toNat,by omega⟩
  have hk:k=1∨k=2∨k=3∨k=4∨k=5:=by omega
  rcases hk with rfl|rfl|rfl|rfl|rfl<;>simp [Ab4] at h4
  ·exact a1 n (by omega)
  ·exact a2 n (by omega)
  ·exact a3 n (by omega)
  ·obtain rfl:n=0:=by omega
   exact a4
  ·obtain rfl:n=0:=by omega
   exact a5
theorem I43 (k w m c:Nat) (b1:Nat) (cs:List Value) (hcs:cs.length=7) (K:RKS) (hK:RKOk K) (hB:0<K.B.envs.length) :
  CtJ H0 As3 Br4 [(6,P0 k),(7,P0 c),(8,P0 w),(9,P0 m),(10,P0 b1),(11,.string (bs (P2 q1))),(12,int 1)] [pt b1 (.cells A97 false cs),E1 k S1,rkC w K] fun v own =>
   v=.tuple ⟨[P0 k,P0 c,P0 w,P0 m]⟩∧∃ K',(RKOk K'∧K'.B=K.B)∧own [E1 k S3,rkC w K']:=by
 have hset:∀ xs:List Value,xs.length=7→∀ vs:List Value,vs.length=7→vs.all Value.oneCell=true→Dk5 xs 0 vs=some vs:=fun xs h vs h1 h2=>Bx3 h h1 h2;refine Cj Dj7 (fun _=>Dh7 ..) fun h r=>?_;refine Yt rfl ?_;rw [Bh4,Ba0];refine Tr.ck (by simp [B3]) ?_;refine Yn fun b2 h=>?_;refine Eh3 (n:=40) 0 rfl (by rw [Aa9];exact Ba0) ?_;refine Je ?_;rw [show IntKind.wrap .i64 (256+1)=257 by decide];refine Gs (fun h=>?_) (by exact hset cs hcs _ rfl rfl);refine Ja ?_;intros;have J1:=Ez4 k S1 0 Ha6.ok (by omega) 0 ⟨2,257,0,0,0,0,P2 q1⟩ (some (Q0 b2)) 40 false (show ((2:Int)≠5) by decide);rw [J95] at J1;simp only [Bx7,Ba0] at J1;refine Db6 J1 [2,0] rfl ?_;rintro _ h ⟨y,z,rfl,o⟩;refine (?_:Tr _ _ _ _) o;refine Je ?_;refine Ja ?_;intros;have R1:=Gs3 w K hK 0 hB ⟨2,257,0,0,0,0,P2 q1⟩ rfl (by rw [Ba0];simp [B3]) (slC false A9 1 (some (Q0 b2)) (P2 q1).length 40 (A0 (P2 q1))) (some (Q0 b2)) 40 false;simp only [Bx7,Ba0] at R1;refine Db6 R1 [4,2] rfl ?_;rintro _ h ⟨rfl,o⟩;rw [show ({ K with R:=(Ao9 K.R ((0:Nat):Int) 257 0 (P2 q1)).2 }:RKS)=wrR K 257 (P2 q1) from rfl] at o;have hK1:=Gj7 hK 257 (P2 q1);refine (?_:Tr _ _ _ _) o;refine Je ?_;refine Ja ?_;intros;refine Yj Dj7 (Dh7 ..) ?_;refine Yt rfl ?_;rw [Bh4,Ba0];refine Tr.ck (by simp [B3]) ?_;refine Yn fun b3 h=>?_;refine Eh3 (n:=40) 0 rfl (by rw [Aa9];exact Ba0) ?_;refine Je ?_;rw [show IntKind.wrap .i64 (256+2)=258 by decide];refine Gs (fun h=>?_) (by exact hset _ rfl _ rfl rfl);refine Ja ?_;intros;have J2:=Ez4 k S2 0 Hg8.ok (by omega) 0 ⟨2,258,0,0,0,0,P2 q1⟩ (some (Q0 b3)) 40 false (show ((2:Int)≠5) by decide);rw [Kc3] at J2;simp only [Bx7,Ba0] at J2;refine Db6 J2 [4,0] rfl ?_;rintro _ h ⟨y2,z2,rfl,o⟩;refine (?_:Tr _ _ _ _) o;refine Je ?_;refine Ja ?_;intros;have R2:=Gs3 w (wrR K 257 (P2 q1)) hK1 0 hB ⟨2,258,0,0,0,0,P2 q1⟩ rfl (by rw [Ba0];simp [B3]) (slC false A9 1 (some (Q0 b3)) (P2 q1).length 40 (A0 (P2 q1))) (some (Q0 b3)) 40 false;simp only [Bx7,Ba0] at R2;refine Db6 R2 [3,2] rfl ?_;rintro _ h ⟨rfl,o⟩;rw [show ({ wrR K 257 (P2 q1) with R:=(Ao9 (wrR K 257 (P2 q1)).R ((0:Nat):Int) 258 0 (P2 q1)).2 }:RKS)=wrR (wrR K 257 (P2 q1)) 258 (P2 q1) from rfl] at o;refine (?_:Tr _ _ _ _) o;refine Je ?_;refine Ja ?_;intros;refine Yj Dj7 (Dh7 ..) ?_;refine Yf rfl ?_;refine Ys fun o=>?_;exact ⟨rfl,_,⟨Gj7 hK1 258 _,rfl⟩,o.fin [3,0] 5 rfl rfl⟩
theorem Js9:RKOk K0:=Gj7 Ed1.1 256 Ag7
theorem It7:0<K0.B.envs.length:=by show (0:Nat)<(Dq0 Ai2).B.envs.length;rw [Ed1.2,Bw5];simp
theorem Jt4 (K:RKS) (cap:Int) (b:List UInt8):(wrR K cap b).B=K.B:=rfl
theorem Kb9:K0.B=Ai2:=(Jt4 (Dq0 Ai2) 256 Ag7).trans Ed1.2
theorem Jp7 (a:Option Addr):Ct B0 As3 [.slice a 492 492] [slC false A9 1 a 492 492 (A0 A82)] fun v own=>∃ k c w m K',(RKOk K'∧K'.B=Ai2)∧v=.tuple ⟨[P0 k,P0 c,P0 w,P0 m]⟩∧own [cmC c k F1 X1,rkC w K',rcC m w 0 (Dl7 K0 0) []]:=by
 refine Co Dj7 (fun _=>H70 ..) fun h r=>?_;refine Yc (Jl6) ?_;rintro _ h ⟨A,rfl,o⟩<;>refine Jh o ?_;refine Ja ?_;intros;refine Yc (Jk7 A) ?_;rintro _ h ⟨k,c,w,m,rfl,o⟩;refine (?_:Tr _ _ _ _) o;refine Je ?_;refine Jb ?_;intros;refine Yb (Yf rfl ?_);refine Yv ?_;refine Yf rfl ?_;refine J60 c k F0 X0 fun f=>?_;rw [show F0.at X0.m=S0 from Fr.at_cut Jt2 (E37 Eo0 (by omega) 0)];refine (?_:Tr (E1 k S0::Z6 c k 0 Jt9 []::_) _ _ _);refine Yn fun b1 h=>?_;refine Ja ?_;intros;refine Yd (Hu5 q1) fun h=>?_;refine Ja ?_;intros;have J1:=Ez4 k S0 0 Eo0.ok (by omega) 0 ⟨2,256,0,0,0,0,A82⟩ a 492 false (show ((2:Int)≠5) by decide);rw [Ka7] at J1;simp only [Bx7,Dk0] at J1;refine Db6 J1 [1,4] rfl ?_;rintro _ h ⟨y,z,rfl,o⟩;refine (?_:Tr _ _ _ _) o;refine Je ?_;refine Ja ?_;intros;have R1:=Gs3 w K0 Js9 0 It7 ⟨2,256,0,0,0,0,A82⟩ rfl (by rw [Dk0];simp [B3]) (slC false A9 1 a A82.length 492 (A0 A82)) a 492 false;simp only [Bx7,Dk0] at R1;refine Db6 R1 [5,2] rfl ?_;rintro _ h ⟨rfl,o⟩;rw [show ({ K0 with R:=(Ao9 K0.R ((0:Nat):Int) 256 0 A82).2 }:RKS)=wrR K0 256 A82 from rfl] at o;refine (?_:Tr _ _ _ _) o;refine Je ?_;refine Ja ?_;intros;refine Dq2 (I43 k w m c b1 _ rfl (wrR K0 256 A82) (Gj7 Js9 256 A82) It7) [4,3,0] rfl ?_;rintro _ h ⟨rfl,K',hK,o⟩;refine ⟨k,c,w,m,K',⟨hK.1,by rw [hK.2,Jt4];exact Kb9⟩,rfl,?_⟩;exact Own.cmTake c k F1 [] J96 (E37 I03 (by omega) 0) (o.fin [0,3,0,2] 2 rfl rfl)
def X2:CX:=(E94 X1 0).2
section
variable {nc:Nat} {X:CX} (c:Clean nc X)
include c
abbrev Bj8 (X:CX) (i:Int) (p:PipeS):CX:=B88 X ⟨3,i⟩ (P2 p)
abbrev Et5 (X:CX) (i:Int):CX:=B88 X ⟨2,i⟩ (List.replicate 8 0)
abbrev G75 (X:CX) (i:Int):CX:=B88 X ⟨3,i⟩ (List.replicate 40 0)
theorem Be9 {i:Int} (h:0≤i∧i<3+nc) {p:PipeS} (ok:okP p=true) :
  Bj5 X i p=(true,Bj8 X i p)∧Clean nc (Bj8 X i p)∧(∀ j:Int,0≤j∧j<8→vS (Bj8 X i p) j=vS X j)∧(∀ j:Int,0≤j∧j<12→vF (Bj8 X i p) j=vF X j)∧(∀ j:Int,0≤j∧j<3+nc→vP (Bj8 X i p) j=if j=i then (p,1) else vP X j):=by
 have hl:(P2 p).length=Y1 (3:Int):=by rw [Bu0 p.len];rfl
 refine ⟨by unfold Bj5;rw [ok];exact Dd8 c (Bq3 h) _,Dc9 c (Bq3 h) hl (by show (V9 (P2 p)).2≠2;rw [Ic2 ok];simp),fun j hj=>?_,fun j hj=>?_,fun j hj=>?_⟩
 ·show Aa5 (rd _ _)=_;rw [Aj3 c (Bq3 h) (Bw0 hj) hl,if_neg (by simp)]
 ·show Ad2 (rd _ _)=_;rw [Aj3 c (Bq3 h) (Bw1 hj) hl,if_neg (by simp)]
 ·show V9 (rd _ _)=_;rw [Aj3 c (Bq3 h) (Bq3 hj) hl];by_cases e:j=i
  ·rw [if_pos (by rw [e]),if_pos e];exact Ic2 ok
  ·rw [if_neg (by simp [e]),if_neg e]
theorem Dq1 {i:Int} (h:0≤i∧i<12) :
  Bz0 X ⟨2,i⟩=(true,Et5 X i)∧Clean nc (Et5 X i)∧(∀ j:Int,0≤j∧j<8→vS (Et5 X i) j=vS X j)∧(∀ j:Int,0≤j∧j<12→vF (Et5 X i) j=if j=i then (.zero,0) else vF X j)∧(∀ j:Int,0≤j∧j<3+nc→vP (Et5 X i) j=vP X j):=by
 have hl:(List.replicate 8 (0:UInt8)).length=Y1 (2:Int):=rfl;refine ⟨Dd8 c (Bw1 h) _,Dc9 c (Bw1 h) hl (by show (Ad2 (List.replicate 8 0)).2≠2;rw [show (Ad2 (List.replicate 8 0))=(.zero,0) from rfl];simp),fun j hj=>?_,fun j hj=>?_,fun j hj=>?_⟩
 ·show Aa5 (rd _ _)=_;rw [Aj3 c (Bw1 h) (Bw0 hj) hl,if_neg (by simp)]
 ·show Ad2 (rd _ _)=_;rw [Aj3 c (Bw1 h) (Bw1 hj) hl];by_cases e:j=i
  ·rw [if_pos (by rw [e]),if_pos e];rfl
  ·rw [if_neg (by simp [e]),if_neg e]
 ·show V9 (rd _ _)=_;rw [Aj3 c (Bw1 h) (Bq3 hj) hl,if_neg (by simp)]
theorem Do9 {i:Int} (h:0≤i∧i<3+nc) :
  Bz0 X ⟨3,i⟩=(true,G75 X i)∧Clean nc (G75 X i)∧(∀ j:Int,0≤j∧j<8→vS (G75 X i) j=vS X j)∧(∀ j:Int,0≤j∧j<12→vF (G75 X i) j=vF X j)∧(∀ j:Int,0≤j∧j<3+nc→vP (G75 X i) j=if j=i then (.zero,0) else vP X j):=by
 have hl:(List.replicate 40 (0:UInt8)).length=Y1 (3:Int):=rfl;refine ⟨Dd8 c (Bq3 h) _,Dc9 c (Bq3 h) hl (by show (V9 (List.replicate 40 0)).2≠2;rw [show (V9 (List.replicate 40 0))=(.zero,0) from rfl];simp),fun j hj=>?_,fun j hj=>?_,fun j hj=>?_⟩
 ·show Aa5 (rd _ _)=_;rw [Aj3 c (Bq3 h) (Bw0 hj) hl,if_neg (by simp)]
 ·show Ad2 (rd _ _)=_;rw [Aj3 c (Bq3 h) (Bw1 hj) hl,if_neg (by simp)]
 ·show V9 (rd _ _)=_;rw [Aj3 c (Bq3 h) (Bq3 hj) hl];by_cases e:j=i
  ·rw [if_pos (by rw [e]),if_pos e];rfl
  ·rw [if_neg (by simp [e]),if_neg e]
theorem Hc5 {i:Int} (h:0≤i∧i<3+nc):((vP X i).2=0∧(vP X i).1=.zero)∨((vP X i).2=1∧okP (vP X i).1=true):=by
 have:=c.ok ⟨3,i⟩ (by simp) (by simp) h.1 h.2;have hk:(vP X i).2≠2:=this;unfold vP V9 at hk ⊢
 split
 ·exact .inl ⟨rfl,rfl⟩
 ·split
  ·rename_i h2
   unfold isP at h2;simp only [Bool.and_eq_true] at h2;exact .inr ⟨rfl,h2.1⟩
  ·rename_i h1 h2;simp [h1,h2] at hk
end
abbrev I38 (q:PipeS):PipeS:=⟨q.head,q.count,max (q.readers-1) 0,q.writers,q.data,q.len⟩
abbrev I39 (q:PipeS):PipeS:=⟨q.head,q.count,q.readers,max (q.writers-1) 0,q.data,q.len⟩
def Gm1 (kind:Int) (q:PipeS):PipeS:=if kind=1 then I38 q else I39 q
theorem Hl2 {q:PipeS} (h:okP q=true) (kind:Int):okP (Gm1 kind q)=true:=by
 unfold Gm1
 split<;>(simp only [okP,Bool.and_eq_true,decide_eq_true_eq] at h ⊢;omega)
def Ez0 (X:CX) (i:Int) (q:PipeS):CX:=if q.readers+q.writers=0∧i<4 then G75 X i else Bj8 X i q
def Bo9 (nc:Nat) (X:CX) (f:Int):Int × CX :=
 if (vF X f).2≠1 then (105,X)
 else if (vF X f).1.refs-1>0 then (0,A56 X f (Da3 (vF X f).1 (-1)))
 else if (vF X f).1.kind=3 then (0,Et5 X f)
 else if ¬ ((vF X f).1.pipe<3+nc∧(vP X (vF X f).1.pipe).2=1) then (105,Et5 X f)
 else (0,Ez0 (Et5 X f) (vF X f).1.pipe (Gm1 (vF X f).1.kind (vP X (vF X f).1.pipe).1))
theorem I79 {nc:Nat} {X:CX} (c:Clean nc X) {i:Int} (h:¬ i<3+nc):D88 X i=((.zero,2),X):=by
 have hp:L0 X.m.length ⟨3,i⟩=none:=by
  unfold L0;rw [c.len,if_pos (by simp [Ab4];omega)]
 unfold D88 Ab6 rdX;rw [hp]
theorem G81 {f:FileS} (h:okF f=true):0≤f.pipe:=by
 simp only [okF,Bool.and_eq_true,Bool.or_eq_true,decide_eq_true_eq,beq_iff_eq,bne_iff_ne] at h;omega
theorem Ih9 {nc:Nat} {X:CX} (c:Clean nc X) {i:Int} (h:0≤i∧i<3+nc) {q:PipeS} (ok:okP q=true):Clean nc (Ez0 X i q):=by
 unfold Ez0
 split
 ·exact (Do9 c h).2.1
 ·exact (Be9 c h ok).2.1
theorem Gz5 (b k:Nat) (F:Fr) (ok:FrOk F) {nc:Nat} {X:CX} (c:Clean nc X) (b1 b2:Nat) (g:FileS) (q:PipeS) (hi:0≤g.pipe∧g.pipe<3+nc) (hq:okP q=true) :
  CtJ H0 Ae1 A45 [(0,P0 b),(5,P0 b1),(7,P0 b2)] [pt b1 (.cells D9 false (Am5 g)),pt b2 (.cells E6 false (M6 q)),cmC b k F X] fun v own=>v=int 0∧own [cmC b k F (Ez0 X g.pipe q)]:=by
 have hr:0≤q.readers∧q.readers≤8∧0≤q.writers∧q.writers≤8:=by
  simp only [okP,Bool.and_eq_true,decide_eq_true_eq] at hq;omega
 have e1:IntKind.wrap .i64 (q.readers+q.writers)=q.readers+q.writers:=by rw [B8];omega
 obtain ⟨f1,_⟩:=Do9 c hi;obtain ⟨w1,_⟩:=Be9 c hi hq;unfold Ez0;refine Cj Ea6 (fun _=>Ge1 ..) fun h r=>?_;refine Jb ?_;intros;rw [e1];refine Tr.andG (c:=decide (g.pipe<4)) (fun hb=>?_) ?_
 ·exact Jz
 by_cases h:q.readers+q.writers=0∧g.pipe<4
 ·rw [if_pos h];refine Yt (by simp [h.1,h.2]) ?_;refine Ja ?_;intros;refine Yd (Ie8 b k F X ok g.pipe) fun h=>?_;rw [f1];dsimp only;refine Ja ?_;intros;refine Yd (Dc2 true 0) fun h=>?_;rw [if_pos trivial];refine Ja ?_;intros;exact Yz
 ·rw [if_neg h];refine Yf (by simp;omega) ?_;refine Ja ?_;intros;refine Yd (Es0 b k F X ok g.pipe q) fun h=>?_;rw [w1];dsimp only;refine Ja ?_;intros;refine Yd (Dc2 true 0) fun h=>?_;rw [if_pos trivial];refine Ja ?_;intros;exact Yz
theorem H52 (b k:Nat) (F:Fr) (X:CX) (ok:FrOk F) {nc:Nat} (c:Clean nc X) (f:Int) (hf:0≤f∧f<12):Ct B0 Ae1 [P0 b,int f] [cmC b k F X] fun v own=>v=int (Bo9 nc X f).1∧own [cmC b k F (Bo9 nc X f).2]:=by
 have hrf:=Hn6 c hf;have e1:IntKind.wrap .i64 ((vF X f).1.refs-1)=(vF X f).1.refs+-1:=by rw [B8];omega
 obtain ⟨z1,z2,z3,z4,z5⟩:=Dq1 c hf;unfold Bo9;refine Co Ea6 (fun _=>G23 ..) fun h r=>?_;refine Yd (Ag5 b k F X ok) fun h=>?_;rw [Q8 c];refine Ja ?_;intros;refine Yd (Do7 b k F X ok f) fun h=>?_;rw [Bp3 c hf];dsimp only;refine Jc ?_;intros;refine Yn fun b1 h=>?_;refine Ja ?_;intros;by_cases h1:(vF X f).2=1
 case neg =>
  rw [if_pos h1];refine Yt (by simpa using h1) ?_;exact Yz
 rw [if_neg (by simpa using h1)];refine Yf (by simpa using h1) ?_
 have hk:okF (vF X f).1=true:=by
  rcases Hh4 c hf with ⟨h2,_⟩|⟨_,h2⟩
  ·rw [h1] at h2;cases h2
  ·exact h2
 have hr:=Ez9 hk;have hpp:=G81 hk;generalize hg:(vF X f).1=g at hrf e1 hk hr hpp;refine Ja ?_;intros;simp only [e1,List.set_cons_succ,List.set_cons_zero];refine Ja ?_;intros;by_cases h2:g.refs-1>0
 ·rw [if_pos h2];refine Yt (by simp;omega) ?_;have hk2:=Ga6 hk (n:=-1) (by omega);obtain ⟨w1,_⟩:=Aj2 c hf hk2;refine Ja ?_;intros;simp only [List.drop_zero,List.take];refine Yd (Ds6 b k F X ok f (Da3 g (-1))) fun h=>?_;rw [w1];dsimp only;refine Ja ?_;intros;refine Yd (Dc2 true 0) fun h=>?_;rw [if_pos trivial];refine Ja ?_;intros;exact Yz
 rw [if_neg h2];refine Yf (by simp;omega) ?_;refine Yd (H22 b k F X ok f) fun h=>?_;rw [z1];dsimp only;refine Ja ?_;intros;by_cases h3:g.kind=3
 ·rw [if_pos h3];refine Yt (by simpa using h3) ?_;exact Yz
 rw [if_neg h3];refine Yf (by simpa using h3) ?_;refine Ja ?_;intros;refine Yd (E60 b k F (Et5 X f) ok g.pipe) fun h=>?_;by_cases h4:g.pipe<3+(nc:Int)
 case neg =>
  rw [if_pos (fun h=>h4 h.1),I79 z2 h4];dsimp only;refine Jc ?_;intros;refine Yn fun b2 h=>?_;refine Ja ?_;intros;exact Yz
 rw [Dt9 z2 ⟨hpp,h4⟩,z5 _ ⟨hpp,h4⟩];dsimp only;refine Jc ?_;intros;refine Yn fun b2 h=>?_;refine Ja ?_;intros;by_cases h5:(vP X g.pipe).2=1
 case neg =>
  rw [if_pos (fun h=>h5 h.2)];refine Yt (by simpa using h5) ?_;exact Yz
 rw [if_neg (fun h=>h ⟨h4,h5⟩)];refine Yf (by simpa using h5) ?_
 have hq:okP (vP X g.pipe).1=true:=by
  rcases Hc5 c ⟨hpp,h4⟩ with ⟨h6,_⟩|⟨_,h6⟩
  ·rw [h5] at h6;cases h6
  ·exact h6
 have hq2:=Hl2 hq g.kind;generalize (vP X g.pipe).1=q at hq hq2
 have hqr:0≤q.readers∧q.readers≤8∧0≤q.writers∧q.writers≤8:=by
  simp only [okP,Bool.and_eq_true,decide_eq_true_eq] at hq;omega
 have e2:IntKind.wrap .i64 (q.readers-1)=q.readers-1:=by rw [B8];omega
 have e3:IntKind.wrap .i64 (q.writers-1)=q.writers-1:=by rw [B8];omega
 refine Ja ?_;intros;by_cases h6:g.kind=1
 ·refine Yt (by simpa using h6) ?_;have ee:Gm1 g.kind q=I38 q:=by unfold Gm1;rw [if_pos h6]
  rw [ee] at hq2 ⊢;refine Ja ?_;intros;rw [e2,Ab7,show (M6 q).set 2 (int (max (q.readers-1) 0))=M6 (I38 q) from rfl];refine Dq2 (Gz5 b k F ok z2 b1 b2 (Da3 g (-1)) (I38 q) ⟨hpp,h4⟩ hq2) [2,0,0] rfl ?_;intro v h q;exact q
 ·refine Yf (by simpa using h6) ?_;have ee:Gm1 g.kind q=I39 q:=by unfold Gm1;rw [if_neg h6]
  rw [ee] at hq2 ⊢;refine Ja ?_;intros;rw [e3,Ab7,show (M6 q).set 3 (int (max (q.writers-1) 0))=M6 (I39 q) from rfl];refine Dq2 (Gz5 b k F ok z2 b1 b2 (Da3 g (-1)) (I39 q) ⟨hpp,h4⟩ hq2) [2,0,0] rfl ?_;intro v h q;exact q
theorem Gg6 {nc:Nat} {X:CX} (c:Clean nc X) {f:Int} (hf:0≤f∧f<12):Clean nc (Bo9 nc X f).2:=by
 have z2:=(Dq1 c hf).2.1;unfold Bo9;by_cases h1:(vF X f).2=1
 case neg=>rw [if_pos h1];exact c
 rw [if_neg (by simpa using h1)]
 have hk:okF (vF X f).1=true:=by
  rcases Hh4 c hf with ⟨h2,_⟩|⟨_,h2⟩
  ·rw [h1] at h2;cases h2
  ·exact h2
 have hr:=Ez9 hk;by_cases h2:(vF X f).1.refs-1>0
 ·rw [if_pos h2];exact (Aj2 c hf (Ga6 hk (n:=-1) (by omega))).2.1
 rw [if_neg h2];by_cases h3:(vF X f).1.kind=3
 ·rw [if_pos h3];exact z2
 rw [if_neg h3];by_cases h4:(vF X f).1.pipe<3+nc∧(vP X (vF X f).1.pipe).2=1
 case neg=>rw [if_pos h4];exact z2
 rw [if_neg (fun h=>h h4)];have hi:0≤(vF X f).1.pipe∧(vF X f).1.pipe<3+nc:=⟨G81 hk,h4.1⟩
 have hq:okP (vP X (vF X f).1.pipe).1=true:=by
  rcases Hc5 c hi with ⟨h6,_⟩|⟨_,h6⟩
  ·rw [h4.2] at h6;cases h6
  ·exact h6
 exact Ih9 z2 hi (Hl2 hq _)
def closeL (nc:Nat):List Int→CX→CX
 | [],X=>X
 | f::l,X=>closeL nc l (if f>0 then (Bo9 nc X (f-1)).2 else X)
theorem Eh8 {nc:Nat}:∀ (l:List Int) (X:CX),Bq4 l→Clean nc X→Clean nc (closeL nc l X)
 | [],X,_,c=>c
 | f::l,X,hf,c=>by
  have h1:=hf f (by simp);have hl:Bq4 l:=fun x hx=>hf x (by simp [hx]);rw [show closeL nc (f::l) X=closeL nc l (if f>0 then (Bo9 nc X (f-1)).2 else X) from rfl]
  split
  ·exact Eh8 l _ hl (Gg6 c (by omega))
  ·exact Eh8 l _ hl c
abbrev Dt2 (p:ProcS):ProcS:=⟨p.state,p.parent,p.group,p.code,p.pending,p.mask,p.ignored,p.caught,B65,rfl⟩
theorem Ho5 {p:ProcS} (h:okS p=true):okS (Dt2 p)=true:=by
 unfold okS at h ⊢;simp only [Bool.and_eq_true] at h ⊢;refine ⟨h.1,h.2.1,by decide,?_⟩;have:=h.2.2.2;by_cases h2:p.state=2
 ·rw [if_pos h2] at this;rw [if_pos (show (Dt2 p).state=2 from h2)];simp only [Bool.and_eq_true] at this ⊢;exact ⟨this.1,by simp⟩
 ·rw [if_neg h2] at this;rw [if_neg (show ¬ (Dt2 p).state=2 from h2)];exact this
def W4 (nc:Nat) (X:CX) (i:Int):CX:=if (vS X i).2=1 then As5 (closeL nc (vS X i).1.fds X) i (Dt2 (vS X i).1) else X
theorem Hp0 (b k:Nat) (F:Fr) (ok:FrOk F) {nc:Nat} (i:Int) (hi:0≤i∧i<8) (b1:Nat) (p:ProcS) (hp:okS p=true) (hin:InS p) (fds:List Int) (hl:fds.length=8) (hf:Bq4 fds):∀ (m n:Nat) (X:CX),n+m=8→Clean nc X →
  CtJ H0 Aa8 As0 [(0,P0 b),(1,int i),(4,P0 b1),(19,.agg ⟨fds.map int⟩),(20,int n)] [pt b1 (.cells B2 false (B5 p)),cmC b k F X] fun v own=>v=.tuple ⟨[]⟩∧own [cmC b k F (As5 (closeL nc (fds.drop n) X) i (Dt2 p))]:=by
 intro m
 induction m with
 | zero =>
  intro n X hn c;have:n=8:=by omega
  subst this;rw [show fds.drop 8=[] from List.drop_eq_nil_of_le (by omega),show closeL nc [] X=X from rfl];obtain ⟨w1,_⟩:=O7 c hi (Ho5 hp) ⟨hin.a,hin.b,hin.c,hin.d⟩;refine Cj Df5 (fun _=>Dw7 ..) fun h r=>?_;refine Yf (by simp) ?_
  refine Gs (fun h=>?_) (by exact (show Dk5 (B5 p) 8 (B65.map int)=some (B5 (Dt2 p)) from by
   have hlen:(B5 p).length=16:=A00 p;have e:Nat.ble (8+(B65.map int).length) (B5 p).length=true:=by rw [hlen];rfl
   rw [Dk5,e];have h9:(B5 p).drop (8+(B65.map int).length)=[]:=List.drop_eq_nil_of_le (by rw [hlen];decide);rw [h9];rfl))
  generalize Dt2 p=q at w1;refine Ja ?_;intros;refine Yd (Ah8 b k F X ok i q) fun h=>?_;rw [w1];refine Ja ?_;intros;exact Yz
 | succ m ih =>
  intro n X hn c;have e1:=wN n;have hil:n<fds.length:=by omega
  have hg:=G41 hil
  have hd:fds.drop n=fds.getD n 0::fds.drop (n+1):=by
   rw [List.drop_eq_getElem_cons hil,List.getD_eq_getElem?_getD,List.getElem?_eq_getElem hil];rfl
  have hr:0≤fds.getD n 0∧fds.getD n 0≤12:=hf _ (by
   rw [List.getD_eq_getElem?_getD,List.getElem?_eq_getElem hil];exact List.getElem_mem _)
  rw [hd];generalize fds.getD n 0=f at hg hr;rw [show closeL nc (f::fds.drop (n+1)) X=closeL nc (fds.drop (n+1)) (if f>0 then (Bo9 nc X (f-1)).2 else X) from rfl];refine Cj Df5 (fun _=>Dw7 ..) fun h r=>?_;refine Yt (by simp;omega) ?_;rw [e1];refine Tr.ck (by omega) ?_;rw [Int.toNat_natCast];refine Ja ?_;intros;by_cases hz:f>0
  ·rw [if_pos hz];refine Yt (by simpa using hz) ?_;rw [show IntKind.wrap .i64 (f-1)=f-1 by rw [B8];omega];refine Yd (H52 b k F X ok c (f-1) (by omega)) fun h=>?_;refine Ja ?_;intros;refine Yr (ih (n+1) (Bo9 nc X (f-1)).2 (by omega) (Gg6 c (show 0≤f-1∧f-1<12 by omega))) ?_;intro v h q;exact q
  ·rw [if_neg hz];refine Yf (by simpa using hz) ?_;refine Yr (ih (n+1) X (by omega) c) ?_;intro v h q;exact q
theorem Il5 (b k:Nat) (F:Fr) (X:CX) (ok:FrOk F) {nc:Nat} (c:Clean nc X) (i:Int) (hi:0≤i∧i<8):Ct B0 Aa8 [P0 b,int i] [cmC b k F X] fun v own=>v=.tuple ⟨[]⟩∧own [cmC b k F (W4 nc X i)]:=by
 unfold W4;refine Co Df5 (fun _=>Hi2 ..) fun h r=>?_;refine Yd (Ag5 b k F X ok) fun h=>?_;rw [Q8 c];refine Ja ?_;intros;refine Yd (Aa6 b k F X ok i) fun h=>?_;rw [O8 c hi];dsimp only;refine Jc ?_;intros;refine Yn fun b1 h=>?_;refine Ja ?_;intros;by_cases h1:(vS X i).2=1
 case neg =>
  rw [if_neg h1];refine Yt (by simpa using h1) ?_;exact Yz
 rw [if_pos h1];refine Yf (by simpa using h1) ?_
 have hk:okS (vS X i).1=true:=by
  rcases Du5 c hi with ⟨h2,_⟩|⟨_,h2⟩
  ·rw [h1] at h2;cases h2
  ·exact h2
 have hin:=A65 (rd X ⟨1,i⟩);refine Ja ?_;intros;refine Dq2 (Hp0 b k F ok i hi b1 _ hk hin _ (vS X i).1.len (Do4 hk) 8 0 X rfl c) [0,0] rfl ?_;intro v h q;exact q
abbrev E97 (p:ProcS):ProcS:=⟨p.state,0,p.group,p.code,p.pending,p.mask,p.ignored,p.caught,p.fds,p.len⟩
theorem Hl7 {p:ProcS} (h:okS p=true):okS (E97 p)=true:=by
 unfold okS at h ⊢;simp only [Bool.and_eq_true,Bool.not_eq_true',Bool.or_eq_false_iff,decide_eq_false_iff_not] at h ⊢;obtain ⟨⟨⟨⟨⟨⟨⟨⟨a1,a2⟩,a3⟩,a4⟩,a5⟩,a6⟩,a7⟩,a8⟩,b1,d1,d2⟩:=h;exact ⟨⟨⟨⟨⟨⟨⟨⟨a1,a2⟩,by decide⟩,by decide⟩,a5⟩,a6⟩,a7⟩,a8⟩,b1,d1,d2⟩
def orphL:List (Int × ProcS)→CX→CX
 | [],X=>X
 | s::l,X=>orphL l (if s.2.state=2 then D22 X s.1 else As5 X s.1 (E97 s.2))
def SlOk (L:List (Int × ProcS)):Prop:=∀ s ∈ L,(0≤s.1∧s.1<8)∧okS s.2=true∧InS s.2
theorem Dx9 {nc:Nat} {X:CX} (c:Clean nc X) (q:Int→ProcS→Bool):∀ (m:Nat) (i:Int),0≤i→i+m=8→SlOk (N9 X q m i)
 | 0,i,_,_,s,hs=>by simp [N9] at hs
 | m+1,i,h0,hi,s,hs=>by
  rw [show N9 X q (m+1) i=if (vS X i).2=1∧q i (vS X i).1=true then (i,(vS X i).1)::N9 X q m (i+1) else N9 X q m (i+1) from rfl] at hs
  split at hs
  ·rename_i h1
   rcases List.mem_cons.1 hs with rfl|h2
   ·refine ⟨⟨h0,by simp only;omega⟩,?_,A65 _⟩;rcases Du5 c (i:=i) (by omega) with ⟨h3,_⟩|⟨_,h3⟩
    ·rw [h1.1] at h3;cases h3
    ·exact h3
   ·exact Dx9 c q m (i+1) (by omega) (by omega) s h2
  ·exact Dx9 c q m (i+1) (by omega) (by omega) s hs
theorem Hr1 {nc:Nat} {X:CX} (c:Clean nc X) {s:Int × ProcS} (h:(0≤s.1∧s.1<8)∧okS s.2=true∧InS s.2):Clean nc (if s.2.state=2 then D22 X s.1 else As5 X s.1 (E97 s.2)):=by
 split
 ·exact (Bg0 c h.1).2.1
 ·exact (O7 c h.1 (Hl7 h.2.1) ⟨h.2.2.a,h.2.2.b,h.2.2.c,h.2.2.d⟩).2.1
theorem Gz1 {nc:Nat}:∀ (L:List (Int × ProcS)) (X:CX),SlOk L→Clean nc X→Clean nc (orphL L X)
 | [],X,_,c=>c
 | s::l,X,hL,c=>Gz1 l _ (fun x hx=>hL x (by simp [hx])) (Hr1 c (hL s (by simp)))
theorem Jg4 (j:Int) (q:ProcS):By8 (int j::B5 q) 1 16=some (B5 q):=by
 have e:Nat.ble (1+16) (int j::B5 q).length=true:=by rw [Ac8];rfl
 rw [By8,e,List.drop_succ_cons,List.drop_zero,List.take_of_length_le (by rw [A00];omega)];rfl
theorem I11 (b k:Nat) (F:Fr) (ok:FrOk F) {nc:Nat} (L:List (Int × ProcS)) (hL:SlOk L) (h8:L.length≤8) (a:Option Addr) (ac:Nat):∀ (m n:Nat) (X:CX),n+m=L.length→Clean nc X →
  CtJ H0 Ai7 A27 [(0,P0 b),(8,.slice a L.length ac),(9,int L.length),(10,int n)] [slC false J7 17 a L.length ac (L.flatMap A48),cmC b k F X] fun v own=>v=.tuple ⟨[]⟩∧own [cmC b k F (orphL (L.drop n) X)]:=by
 intro m
 induction m with
 | zero =>
  intro n X hn c;rw [show L.drop n=[] from List.drop_eq_nil_of_le (by omega),show orphL [] X=X from rfl];refine Cj D11 (fun _=>Eb1 ..) fun h r=>?_;refine Yf (by simp;omega) ?_;exact Yz
 | succ m ih =>
  intro n X hn c;have hil:n<L.length:=by omega
  have e1:=wN n;have hg:L[n]?=some L[n]:=List.getElem?_eq_getElem hil;have hd:L.drop n=L[n]::L.drop (n+1):=List.drop_eq_getElem_cons hil;have hs:=hL _ (List.getElem_mem hil);rw [hd];generalize L[n]=s at hg hs;obtain ⟨j,p⟩:=s;have hstep:=Hr1 c hs;obtain ⟨hj,hk,hin⟩:=hs;simp only at hj hk hin hstep;rw [show orphL ((j,p)::L.drop (n+1)) X=orphL (L.drop (n+1)) (if p.state=2 then D22 X j else As5 X j (E97 p)) from rfl];have hpart:=Av3 (f:=A48) (k:=17) (fun x=>Ac8 x.1 x.2) hg;have hlen:=V4 (f:=A48) (k:=17) (fun x=>Ac8 x.1 x.2) L;refine Cj D11 (fun _=>Eb1 ..) fun h r=>?_;refine Yt (by simp;omega) ?_;rw [e1];refine S4 0 rfl fun h1 h2 h3=>?_;(refine Jc ?_;intros;repeat(refine Gw ?_;rintro px rfl;refine Jc ?_;intros));rw [Int.toNat_natCast];refine Tr.xAggS (xs:=A48 (j,p)) ⟨by omega,by omega,hpart⟩ ?_;refine Yn fun b2 h=>?_;refine Ja ?_;intros;refine Yd (G62 j p) fun h=>?_;refine Ja ?_;intros;by_cases hz:p.state=2
  ·rw [if_pos hz] at hstep ⊢;refine Yt (by simp [hz]) ?_;refine Ja ?_;intros;refine Yd (Dk9 b k F X ok j) fun h=>?_;rw [(Bg0 c hj).1];dsimp only;refine Ja ?_;intros;refine N8 [2,0] 1 rfl rfl ?_;refine Yr (ih (n+1) _ (by omega) hstep) ?_;intro v h q;exact q
  ·rw [if_neg hz] at hstep ⊢;refine Yf (by simp [hz]) ?_;obtain ⟨w1,_⟩:=O7 c hj (Hl7 hk) ⟨hin.a,hin.b,hin.c,hin.d⟩;refine Ja ?_;intros;rw [show (int j::B5 p).set 2 (int 0)=int j::B5 (E97 p) from rfl];generalize E97 p=q at w1 hstep;refine Gs ?_ (by exact Jg4 j q);refine Yd (Ah8 b k F X ok j q) fun h=>?_;rw [w1];dsimp only;refine Ja ?_;intros;refine N8 [2,0] 1 rfl rfl ?_;refine Yr (ih (n+1) _ (by omega) hstep) ?_;intro v h q;exact q
theorem Ji5 (bi:Nat) (i:Int) (hi:0≤i∧i<8) (j:Int) (p:ProcS):Ct B0 A87 [.agg ⟨int j::B5 p⟩,P0 bi] [pt bi (.cells B9 false [int i])] fun v own=>v=.bool (j != i && p.parent==i+1)∧own [pt bi (.cells B9 false [int i])]:=by
 have e1:=wI i;refine Co G93 (fun _=>He2 ..) fun h r=>?_;refine Ja ?_;intros;refine Ys fun o=>?_;rw [e1];exact ⟨rfl,o.sub⟩
abbrev H02 (i:Int) (j:Int) (p:ProcS):Bool:=j != i && p.parent==i+1
def A84 (X:CX) (i:Int):CX:=orphL (N9 X (H02 i) 8 0) X
theorem Jg2 (b k:Nat) (F:Fr) (X:CX) (ok:FrOk F) {nc:Nat} (c:Clean nc X) (i:Int) (hi:0≤i∧i<8):Ct B0 Ai7 [P0 b,int i] [cmC b k F X] fun v own=>v=.tuple ⟨[]⟩∧own [cmC b k F (A84 X i)]:=by
 unfold A84;refine Co D11 (fun _=>Hz5 ..) fun h r=>?_;refine Yn fun bi h=>?_;refine Yc (G24 b k F X ok c (pt bi (.cells B9 false [int i])) A87 [P0 bi] (H02 i) (fun j p=>Ji5 bi i hi j p)) ?_;rintro _ h ⟨a,ac,rfl,o⟩<;>refine Jh o ?_;refine Ja ?_;intros;refine N8 [0,0] 1 rfl rfl ?_;refine Yr (I11 b k F ok _ (Dx9 c _ 8 0 (by omega) (by omega)) (D61 X _ 8 0) a ac _ 0 X (Nat.zero_add _) c) ?_;intro v h q;exact q
abbrev E92 (code:Int):Int:=Int.tmod (IntKind.wrap .i64 (Int.tmod code 256+256)) 256
theorem Jo5 (code:Int):0≤E92 code∧E92 code≤255:=by
 have h1:=Int.tmod_lt_of_pos code (show (0:Int)<256 by omega)
 have h2:-256<Int.tmod code 256:=by
  have:=Int.lt_tmod_of_pos code (show (0:Int)<256 by omega);omega
 unfold E92;rw [B8];generalize Int.tmod code 256=x at h1 h2;rw [Iv7 (by omega)];omega
abbrev Gq7 (p:ProcS) (code:Int):ProcS:=⟨2,p.parent,p.group,E92 code,0,p.mask,p.ignored,p.caught,B65,rfl⟩
theorem Iu6 {p:ProcS} (h:okS p=true) (code:Int):okS (Gq7 p code)=true:=by
 have hc:=Jo5 code;unfold okS at h ⊢;rw [if_pos (show (Gq7 p code).state=2 from rfl)];simp only [Bool.and_eq_true,Bool.not_eq_true',Bool.or_eq_false_iff,decide_eq_false_iff_not] at h ⊢;obtain ⟨⟨⟨⟨⟨⟨⟨⟨a1,a2⟩,a3⟩,a4⟩,a5⟩,a6⟩,a7⟩,a8⟩,⟨⟨⟨⟨b1,b2⟩,b3⟩,b4⟩,b5⟩,d1,d2⟩:=h;refine ⟨⟨⟨⟨⟨⟨⟨⟨by decide,by decide⟩,a3⟩,a4⟩,a5⟩,a6⟩,by show ¬ E92 code<0;omega⟩,by show ¬ E92 code>255;omega⟩,⟨⟨⟨⟨by simp [Jh3],b2⟩,b3⟩,b4⟩,b5⟩,by decide,by simp⟩
def E21 (nc:Nat) (X:CX) (i code:Int):List Value × CX :=
 if (N4 X i).2≠0 then (I2 0 (N4 X i).2 false,X)
 else if (vS (A84 (W4 nc X i) i) i).2≠1 then (I2 0 105 false,A84 (W4 nc X i) i)
 else if (vS (A84 (W4 nc X i) i) i).1.parent>0∧(vS (A84 (W4 nc X i) i) ((vS (A84 (W4 nc X i) i) i).1.parent-1)).2=1∧(vS (A84 (W4 nc X i) i) ((vS (A84 (W4 nc X i) i) i).1.parent-1)).1.state≠2 then (I2 0 0 false,As5 (A84 (W4 nc X i) i) i (Gq7 (vS (A84 (W4 nc X i) i) i).1 code))
 else (I2 0 0 false,D22 (A84 (W4 nc X i) i) i)
theorem Hh0 {nc:Nat} {X:CX} (c:Clean nc X) {i:Int} (hi:0≤i∧i<8):Clean nc (W4 nc X i):=by
 unfold W4
 split
 ·rename_i h1
  have hk:okS (vS X i).1=true:=by
   rcases Du5 c hi with ⟨h2,_⟩|⟨_,h2⟩
   ·rw [h1] at h2;cases h2
   ·exact h2
  have hin:=A65 (rd X ⟨1,i⟩);exact (O7 (Eh8 _ _ (Do4 hk) c) hi (Ho5 hk) ⟨hin.a,hin.b,hin.c,hin.d⟩).2.1
 ·exact c
theorem Im2 {nc:Nat} {X:CX} (c:Clean nc X) (i:Int):Clean nc (A84 X i):=Gz1 _ _ (Dx9 c _ 8 0 (by omega) (by omega)) c
theorem Ir8 {p:ProcS} (h:okS p=true):0≤p.parent∧p.parent≤8:=by
 unfold okS at h;simp only [Bool.and_eq_true,Bool.not_eq_true',Bool.or_eq_false_iff,decide_eq_false_iff_not] at h;have:=h.1;omega
theorem Jp4 (p:ProcS):Dk5 (B5 p) 8 (B65.map int)=some (B5 (Dt2 p)):=by
 have hlen:(B5 p).length=16:=A00 p;have e:Nat.ble (8+(B65.map int).length) (B5 p).length=true:=by rw [hlen];rfl
 rw [Dk5,e];have h9:(B5 p).drop (8+(B65.map int).length)=[]:=List.drop_eq_nil_of_le (by rw [hlen];decide);rw [h9];rfl
theorem Jz2 (b k:Nat) (F:Fr) (X:CX) (ok:FrOk F) {nc:Nat} (c:Clean nc X) (i code:Int) (hi:0≤i∧i<8):Ct B0 B51 [P0 b,int i,int code] [cmC b k F X] fun v own=>v=.agg ⟨(E21 nc X i code).1⟩∧own [cmC b k F (E21 nc X i code).2]:=by
 have c1:=Hh0 c hi;have c2:=Im2 c1 i;unfold E21;refine Co In0 (fun _=>Il7 ..) fun h r=>?_;refine Yn fun b0 h=>?_;refine Yd (B02 b k F X ok c i hi) fun h=>?_;refine Jc ?_;intros;refine Yn fun b1 h=>?_;refine Ja ?_;intros;by_cases h0:(N4 X i).2=0
 case neg =>
  rw [if_pos h0];refine Yt (by simpa using h0) ?_;refine Ye (Bf1 (N4 X i).2) fun h=>?_;intros;exact Yz
 rw [if_neg (by simpa using h0)];refine Yf (by simpa using h0) ?_;refine Yd (Il5 b k F X ok c i hi) fun h=>?_;refine Ja ?_;intros;refine Yd (Jg2 b k F _ ok c1 i hi) fun h=>?_;generalize A84 (W4 nc X i) i=Y at c2;refine Ja ?_;intros;refine Yd (Aa6 b k F Y ok i) fun h=>?_;rw [O8 c2 hi];dsimp only;refine Jc ?_;intros;refine Yn fun b2 h=>?_;refine Ja ?_;intros;by_cases h1:(vS Y i).2=1
 case neg =>
  rw [if_pos h1];refine Yt (by simpa using h1) ?_;refine Ye (Bf1 105) fun h=>?_;intros;exact Yz
 rw [if_neg (by simpa using h1)];refine Yf (by simpa using h1) ?_
 have hk:okS (vS Y i).1=true:=by
  rcases Du5 c2 hi with ⟨h2,_⟩|⟨_,h2⟩
  ·rw [h1] at h2;cases h2
  ·exact h2
 have hin:InS (vS Y i).1:=A65 _;have hpar:=Ir8 hk;have hdead:=Iu6 hk code;generalize (vS Y i).1=p at hk hpar hdead hin;obtain ⟨z1,_⟩:=Bg0 c2 hi;refine Ja ?_;intros;by_cases h2:p.parent>0
 case neg =>
  rw [if_neg (fun h=>h2 h.1)];refine Yf (by simpa using h2) ?_;refine Yd (Dk9 b k F Y ok i) fun h=>?_;rw [z1];dsimp only;refine Ja ?_;intros;refine Yd (Dc2 true 0) fun h=>?_;rw [if_pos trivial];refine Ja ?_;intros;exact Yz
 refine Yt (by simpa using h2) ?_;refine Ja ?_;intros;rw [show IntKind.wrap .i64 (p.parent-1)=p.parent-1 by rw [B8];omega];refine Yd (Aa6 b k F Y ok (p.parent-1)) fun h=>?_;rw [O8 c2 (show 0≤p.parent-1∧p.parent-1<8 by omega)];dsimp only;refine Jc ?_;intros;refine Yn fun b3 h=>?_;refine Jb ?_;intros;refine Tr.andG (c:=(vS Y (p.parent-1)).1.state != 2) (fun hb=>?_) ?_
 ·exact Jz
 by_cases h3:(vS Y (p.parent-1)).2=1∧(vS Y (p.parent-1)).1.state≠2
 ·rw [if_pos ⟨h2,h3⟩];refine Yt (by simp [h3.1,h3.2]) ?_;obtain ⟨w1,_⟩:=O7 c2 hi hdead ⟨by simp,hin.b,hin.c,hin.d⟩;refine Ja ?_;intros;rw [show (((B5 p).set 0 (int 2)).set 3 (int (E92 code))).set 4 (int 0)=B5 ⟨2,p.parent,p.group,E92 code,0,p.mask,p.ignored,p.caught,p.fds,p.len⟩ from rfl];refine Gs (fun h=>?_) (by exact Jp4 _);rw [show Dt2 (⟨2,p.parent,p.group,E92 code,0,p.mask,p.ignored,p.caught,p.fds,p.len⟩:ProcS)=Gq7 p code from rfl];generalize Gq7 p code=q at w1;refine Ja ?_;intros;refine Yd (Ah8 b k F Y ok i q) fun h=>?_;rw [w1];dsimp only;refine Ja ?_;intros;refine Yd (Dc2 true 0) fun h=>?_;rw [if_pos trivial];refine Ja ?_;intros;exact Yz
 ·rw [if_neg (fun h=>h3 h.2)]
  refine Yf (by
   by_cases h4:(vS Y (p.parent-1)).2=1
   ·have:(vS Y (p.parent-1)).1.state=2:=Classical.byContradiction fun h5=>h3 ⟨h4,h5⟩;simp [this]
   ·simp [h4]) ?_
  refine Yd (Dk9 b k F Y ok i) fun h=>?_;rw [z1];dsimp only;refine Ja ?_;intros;refine Yd (Dc2 true 0) fun h=>?_;rw [if_pos trivial];refine Ja ?_;intros;exact Yz
theorem Ec6 (e:Int):Ct B0 Bl5 [int e] [] fun v own=>v=.agg ⟨I2 0 e false⟩∧own []:=by
 refine Co Iz8 (fun _=>Iy8 ..) fun h r=>?_;refine Ja ?_;intros;refine Ys fun o=>?_;exact ⟨rfl,o.tail⟩
theorem Jr5 (ok:Bool) (n:Int):Ct B0 D82 [.bool ok,int n] [] fun v own=>v=.agg ⟨if ok then I2 n 0 false else I2 0 105 false⟩∧own []:=by
 refine Co I23 (fun _=>I40 ..) fun h r=>?_;refine Yn fun b1 h=>?_
 cases ok
 ·refine Yt rfl ?_;refine Ye (Ec6 105) fun h=>?_;intros;refine Ys fun o=>?_;exact ⟨rfl,o.tail⟩
 ·refine Yf rfl ?_;refine Ja ?_;intros;refine Ys fun o=>?_;exact ⟨rfl,o.tail⟩
theorem Gk8 (p:ProcS) {j:Nat} (h:j<8):(B5 p)[8+j]?=some (int (p.fds.getD j 0)):=by
 have:=G41 (l:=p.fds) (i:=j) (by rw [p.len];exact h);rw [show 8+j=j+8 by omega];exact this
abbrev setFd (p:ProcS) (j:Nat) (f:Int):ProcS:=⟨p.state,p.parent,p.group,p.code,p.pending,p.mask,p.ignored,p.caught,p.fds.set j f,by rw [List.length_set];exact p.len⟩
theorem Hr0 (p:ProcS) {j:Nat} (h:j<8) (f:Int):Ep5 (B5 p) (8+j) (int f)=some (B5 (setFd p j f)):=by
 have e:Nat.blt (8+j) (B5 p).length=true:=by rw [A00 p];exact Nat.ble_eq_true_of_le (by have:=p.len;omega)
 unfold Ep5;rw [e,show 8+j=j+8 by omega];show some ((B5 p).set (j+8) (int f))=_;simp only [B5,List.set_cons_succ,List.map_set]
def Av8 (p:ProcS) (fd:Int):Bool:=decide (0≤fd∧fd<8) && decide (p.fds.getD fd.toNat 0>0)
theorem Jm7 (p:ProcS) (fd:Int):Ct B0 Dv0 [.agg ⟨B5 p⟩,int fd] [] fun v own=>v=.bool (Av8 p fd)∧own []:=by
 refine Co Ir3 (fun _=>Ip5 ..) fun h r=>?_;refine Yn fun b1 h=>?_;by_cases h0:0≤fd
 case neg =>
  refine Yb (Yf (by simpa using h0) ?_);refine Yv ?_;refine Yb (Yf rfl ?_);refine Yv ?_;refine Ys fun o=>?_;refine ⟨?_,o.tail⟩;rw [show Av8 p fd=false by simp [Av8];omega]
 refine Yb (Yt (by simpa using h0) ?_);refine Yv ?_;by_cases h1:fd<8
 case neg =>
  refine Yb (Yf (by simpa using h1) ?_);refine Yv ?_;refine Ys fun o=>?_;refine ⟨?_,o.tail⟩;rw [show Av8 p fd=false by simp [Av8];omega]
 have hg:=Gk8 p (j:=fd.toNat) (by omega);refine Yb (Yt (by simpa using h1) ?_);refine Ja ?_;intros;refine Yv ?_;refine Ys fun o=>?_;refine ⟨?_,o.tail⟩;rw [show Av8 p fd=decide (p.fds.getD fd.toNat 0>0) by simp [Av8,h0,h1]]
theorem G82 {p:ProcS} (h:okS p=true) (h1:p.state=1) (j:Nat) {f:Int} (hf:0≤f∧f≤12):okS (setFd p j f)=true:=by
 have hd:=Do4 h
 have hd2:Bq4 (setFd p j f).fds:=fun x hx=>by
  rcases List.mem_or_eq_of_mem_set hx with h2|rfl
  ·exact hd x h2
  ·exact hf
 unfold okS at h ⊢;rw [if_neg (by rw [h1];decide)] at h;rw [if_neg (show ¬ (setFd p j f).state=2 by show ¬ p.state=2;rw [h1];decide)];simp only [Bool.and_eq_true] at h ⊢;refine ⟨h.1,h.2.1,?_,h.2.2.2⟩;rw [Bool.not_eq_true',List.any_eq_false];intro x hx;have:=hd2 x hx;simp;omega
def Ix8 (X:CX) (i fd f:Int):List Value × CX :=
 if (N4 X i).2≠0 then (I2 0 (N4 X i).2 false,X) else (I2 fd 0 false,As5 X i (setFd (vS X i).1 fd.toNat (f+1)))
def U0 (q:Int→Bool):Nat→Int→Nat→List Int
 | 0,_,_=>[]
 | _+1,_,0=>[]
 | m+1,i,w+1=>if q i=true then i::U0 q m (i+1) w else U0 q m (i+1) (w+1)
theorem Dw1 (q:Int→Bool):∀ (m:Nat) (i:Int) (w:Nat),(U0 q m i w).length≤w
 | 0,_,_=>by simp [U0]
 | _+1,_,0=>by simp [U0]
 | m+1,i,w+1=>by
  have h1:=Dw1 q m (i+1) w;have h2:=Dw1 q m (i+1) (w+1);unfold U0;split<;>simp<;>omega
theorem A95 (q:Int→Bool):∀ (m:Nat) (i:Int) (w:Nat),∀ x ∈ U0 q m i w,i≤x∧x<i+m∧q x=true
 | 0,_,_,x,hx=>by simp [U0] at hx
 | _+1,_,0,x,hx=>by simp [U0] at hx
 | m+1,i,w+1,x,hx=>by
  unfold U0 at hx
  split at hx
  ·rename_i hq
   rcases List.mem_cons.1 hx with rfl|h
   ·exact ⟨by omega,by omega,hq⟩
   ·have:=A95 q m (i+1) w x h;exact ⟨by omega,by omega,this.2.2⟩
  ·have:=A95 q m (i+1) (w+1) x hx;exact ⟨by omega,by omega,this.2.2⟩
theorem Eq3 (pr:HP) (g:FuncId) (cp:List Value) (n:Int) (hn:n≤100) (q:Int→Bool) (hq:∀ j:Int,0≤j∧j<n→Ct B0 g (int j::cp) [pr] fun v own=>v=.bool (q j)∧own [pr]):∀ (m:Nat) (i:Int) (acc:List Int) (w:Nat) (a:Option Addr) (ac:Nat),0≤i→i+m=n→acc.length≤i →
  CtJ H0 Ae3 Bn0 [(0,int n),(1,int ((acc.length+w:Nat):Int)),(2,.func (.func g) ⟨[]⟩ ⟨cp⟩),(7,.slice a acc.length ac),(8,int i)] [slC false B9 1 a acc.length ac (acc.map int),pr] fun v own =>
   ∃ a' c',v=.slice a' (acc++U0 q m i w).length c'∧own [slC false B9 1 a' (acc++U0 q m i w).length c' ((acc++U0 q m i w).map int),pr]
 | 0,i,acc,w,a,ac,h0,hi,ha=>by
  refine Cj D62 (fun _=>D23 ..) fun h r=>?_;refine Yb (Yf (by simp;omega) ?_);refine Yv ?_;refine Yf rfl ?_;refine Ys fun o=>?_;rw [show U0 q 0 i w=[] by unfold U0;rfl,List.append_nil];exact ⟨a,ac,rfl,o.sub⟩
 | m+1,i,acc,0,a,ac,h0,hi,ha=>by
  refine Cj D62 (fun _=>D23 ..) fun h r=>?_;refine Yb (Yt (by simp;omega) ?_);refine Yv ?_;refine Yf (by simp) ?_;refine Ys fun o=>?_;rw [show U0 q (m+1) i 0=[] by unfold U0;rfl,List.append_nil];exact ⟨a,ac,rfl,o.sub⟩
 | m+1,i,acc,w+1,a,ac,h0,hi,ha=>by
  have e1:=wI i;rw [show U0 q (m+1) i (w+1)=if q i=true then i::U0 q m (i+1) w else U0 q m (i+1) (w+1) by rw [U0]];refine Cj D62 (fun _=>D23 ..) fun h r=>?_;refine Yb (Yt (by simp;omega) ?_);refine Yv ?_;refine Yt (by simp;omega) ?_;rw [e1];refine S4 0 rfl fun hl hc _=>?_;refine Ja ?_;intros;simp only [List.nil_append,List.singleton_append];refine Yd (hq i (by omega)) fun h=>?_;refine Ja ?_;intros;by_cases h2:q i=true
  ·rw [if_pos h2];refine Yt h2 ?_;refine Ja ?_;intros;refine Tr.xApd (new:=[int i]) ⟨rfl,rfl,by simp only [B3];omega⟩ fun a' c' h=>?_;have H:=Eq3 pr g cp n hn q hq m (i+1) (acc++[i]) w a' c' (by omega) (by omega) (by simp;omega);rw [show acc++i::U0 q m (i+1) w=acc++[i]++U0 q m (i+1) w by simp,show acc.length+(w+1)=(acc++[i]).length+w by simp;omega];refine (?_:Tr (_::pr::slC false B9 1 a' (acc.length+1) c' (acc.map int++[int i])::_) _ _ _);rw [show acc.map int++[int i]=(acc++[i]).map int by simp,show acc.length+1=(acc++[i]).length by simp];refine N8 [2,1] 1 rfl rfl ?_;exact Yr H fun v h q=>q
  ·rw [if_neg h2];refine Yf (by simpa using h2) ?_;refine N8 [1,0] 0 rfl rfl ?_;exact Yr (Eq3 pr g cp n hn q hq m (i+1) acc (w+1) a ac (by omega) (by omega) (by omega)) fun v h q=>q
theorem G39 (pr:HP) (g:FuncId) (cp:List Value) (n:Nat) (hn:n≤100) (w:Nat) (q:Int→Bool) (hq:∀ j:Int,0≤j∧j<n→Ct B0 g (int j::cp) [pr] fun v own=>v=.bool (q j)∧own [pr]) :
  Ct B0 Ae3 [int n,int w,.func (.func g) ⟨[]⟩ ⟨cp⟩] [pr] fun v own=>∃ a' c',v=.slice a' (U0 q n 0 w).length c'∧own [slC false B9 1 a' (U0 q n 0 w).length c' ((U0 q n 0 w).map int),pr]:=by
 refine Co D62 (fun _=>I54 ..) fun h r=>?_;refine G0 false B9 1 (by omega) ?_;have J:=Eq3 pr g cp n (by omega) q hq n 0 [] w none 0 (by omega) (by omega) (by simp);simp only [List.nil_append,List.length_nil,List.map_nil,Nat.zero_add] at J;exact Yr J fun v h q=>q
theorem Jc0 (b:Nat) (p:ProcS) (j:Int) (hj:0≤j∧j<8):Ct B0 Bo8 [int j,P0 b] [pt b (.cells B2 false (B5 p))] fun v own=>v=.bool (p.fds.getD j.toNat 0==0)∧own [pt b (.cells B2 false (B5 p))]:=by
 have hg:=Gk8 p (j:=j.toNat) (by omega);refine Co Hy6 (fun _=>Hw7 ..) fun h r=>?_;refine Ja ?_;intros;exact Yz
abbrev Ac7 (p:ProcS) (w:Nat):List Int:=U0 (fun j=>p.fds.getD j.toNat 0==0) 8 0 w
theorem Jn3 (p:ProcS) (w:Nat):Ct B0 Du3 [.agg ⟨B5 p⟩,int w] [] fun v own=>∃ a' c',v=.slice a' (Ac7 p w).length c'∧own [slC false B9 1 a' (Ac7 p w).length c' ((Ac7 p w).map int)]:=by
 refine Co Ii6 (fun _=>In7 ..) fun h r=>?_;refine Yn fun b1 h=>?_;refine Yc (G39 _ Bo8 [P0 b1] 8 (by omega) w _ fun j hj=>Jc0 b1 p j (by omega)) ?_;rintro _ h ⟨a',c',rfl,o⟩;refine Jh o ?_;refine Ja ?_;intros;refine Ys fun o=>?_;exact ⟨a',c',rfl,o.sub⟩
def hcC (bh b k:Nat) (F:Fr) (X:CX):HP:=hex fun _:Unit=>sl [pt bh (.cells W1 false [P0 b]),cmC b k F X]
instance {bh b k:Nat} {F:Fr} {X:CX}:Chk (hcC bh b k F X) (fun _:Unit=>[pt bh (.cells W1 false [P0 b]),cmC b k F X]):=⟨rfl⟩
theorem Jm5 (bh b k:Nat) (F:Fr) (X:CX) (ok:FrOk F) {nc:Nat} (c:Clean nc X) (j:Int) (hj:0≤j∧j<12):Ct B0 Bg4 [int j,P0 bh] [hcC bh b k F X] fun v own=>v=.bool ((vF X j).2==0)∧own [hcC bh b k F X]:=by
 refine Co H26 (fun _=>H72 ..) fun h r=>?_;refine B6 (hcC bh b k F X) fun u=>?_;refine Je ?_;refine Ja ?_;intros;refine Yd (Do7 b k F X ok j) fun h=>?_;rw [Bp3 c hj];dsimp only;refine Jc ?_;intros;refine Yn fun b1 h=>?_;refine Ja ?_;intros;refine B1 (hcC bh b k F X) () ?_;refine Je ?_;exact Yz
theorem Jr9 (bh b k:Nat) (F:Fr) (X:CX) (ok:FrOk F) {nc:Nat} (c:Clean nc X) (j:Int) (hj:0≤j∧j<3+nc):Ct B0 Bg7 [int j,P0 bh] [hcC bh b k F X] fun v own=>v=.bool ((vP X j).2==0)∧own [hcC bh b k F X]:=by
 refine Co H33 (fun _=>Ig7 ..) fun h r=>?_;refine B6 (hcC bh b k F X) fun u=>?_;refine Je ?_;refine Ja ?_;intros;refine Yd (E60 b k F X ok j) fun h=>?_;rw [Dt9 c hj];dsimp only;refine Jc ?_;intros;refine Yn fun b1 h=>?_;refine Ja ?_;intros;refine B1 (hcC bh b k F X) () ?_;refine Je ?_;exact Yz
def ofV (X:CX) (i fd:Int):(Int × FileS) × Int :=
 if (N4 X i).2≠0 then ((0,.zero),(N4 X i).2)
 else if Av8 (vS X i).1 fd=false then ((0,.zero),109)
 else if (vF X ((vS X i).1.fds.getD fd.toNat 0-1)).2≠1 then ((0,.zero),105)
 else (((vS X i).1.fds.getD fd.toNat 0-1,(vF X ((vS X i).1.fds.getD fd.toNat 0-1)).1),0)
theorem Jd1 {nc:Nat} {X:CX} (c:Clean nc X) {i:Int} (hi:0≤i∧i<8) (h:(N4 X i).2=0) (j:Nat):0≤(vS X i).1.fds.getD j 0∧(vS X i).1.fds.getD j 0≤12:=by
 obtain ⟨s1,s2,s3,s4⟩:=Da2 c hi h;by_cases hj:j<(vS X i).1.fds.length
 ·rw [List.getD_eq_getElem?_getD,List.getElem?_eq_getElem hj];exact Do4 s3 _ (List.getElem_mem _)
 ·rw [List.getD_eq_getElem?_getD,List.getElem?_eq_none (by omega)];simp
theorem Jt6 (b k:Nat) (F:Fr) (X:CX) (ok:FrOk F) {nc:Nat} (c:Clean nc X) (i fd:Int) (hi:0≤i∧i<8) :
  Ct B0 Eb9 [P0 b,int i,int fd] [cmC b k F X] fun v own=>v=.tuple ⟨[int (ofV X i fd).1.1,.agg ⟨Am5 (ofV X i fd).1.2⟩,int (ofV X i fd).2]⟩∧own [cmC b k F X]:=by
 unfold ofV;refine Co Jm4 (fun _=>Jr8 ..) fun h r=>?_;refine Yn fun b0 h=>?_;refine Yd (B02 b k F X ok c i hi) fun h=>?_;refine Jc ?_;intros;refine Yn fun b1 h=>?_;refine Jb ?_;intros;by_cases h1:(N4 X i).2=0
 case neg =>
  rw [if_pos h1];refine Yt (by simpa using h1) ?_;refine Ja ?_;intros;exact Yz
 rw [if_neg (by simpa using h1)];refine Yf (by simpa using h1) ?_;obtain ⟨s1,s2,s3,s4⟩:=Da2 c hi h1;have hr:=fun j=>Jd1 c hi h1 j;rw [s1];generalize hp:(vS X i).1=p at s2 s3 hr;refine Ja ?_;intros;refine Ye (Jm7 p fd) fun h=>?_;intros;by_cases h2:Av8 p fd=true
 case neg =>
  rw [if_pos (by simpa using h2)];refine Yt (by simpa using h2) ?_;refine Ja ?_;intros;exact Yz
 rw [if_neg (by simpa using h2)];refine Yf (by simpa using h2) ?_;simp only [Av8,Bool.and_eq_true,decide_eq_true_eq] at h2;have hg:=Gk8 p (j:=fd.toNat) (by omega);have hf:=hr fd.toNat;generalize p.fds.getD fd.toNat 0=f at hg hf h2;have e1:IntKind.wrap .i64 (f-1)=f-1:=by rw [B8];omega
 refine Ja ?_;intros;rw [e1];refine Yd (Do7 b k F X ok (f-1)) fun h=>?_;rw [Bp3 c (by omega)];dsimp only;refine Ja ?_;intros;by_cases h3:(vF X (f-1)).2=1
 case neg =>
  rw [if_pos h3];refine Yt (by simpa using h3) ?_;refine Ja ?_;intros;exact Yz
 rw [if_neg (by simpa using h3)];refine Yf (by simpa using h3) ?_;refine Ja ?_;intros;rw [e1];exact Yz
theorem I81 {p:ProcS} {fd:Int} (h:Av8 p fd=true):(0≤fd∧fd<8)∧p.fds.getD fd.toNat 0>0:=by
 simp only [Av8,Bool.and_eq_true,decide_eq_true_eq] at h;exact h
def Bb3:PipeS:=⟨0,0,1,1,[0,0,0,0,0,0,0,0,0,0,0,0,0,0,0,0,0,0,0,0,0,0,0,0,0,0,0,0,0,0,0,0],rfl⟩
abbrev Bp8 (X:CX):List Int:=U0 (fun j=>(vF X j).2==0) 12 0 2
abbrev By1 (X:CX):List Int:=U0 (fun j=>(vP X j).2==0) 4 0 1
def B53 (X:CX) (i d0 d1 f0 f1 r0:Int):CX :=
 As5 (A56 (A56 (Bj8 X r0 Bb3) f0 ⟨1,r0,1,0⟩) f1 ⟨2,r0,1,0⟩) i (setFd (setFd (vS X i).1 d0.toNat (f0+1)) d1.toNat (f1+1))
def D98 (X:CX) (i:Int):List Value × CX :=
 if (N4 X i).2≠0 then (I2 0 (N4 X i).2 false,X)
 else if (Ac7 (vS X i).1 2).length<2 then (I2 0 124 false,X)
 else if (Bp8 X).length<2∨(By1 X).length=0 then (I2 0 123 false,X)
 else (I2 ((Ac7 (vS X i).1 2).getD 0 0+16*(Ac7 (vS X i).1 2).getD 1 0) 0 false,B53 X i ((Ac7 (vS X i).1 2).getD 0 0) ((Ac7 (vS X i).1 2).getD 1 0) ((Bp8 X).getD 0 0) ((Bp8 X).getD 1 0) ((By1 X).getD 0 0))
theorem I73 {l:List Int} (h:l.length≤2) (h2:¬ l.length<2):∃ a b,l=[a,b]:=by
 match l,h,h2 with
 | [a,b],_,_=>exact ⟨a,b,rfl⟩
 | [],_,h2=>simp at h2
 | [_],_,h2=>simp at h2
 | _::_::_::_,h,_=>simp at h
theorem Ht1 {nc:Nat} {X:CX} (c:Clean nc X) {i:Int} (hi:0≤i∧i<8) (hs:(N4 X i).2=0) {d0 d1 f0 f1 r0:Int} (hd0:0≤d0∧d0<8) (hd1:0≤d1∧d1<8) (hf0:0≤f0∧f0<12) (hf1:0≤f1∧f1<12) (hr:0≤r0∧r0<4) (hn:r0<3+(nc:Int)) :
  Bj5 X r0 Bb3=(true,Bj8 X r0 Bb3)∧Bw8 (Bj8 X r0 Bb3) f0 ⟨1,r0,1,0⟩=(true,A56 (Bj8 X r0 Bb3) f0 ⟨1,r0,1,0⟩) ∧
  Bw8 (A56 (Bj8 X r0 Bb3) f0 ⟨1,r0,1,0⟩) f1 ⟨2,r0,1,0⟩=(true,A56 (A56 (Bj8 X r0 Bb3) f0 ⟨1,r0,1,0⟩) f1 ⟨2,r0,1,0⟩) ∧
  Bc0 (A56 (A56 (Bj8 X r0 Bb3) f0 ⟨1,r0,1,0⟩) f1 ⟨2,r0,1,0⟩) i (setFd (setFd (vS X i).1 d0.toNat (f0+1)) d1.toNat (f1+1))=(true,B53 X i d0 d1 f0 f1 r0) ∧
  Clean nc (B53 X i d0 d1 f0 f1 r0)∧(∀ j:Int,0≤j∧j<8→vS (B53 X i d0 d1 f0 f1 r0) j=if j=i then (setFd (setFd (vS X i).1 d0.toNat (f0+1)) d1.toNat (f1+1),1) else vS X j) ∧
  (∀ j:Int,0≤j∧j<12→vF (B53 X i d0 d1 f0 f1 r0) j=if j=f1 then (⟨2,r0,1,0⟩,1) else if j=f0 then (⟨1,r0,1,0⟩,1) else vF X j) ∧
  (∀ j:Int,0≤j∧j<3+nc→vP (B53 X i d0 d1 f0 f1 r0) j=if j=r0 then (Bb3,1) else vP X j):=by
 obtain ⟨s1,s2,s3,s4⟩:=Da2 c hi hs;have hin:=A65 (rd X ⟨1,i⟩);obtain ⟨a1,a2,a3,a4,a5⟩:=Be9 c (i:=r0) (by omega) (p:=Bb3) rfl;obtain ⟨b1,b2,b3,b4,b5⟩:=Aj2 a2 hf0 (f:=⟨1,r0,1,0⟩) (by simp [okF];omega);obtain ⟨c1,c2,c3,c4,c5⟩:=Aj2 b2 hf1 (f:=⟨2,r0,1,0⟩) (by simp [okF];omega);have hq:=G82 (G82 s3 s2 d0.toNat (f:=f0+1) (by omega)) s2 d1.toNat (f:=f1+1) (by omega);obtain ⟨e1,e2,e3,e4,e5⟩:=O7 c2 hi hq ⟨hin.a,hin.b,hin.c,hin.d⟩;refine ⟨a1,b1,c1,e1,e2,fun j hj=>?_,fun j hj=>?_,fun j hj=>?_⟩
 ·rw [show B53 X i d0 d1 f0 f1 r0=As5 _ _ _ from rfl,e3 j hj,c3 j hj,b3 j hj,a3 j hj]
 ·rw [show B53 X i d0 d1 f0 f1 r0=As5 _ _ _ from rfl,e4 j hj,c4 j hj,b4 j hj,a4 j hj]
 ·rw [show B53 X i d0 d1 f0 f1 r0=As5 _ _ _ from rfl,e5 j hj,c5 j hj,b5 j hj,a5 j hj]
theorem Jk3 (bh b k:Nat) (F:Fr) (X:CX) (ok:FrOk F) {nc:Nat} (c:Clean nc X):Ct B0 Ae3 [int 12,int 2,.func (.func Bg4) ⟨[]⟩ ⟨[P0 bh]⟩] [hcC bh b k F X] fun v own =>
  ∃ a' c',v=.slice a' (Bp8 X).length c'∧own [slC false B9 1 a' (Bp8 X).length c' ((Bp8 X).map int),hcC bh b k F X] :=
 G39 _ Bg4 [P0 bh] 12 (by omega) 2 _ fun j hj=>Jm5 bh b k F X ok c j (by omega)
theorem Jk1 (bh b k:Nat) (F:Fr) (X:CX) (ok:FrOk F) {nc:Nat} (c:Clean nc X):Ct B0 Ae3 [int 4,int 1,.func (.func Bg7) ⟨[]⟩ ⟨[P0 bh]⟩] [hcC bh b k F X] fun v own =>
  ∃ a' c',v=.slice a' (By1 X).length c'∧own [slC false B9 1 a' (By1 X).length c' ((By1 X).map int),hcC bh b k F X] :=
 G39 _ Bg7 [P0 bh] 4 (by omega) 1 _ fun j hj=>Jr9 bh b k F X ok c j (by have:=c.pos;omega)
theorem J50 {l:List Int} (h:l.length≤1) (h2:¬ l.length=0):∃ a,l=[a]:=by
 match l,h,h2 with
 | [a],_,_=>exact ⟨a,rfl⟩
 | [],_,h2=>simp at h2
 | _::_::_,h,_=>simp at h
theorem Jr4 (b k:Nat) (F:Fr) (X:CX) (ok:FrOk F) {nc:Nat} (c:Clean nc X) (i:Int) (hi:0≤i∧i<8) :
  Ct B0 D79 [P0 b,int i] [cmC b k F X] fun v own=>v=.agg ⟨(D98 X i).1⟩∧own [cmC b k F (D98 X i).2]:=by
 unfold D98;refine Co Ix1 (fun _=>Iv3 ..) fun h r=>?_;refine Yn fun bh h=>?_;refine Yn fun b0 h=>?_;refine Ja ?_;intros;refine Yd (B02 b k F X ok c i hi) fun h=>?_;refine Jc ?_;intros;refine Yn fun b1 h=>?_;refine Jb ?_;intros;by_cases h1:(N4 X i).2=0
 case neg =>
  rw [if_pos h1];refine Yt (by simpa using h1) ?_;refine Ye (Ec6 (N4 X i).2) fun h=>?_;intros;exact Yz
 rw [if_neg (by simpa using h1)];refine Yf (by simpa using h1) ?_;have hM:=fun d0 d1 f0 f1 r0=>Ht1 c hi h1 (d0:=d0) (d1:=d1) (f0:=f0) (f1:=f1) (r0:=r0);obtain ⟨s1,s2,s3,s4⟩:=Da2 c hi h1;rw [s1];unfold B53 at hM ⊢;generalize (vS X i).1=p at hM;refine Ja ?_;intros;refine Yc (Jn3 p 2) ?_;rintro _ h ⟨a,ac,rfl,o⟩;refine Jh o ?_;have hm:=A95 (fun j=>p.fds.getD j.toNat 0==0) 8 0 2;have hl:=Dw1 (fun j=>p.fds.getD j.toNat 0==0) 8 0 2;change ∀ x ∈ Ac7 p 2,_ at hm;change (Ac7 p 2).length≤2 at hl;refine (?_:Tr (slC false B9 1 a (Ac7 p 2).length ac ((Ac7 p 2).map int)::_) _ _ _);generalize Ac7 p 2=L at hm hl;by_cases h2:L.length<2
 ·refine Ja ?_;intros;refine Yt (by simp;omega) ?_;refine Ye (Ec6 124) fun h=>?_;intros;refine Ys fun o=>?_;rw [if_pos h2];exact ⟨rfl,o.sub⟩
 rw [if_neg h2];obtain ⟨d0,d1,rfl⟩:=I73 hl h2;have hd0:=hm d0 (by simp);have hd1:=hm d1 (by simp);refine Ja ?_;intros;refine Yf (by simp) ?_;refine B1 (hcC bh b k F X) () ?_;refine Je ?_;refine Yc (Jk3 bh b k F X ok c) ?_;rintro _ h ⟨a2,ac2,rfl,o⟩;refine Jh o ?_;have hmF:=A95 (fun j=>(vF X j).2==0) 12 0 2;have hlF:=Dw1 (fun j=>(vF X j).2==0) 12 0 2;change ∀ x ∈ Bp8 X,_ at hmF;change (Bp8 X).length≤2 at hlF;generalize Bp8 X=Fl at hmF hlF;refine Ja ?_;intros;refine Yc (Jk1 bh b k F X ok c) ?_;rintro _ h ⟨a3,ac3,rfl,o⟩;refine Jh o ?_;have hmR:=A95 (fun j=>(vP X j).2==0) 4 0 1;have hlR:=Dw1 (fun j=>(vP X j).2==0) 4 0 1;change ∀ x ∈ By1 X,_ at hmR;change (By1 X).length≤1 at hlR;generalize By1 X=Rl at hmR hlR;refine B6 (hcC bh b k F X) fun u=>?_;refine Je ?_;by_cases h3:Fl.length<2
 ·rw [if_pos (.inl h3)];refine Jb ?_;intros;refine Yb (Yt (by simp;omega) ?_);refine Yv ?_;refine Yt rfl ?_;refine Ye (Ec6 123) fun h=>?_;intros;exact Yz
 obtain ⟨f0,f1,rfl⟩:=I73 hlF h3;by_cases h4:Rl.length=0
 ·rw [if_pos (.inr h4)];refine Jb ?_;intros;refine Yb (Yf rfl ?_);refine Yv ?_;refine Yt (by simpa using h4) ?_;refine Ye (Ec6 123) fun h=>?_;intros;exact Yz
 rw [if_neg (fun h=>h.elim h3 h4)];obtain ⟨r0,rfl⟩:=J50 hlR h4;have hf0:=hmF f0 (by simp);have hf1:=hmF f1 (by simp);have hr0:=hmR r0 (by simp);obtain ⟨w1,w2,w3,w4,_⟩:=hM d0 d1 f0 f1 r0 (by omega) (by omega) (by omega) (by omega) (by omega) (by have:=c.pos;omega);refine Jb ?_;intros;refine Yb (Yf rfl ?_);refine Yv ?_;refine Yf rfl ?_;(refine Ja ?_;intros;repeat(refine Gw ?_;rintro px rfl;refine Ja ?_;intros));refine Yd (Es0 b k F X ok r0 Bb3) fun h=>?_;rw [w1];dsimp only;refine Jb ?_;intros;refine Yb (Yt rfl ?_);(refine Jb ?_;intros;repeat(refine Gw ?_;rintro px rfl;refine Jb ?_;intros));refine Yd (Ds6 b k F (Bj8 X r0 Bb3) ok f0 ⟨1,r0,1,0⟩) fun h=>?_;rw [w2];dsimp only;refine Jb ?_;intros;refine Yv ?_;refine Yb (Yt rfl ?_);(refine Jb ?_;intros;repeat(refine Gw ?_;rintro px rfl;refine Jb ?_;intros));refine Yd (Ds6 b k F (A56 (Bj8 X r0 Bb3) f0 ⟨1,r0,1,0⟩) ok f1 ⟨2,r0,1,0⟩) fun h=>?_;rw [w3];dsimp only;refine Jb ?_;intros;refine Yv ?_
 have hs:Ep5 (B5 p) (8+d0.toNat) (int (IntKind.wrap .i64 (f0+1)))=some (B5 (setFd p d0.toNat (f0+1))):=by
  rw [show IntKind.wrap .i64 (f0+1)=f0+1 by rw [B8];omega];exact Hr0 p (by omega) _
 have hs2:Ep5 (B5 (setFd p d0.toNat (f0+1))) (8+d1.toNat) (int (IntKind.wrap .i64 (f1+1)))=some (B5 (setFd (setFd p d0.toNat (f0+1)) d1.toNat (f1+1))):=by
  rw [show IntKind.wrap .i64 (f1+1)=f1+1 by rw [B8];omega];exact Hr0 _ (by omega) _
 have hx:IntKind.wrap .i64 (d0+IntKind.wrap .i64 (16*d1))=d0+16*d1:=by simp only [B8];omega
 simp only [List.getD_cons_zero,List.getD_cons_succ];generalize setFd (setFd p d0.toNat (f0+1)) d1.toNat (f1+1)=q at hs2 w4;(refine Jb ?_;intros;repeat(refine Gw ?_;rintro px rfl;refine Jb ?_;intros));rw [hx];refine Yb (Yt rfl ?_);refine Jb ?_;intros;refine Yd (Ah8 b k F (A56 (A56 (Bj8 X r0 Bb3) f0 ⟨1,r0,1,0⟩) f1 ⟨2,r0,1,0⟩) ok i q) fun h=>?_;rw [w4];dsimp only;refine Jb ?_;intros;refine Yv ?_;refine Yd (Jr5 true (d0+16*d1)) fun h=>?_;rw [if_pos trivial];refine Ja ?_;intros;exact Yz
structure VW where
 S:Int→ProcS × Int
 F:Int→FileS × Int
 P:Int→PipeS × Int
structure See (X:CX) (V:VW):Prop where
 c:Clean 3 X
 s:∀ j:Int,0≤j∧j<8→vS X j=V.S j
 f:∀ j:Int,0≤j∧j<12→vF X j=V.F j
 p:∀ j:Int,0≤j∧j<6→vP X j=V.P j
theorem See.to {X:CX} {V V':VW} (A:See X V) (hs:∀ j:Int,0≤j∧j<8→V.S j=V'.S j) (hf:∀ j:Int,0≤j∧j<12→V.F j=V'.F j) (hp:∀ j:Int,0≤j∧j<6→V.P j=V'.P j):See X V' :=
 ⟨A.c,fun j h=>(A.s j h).trans (hs j h),fun j h=>(A.f j h).trans (hf j h),fun j h=>(A.p j h).trans (hp j h)⟩
def wS (V:VW) (i:Int) (p:ProcS):VW:=⟨fun j=>if j=i then (p,1) else V.S j,V.F,V.P⟩
def wF (V:VW) (i:Int) (x:FileS):VW:=⟨V.S,fun j=>if j=i then (x,1) else V.F j,V.P⟩
def wP (V:VW) (i:Int) (x:PipeS):VW:=⟨V.S,V.F,fun j=>if j=i then (x,1) else V.P j⟩
def oF (V:VW) (i:Int):VW:=⟨V.S,fun j=>if j=i then (.zero,0) else V.F j,V.P⟩
def oP (V:VW) (i:Int):VW:=⟨V.S,V.F,fun j=>if j=i then (.zero,0) else V.P j⟩
section
variable {X:CX} {V:VW} (A:See X V)
include A
theorem See.ws {i:Int} (hi:0≤i∧i<8) {p:ProcS} (ok:okS p=true) (r:InS p):See (As5 X i p) (wS V i p):=by
 obtain ⟨_,w2,w3,w4,w5⟩:=O7 A.c hi ok r;exact ⟨w2,fun j h=>by rw [w3 j h,A.s j h];rfl,fun j h=>by rw [w4 j h];exact A.f j h,fun j h=>by rw [w5 j (by omega)];exact A.p j h⟩
theorem See.wf {i:Int} (hi:0≤i∧i<12) {x:FileS} (ok:okF x=true):See (A56 X i x) (wF V i x):=by
 obtain ⟨_,w2,w3,w4,w5⟩:=Aj2 A.c hi ok;exact ⟨w2,fun j h=>by rw [w3 j h];exact A.s j h,fun j h=>by rw [w4 j h,A.f j h];rfl,fun j h=>by rw [w5 j (by omega)];exact A.p j h⟩
theorem See.wp {i:Int} (hi:0≤i∧i<6) {x:PipeS} (ok:okP x=true):See (Bj8 X i x) (wP V i x):=by
 obtain ⟨_,w2,w3,w4,w5⟩:=Be9 A.c (i:=i) (by omega) ok;exact ⟨w2,fun j h=>by rw [w3 j h];exact A.s j h,fun j h=>by rw [w4 j h];exact A.f j h,fun j h=>by rw [w5 j (by omega),A.p j h];rfl⟩
theorem See.of {i:Int} (hi:0≤i∧i<12):See (Et5 X i) (oF V i):=by
 obtain ⟨_,w2,w3,w4,w5⟩:=Dq1 A.c hi;exact ⟨w2,fun j h=>by rw [w3 j h];exact A.s j h,fun j h=>by rw [w4 j h,A.f j h];rfl,fun j h=>by rw [w5 j (by omega)];exact A.p j h⟩
theorem See.op {i:Int} (hi:0≤i∧i<6):See (G75 X i) (oP V i):=by
 obtain ⟨_,w2,w3,w4,w5⟩:=Do9 A.c (i:=i) (by omega);exact ⟨w2,fun j h=>by rw [w3 j h];exact A.s j h,fun j h=>by rw [w4 j h];exact A.f j h,fun j h=>by rw [w5 j (by omega),A.p j h];rfl⟩
end
def S6 (V:VW) (i:Int):ProcS × Int:=if (V.S i).2=1∧(V.S i).1.state=1 then ((V.S i).1,0) else (.zero,105)
theorem See.self {X:CX} {V:VW} (A:See X V) {i:Int} (hi:0≤i∧i<8):N4 X i=S6 V i:=by unfold N4 S6;rw [A.s i hi]
def clP (V:VW) (i:Int) (q:PipeS):VW:=if q.readers+q.writers=0∧i<4 then oP V i else wP V i q
def Ez8 (V:VW) (f:Int):Int × VW :=
 if (V.F f).2≠1 then (105,V)
 else if (V.F f).1.refs-1>0 then (0,wF V f (Da3 (V.F f).1 (-1)))
 else if (V.F f).1.kind=3 then (0,oF V f)
 else if ¬ ((V.F f).1.pipe<6∧(V.P (V.F f).1.pipe).2=1) then (105,oF V f)
 else (0,clP (oF V f) (V.F f).1.pipe (Gm1 (V.F f).1.kind (V.P (V.F f).1.pipe).1))
theorem See.close {X:CX} {V:VW} (A:See X V) {f:Int} (hf:0≤f∧f<12):(Bo9 3 X f).1=(Ez8 V f).1∧See (Bo9 3 X f).2 (Ez8 V f).2:=by
 have e:=A.f f hf
 have hk:(V.F f).2=1→okF (V.F f).1=true:=fun h=>by
  rcases Hh4 A.c hf with ⟨h2,_⟩|⟨_,h2⟩
  ·rw [e,h] at h2;cases h2
  ·rw [e] at h2;exact h2
 unfold Bo9 Ez8;rw [e];by_cases h1:(V.F f).2=1
 case neg=>rw [if_pos h1,if_pos h1];exact ⟨rfl,A⟩
 have n1:¬ (V.F f).2≠1:=by simpa using h1
 rw [if_neg n1,if_neg n1];replace hk:=hk h1;have hr:=Ez9 hk;have hp:=G81 hk;by_cases h2:(V.F f).1.refs-1>0
 ·rw [if_pos h2,if_pos h2];exact ⟨rfl,A.wf hf (Ga6 hk (n:=-1) (by omega))⟩
 rw [if_neg h2,if_neg h2];by_cases h3:(V.F f).1.kind=3
 ·rw [if_pos h3,if_pos h3];exact ⟨rfl,A.of hf⟩
 rw [if_neg h3,if_neg h3];by_cases h4:(V.F f).1.pipe<6
 case neg =>
  have n4:¬ ((V.F f).1.pipe<3+((3:Nat):Int)∧(vP X (V.F f).1.pipe).2=1):=fun h=>h4 (by have:=h.1;omega);have n5:¬ ((V.F f).1.pipe<6∧(V.P (V.F f).1.pipe).2=1):=fun h=>h4 h.1;rw [if_pos n4,if_pos n5];exact ⟨rfl,A.of hf⟩
 have ep:=A.p (V.F f).1.pipe ⟨hp,h4⟩;rw [ep];by_cases h5:(V.P (V.F f).1.pipe).2=1
 case neg =>
  have n4:¬ ((V.F f).1.pipe<3+((3:Nat):Int)∧(V.P (V.F f).1.pipe).2=1):=fun h=>h5 h.2;have n5:¬ ((V.F f).1.pipe<6∧(V.P (V.F f).1.pipe).2=1):=fun h=>h5 h.2;rw [if_pos n4,if_pos n5];exact ⟨rfl,A.of hf⟩
 have n4:¬ ¬ ((V.F f).1.pipe<3+((3:Nat):Int)∧(V.P (V.F f).1.pipe).2=1):=fun h=>h ⟨by omega,h5⟩;have n5:¬ ¬ ((V.F f).1.pipe<6∧(V.P (V.F f).1.pipe).2=1):=fun h=>h ⟨h4,h5⟩;rw [if_neg n4,if_neg n5]
 have hq:okP (V.P (V.F f).1.pipe).1=true:=by
  rcases Hc5 A.c (i:=(V.F f).1.pipe) (by omega) with ⟨h6,_⟩|⟨_,h6⟩
  ·rw [ep,h5] at h6;cases h6
  ·rw [ep] at h6;exact h6
 refine ⟨rfl,?_⟩;unfold Ez0 clP
 split
 ·exact (A.of hf).op ⟨hp,h4⟩
 ·exact (A.of hf).wp ⟨hp,h4⟩ (Hl2 hq _)
def ofW (V:VW) (i fd:Int):(Int × FileS) × Int :=
 if (S6 V i).2≠0 then ((0,.zero),(S6 V i).2)
 else if Av8 (V.S i).1 fd=false then ((0,.zero),109)
 else if (V.F ((V.S i).1.fds.getD fd.toNat 0-1)).2≠1 then ((0,.zero),105)
 else (((V.S i).1.fds.getD fd.toNat 0-1,(V.F ((V.S i).1.fds.getD fd.toNat 0-1)).1),0)
theorem See.ofv {X:CX} {V:VW} (A:See X V) {i:Int} (hi:0≤i∧i<8) (fd:Int):ofV X i fd=ofW V i fd:=by
 have es:=A.self hi;have hr:=fun h=>Jd1 A.c (i:=i) hi h fd.toNat;unfold ofV ofW;rw [es] at hr ⊢;rw [A.s i hi] at hr ⊢;by_cases h1:(S6 V i).2≠0
 ·rw [if_pos h1,if_pos h1]
 rw [if_neg h1,if_neg h1];by_cases h2:Av8 (V.S i).1 fd=false
 ·rw [if_pos h2,if_pos h2]
 have hn:=I81 (show Av8 (V.S i).1 fd=true by simpa using h2);have hr:=hr (by simpa using h1);rw [if_neg h2,if_neg h2,A.f _ (by omega)]
def Iw2 (V:VW) (i fd f:Int):List Value × VW :=
 if (S6 V i).2≠0 then (I2 0 (S6 V i).2 false,V) else (I2 fd 0 false,wS V i (setFd (V.S i).1 fd.toNat (f+1)))
theorem See.setFd {X:CX} {V:VW} (A:See X V) {i:Int} (hi:0≤i∧i<8) (h:(S6 V i).2=0) (j:Nat) {f:Int} (hf:0≤f∧f≤12):See (As5 X i (EQ.setFd (vS X i).1 j f)) (wS V i (EQ.setFd (V.S i).1 j f)):=by
 have es:=A.self hi;obtain ⟨s1,s2,s3,s4⟩:=Da2 A.c hi (by rw [es];exact h);have hin:=A65 (rd X ⟨1,i⟩);have:=A.ws hi (G82 s3 s2 j hf) ⟨hin.a,hin.b,hin.c,hin.d⟩;have e:EQ.setFd (V.S i).1 j f=EQ.setFd (vS X i).1 j f:=by rw [A.s i hi]
 rw [e];exact this
theorem See.name {X:CX} {V:VW} (A:See X V) {i:Int} (hi:0≤i∧i<8) (fd:Int) {f:Int} (hf:0≤f∧f<12):(Ix8 X i fd f).1=(Iw2 V i fd f).1∧See (Ix8 X i fd f).2 (Iw2 V i fd f).2:=by
 have es:=A.self hi;unfold Ix8 Iw2;rw [es];by_cases h1:(S6 V i).2=0
 case neg=>rw [if_pos h1,if_pos h1];exact ⟨rfl,A⟩
 have n1:¬ (S6 V i).2≠0:=by simpa using h1
 rw [if_neg n1,if_neg n1];exact ⟨rfl,A.setFd hi h1 fd.toNat (by omega)⟩
def Ji9 (V:VW) (i fd:Int):List Value × VW :=
 if (S6 V i).2≠0 then (I2 0 (S6 V i).2 false,V)
 else if Av8 (V.S i).1 fd=false then (I2 0 109 false,V)
 else (I2 0 (Ez8 (wS V i (setFd (V.S i).1 fd.toNat 0)) ((V.S i).1.fds.getD fd.toNat 0-1)).1 false,(Ez8 (wS V i (setFd (V.S i).1 fd.toNat 0)) ((V.S i).1.fds.getD fd.toNat 0-1)).2)
theorem Ds9 {q q':Int→Bool}:∀ (m:Nat) (i:Int) (w:Nat),(∀ j:Int,i≤j→j<i+m→q j=q' j)→U0 q m i w=U0 q' m i w
 | 0,_,_,_=>rfl
 | _+1,_,0,_=>rfl
 | m+1,i,w+1,h=>by
  rw [U0,U0,h i (by omega) (by omega),Ds9 m (i+1) w fun j h1 h2=>h j (by omega) (by omega),Ds9 m (i+1) (w+1) fun j h1 h2=>h j (by omega) (by omega)]
abbrev E82 (V:VW):List Int:=U0 (fun j=>(V.F j).2==0) 12 0 2
abbrev Hn7 (V:VW):List Int:=U0 (fun j=>(V.P j).2==0) 4 0 1
def mkW (V:VW) (i d0 d1 f0 f1 r0:Int):VW:=wS (wF (wF (wP V r0 Bb3) f0 ⟨1,r0,1,0⟩) f1 ⟨2,r0,1,0⟩) i (setFd (setFd (V.S i).1 d0.toNat (f0+1)) d1.toNat (f1+1))
def Gt0 (V:VW) (i:Int):List Value × VW :=
 if (S6 V i).2≠0 then (I2 0 (S6 V i).2 false,V)
 else if (Ac7 (V.S i).1 2).length<2 then (I2 0 124 false,V)
 else if (E82 V).length<2∨(Hn7 V).length=0 then (I2 0 123 false,V)
 else (I2 ((Ac7 (V.S i).1 2).getD 0 0+16*(Ac7 (V.S i).1 2).getD 1 0) 0 false,mkW V i ((Ac7 (V.S i).1 2).getD 0 0) ((Ac7 (V.S i).1 2).getD 1 0) ((E82 V).getD 0 0) ((E82 V).getD 1 0) ((Hn7 V).getD 0 0))
theorem Ee6 {l:List Int} {j:Nat} (h:j<l.length):l.getD j 0 ∈ l:=by
 rw [List.getD_eq_getElem?_getD,List.getElem?_eq_getElem h];exact List.getElem_mem _
theorem See.pipe {X:CX} {V:VW} (A:See X V) {i:Int} (hi:0≤i∧i<8):(D98 X i).1=(Gt0 V i).1∧See (D98 X i).2 (Gt0 V i).2:=by
 have es:=A.self hi;have e1:Bp8 X=E82 V:=Ds9 12 0 2 fun j h1 h2=>by rw [A.f j (by omega)]
 have e2:By1 X=Hn7 V:=Ds9 4 0 1 fun j h1 h2=>by rw [A.p j (by omega)]
 unfold D98 Gt0;rw [e1,e2,es];by_cases h1:(S6 V i).2=0
 case neg=>rw [if_pos h1,if_pos h1];exact ⟨rfl,A⟩
 have n1:¬ (S6 V i).2≠0:=by simpa using h1
 rw [if_neg n1,if_neg n1,A.s i hi];by_cases h2:(Ac7 (V.S i).1 2).length<2
 ·rw [if_pos h2,if_pos h2];exact ⟨rfl,A⟩
 rw [if_neg h2,if_neg h2];by_cases h3:(E82 V).length<2∨(Hn7 V).length=0
 ·rw [if_pos h3,if_pos h3];exact ⟨rfl,A⟩
 rw [if_neg h3,if_neg h3];have hm:=A95 (fun j=>(V.S i).1.fds.getD j.toNat 0==0) 8 0 2;have hd0:=hm _ (Ee6 (l:=Ac7 (V.S i).1 2) (j:=0) (by omega));have hd1:=hm _ (Ee6 (l:=Ac7 (V.S i).1 2) (j:=1) (by omega));have hf0:=A95 (fun j=>(V.F j).2==0) 12 0 2 _ (Ee6 (l:=E82 V) (j:=0) (by omega));have hf1:=A95 (fun j=>(V.F j).2==0) 12 0 2 _ (Ee6 (l:=E82 V) (j:=1) (by omega));have hr:=A95 (fun j=>(V.P j).2==0) 4 0 1 _ (Ee6 (l:=Hn7 V) (j:=0) (by omega));generalize (Ac7 (V.S i).1 2).getD 0 0=d0 at hd0 ⊢;generalize (Ac7 (V.S i).1 2).getD 1 0=d1 at hd1 ⊢;generalize (E82 V).getD 0 0=f0 at hf0 ⊢;generalize (E82 V).getD 1 0=f1 at hf1 ⊢;generalize (Hn7 V).getD 0 0=r0 at hr ⊢;obtain ⟨_,_,_,_,m1,m2,m3,m4⟩:=Ht1 A.c hi (by rw [es];exact h1) (d0:=d0) (d1:=d1) (f0:=f0) (f1:=f1) (r0:=r0) (by omega) (by omega) (by omega) (by omega) (by omega) (by omega);refine ⟨rfl,m1,fun j hj=>?_,fun j hj=>?_,fun j hj=>?_⟩
 ·rw [m2 j hj,A.s i hi,A.s j hj];rfl
 ·rw [m3 j hj,A.f j hj];rfl
 ·rw [m4 j (by omega),A.p j hj];rfl
def En0 (V:VW):Nat→Int→Int
 | 0,_=>-1
 | m+1,i=>if (V.S i).2=0 then i else En0 V m (i+1)
theorem See.free {X:CX} {V:VW} (A:See X V):∀ (m:Nat) (i:Int),0≤i→i+m=8→Aq7 X m i=En0 V m i
 | 0,_,_,_=>rfl
 | m+1,i,h0,hi=>by rw [Aq7,En0,A.s i (by omega),A.free m (i+1) (by omega) (by omega)]
def Dv9 (V:VW) (more:List Int):List Int→Int
 | []=>0
 | f::l=>if f=0 then Dv9 V more l else if (V.F (f-1)).2≠1 then 105 else if (V.F (f-1)).1.refs+more.getD (f-1).toNat 0>64 then 123 else Dv9 V more l
theorem See.share {X:CX} {V:VW} (A:See X V) (more:List Int):∀ l:List Int,Bq4 l→Aj1 X more l=Dv9 V more l
 | [],_=>rfl
 | f::l,h=>by
  have hf:=h f (by simp);rw [Aj1,Dv9,A.share more l fun x hx=>h x (by simp [hx])];by_cases h0:f=0
  ·rw [if_pos h0,if_pos h0]
  ·rw [if_neg h0,if_neg h0,A.f (f-1) (by omega)]
def J76 (V:VW) (more:List Int):VW:=⟨V.S,fun j=>if more.getD j.toNat 0≠0 then (Da3 (V.F j).1 (more.getD j.toNat 0),1) else V.F j,V.P⟩
def Gq6 (V:VW) (i:Int):List Value × VW :=
 if (S6 V i).2≠0 then (I2 0 (S6 V i).2 false,V)
 else if En0 V 8 0<0 then (I2 0 111 false,V)
 else if Dv9 V (Au0 (V.S i).1) (V.S i).1.fds≠0 then (I2 0 (Dv9 V (Au0 (V.S i).1) (V.S i).1.fds) false,V)
 else (I2 (En0 V 8 0) 0 false,wS (J76 V (Au0 (V.S i).1)) (En0 V 8 0) (By2 (V.S i).1 i))
theorem See.fork {X:CX} {V:VW} (A:See X V) {i:Int} (hi:0≤i∧i<8):(E94 X i).1=(Gq6 V i).1∧See (E94 X i).2 (Gq6 V i).2:=by
 have es:=A.self hi;have ef:=A.free 8 0 (by omega) (by omega);unfold E94 Gq6;rw [ef];by_cases h1:(S6 V i).2=0
 case neg=>rw [es,if_pos h1,if_pos h1];exact ⟨rfl,A⟩
 have n1:¬ (S6 V i).2≠0:=by simpa using h1
 have n2:¬ (N4 X i).2≠0:=by rw [es];exact n1
 rw [if_neg n2,if_neg n1];by_cases h2:En0 V 8 0<0
 ·rw [if_pos h2,if_pos h2];exact ⟨rfl,A⟩
 rw [if_neg h2,if_neg h2];obtain ⟨s1,s2,s3,s4⟩:=Da2 A.c hi (by rw [es];exact h1);rw [s1];have hfd:=Do4 s3;have hin:=A65 (rd X ⟨1,i⟩);have esh:=A.share (Au0 (vS X i).1) _ hfd;have hcl:=Gl0 A.c hfd;have hno:=fun h=>Hs2 (X:=X) (p:=(vS X i).1) h
 have hm8:En0 V 8 0<8:=by
  rcases Gf5 (X:=X) 8 0 (by omega) (by omega) with h|h<;>omega
 have e1:(Aa7 X (vS X i).1).1=Aj1 X (Au0 (vS X i).1) (vS X i).1.fds:=by
  unfold Aa7;split
  ·rename_i h;exact h.symm
  ·rfl
 rw [esh] at e1;have hck:=Ia9 s3 s2 hi;have hin2:InS (By2 (vS X i).1 i):=⟨by simp,hin.b,hin.c,hin.d⟩
 simp only;rw [e1] at hcl hno ⊢;rw [A.s i hi] at *;by_cases h3:Dv9 V (Au0 (V.S i).1) (V.S i).1.fds=0
 case neg=>rw [if_pos h3,if_pos h3];exact ⟨rfl,A⟩
 have n3:¬ Dv9 V (Au0 (V.S i).1) (V.S i).1.fds≠0:=by simpa using h3
 rw [if_neg n3,if_neg n3];obtain ⟨a1,a2,a3,a4⟩:=hcl h3;refine ⟨rfl,?_⟩;have B:See (Aa7 X (V.S i).1).2 (J76 V (Au0 (V.S i).1)):=⟨a1,fun j hj=>by rw [a2 j hj];exact A.s j hj,fun j hj=>by rw [a3 j hj,A.f j hj];rfl,fun j hj=>by rw [a4 j (by omega)];exact A.p j hj⟩
 exact B.ws (by omega) hck hin2
def V1:VW:=⟨fun j=>if j=0 then (p0,1) else (.zero,0),fun j=>if j=0 then (f0,1) else (.zero,0),fun j=>if j<4 then (.zero,0) else vP X1 j⟩
theorem Ie4:See X1 V1:=by
 refine ⟨Jl7,fun j hj=>?_,fun j hj=>?_,fun j hj=>?_⟩
 ·have:j=0∨j=1∨j=2∨j=3∨j=4∨j=5∨j=6∨j=7:=by omega
  rcases this with rfl|rfl|rfl|rfl|rfl|rfl|rfl|rfl<;>(clear hj;show (_:ProcS × Int)=_;kernel_rfl)
 ·have:j=0∨j=1∨j=2∨j=3∨j=4∨j=5∨j=6∨j=7∨j=8∨j=9∨j=10∨j=11:=by omega
  rcases this with rfl|rfl|rfl|rfl|rfl|rfl|rfl|rfl|rfl|rfl|rfl|rfl<;>(clear hj;show (_:FileS × Int)=_;kernel_rfl)
 ·by_cases h4:j<4
  ·have:j=0∨j=1∨j=2∨j=3:=by omega
   rcases this with rfl|rfl|rfl|rfl<;>(clear hj h4;show (_:PipeS × Int)=_;kernel_rfl)
  ·show _=if j<4 then _ else vP X1 j
   rw [if_neg h4]
abbrev rr (r:Int→Int) (v d:Int):Int→Int:=fun k=>if k=v then r k+d else r k
theorem VW.ext' {V V':VW} (h1:∀ j,V.S j=V'.S j) (h2:∀ j,V.F j=V'.F j) (h3:∀ j,V.P j=V'.P j):V=V':=by
 obtain ⟨a,b,c⟩:=V;obtain ⟨a',b',c'⟩:=V';have e1:a=a':=funext h1;have e2:b=b':=funext h2;have e3:c=c':=funext h3;rw [e1,e2,e3]
section
variable {ow:List Int} {h:ow.length=8} {r:Int→Int}
end
end Go.EQ
