/- One that is stopped does nothing till it goes on, and holds nobody up; then its call is done. -/
import Derived.Test.YtonlefldpebcpaaGreatDoorMi
set_option linter.all false
set_option maxRecDepth 10000
namespace Go.EQ
open Go Go.NN
abbrev Df9 (s:Int × ProcS):List Value:=int s.1::B5 s.2
def Q3 (X:CX) (q:Int→ProcS→Bool):Nat→Int→List (Int × ProcS)
 | 0,_=>[]
 | m+1,i=>if (vS X i).2=1∧q i (vS X i).1=true then (i,(vS X i).1)::Q3 X q m (i+1) else Q3 X q m (i+1)
theorem Gk5 (X:CX) (q:Int→ProcS→Bool):∀ (m:Nat) (i:Int),(Q3 X q m i).length≤m
 | 0,i=>by simp [Q3]
 | m+1,i=>by
  have:=Gk5 X q m (i+1)
  unfold Q3;split<;>simp<;>omega
theorem Au5 (j:Int) (p:ProcS):(int j::B5 p).length=17:=by simp [B08 p,p.len]
instance {j:Int} {p:ProcS}:LenC (int j::B5 p) 17:=⟨Au5 j p⟩
instance {j:Int} {p:ProcS}:PartC (int j::B5 p) 0 17 (int j::B5 p):=⟨Bl8 (Au5 j p)⟩
instance {j:Int} {p:ProcS} {cs:List Value} [k:LenC cs 17]:SetsC cs 0 (int j::B5 p) (int j::B5 p):=⟨Bm1 k.ok (Au5 j p) (by simp [Value.oneCell])⟩
theorem Hn7 (b k:Nat) (F:Fr) (X:CX) (ok:FrOk F) {nc:Nat} (c:Clean nc X) (pr:HP) (g:FuncId) (cp:List Value) (q:Int→ProcS→Bool)
  (hq:∀ (j:Int) (p:ProcS),Ct A6 g (.agg ⟨int j::B5 p⟩::cp) [pr] fun v own=>v=.bool (q j p)∧own [pr]):∀ (m:Nat) (i:Int) (acc:List (Int × ProcS)) (a:Option Addr) (ac:Nat),0≤i→i+m=8→acc.length≤i →
  CtJ I4 Ah0 A31 [(0,P0 b),(1,.func (.func g) ⟨[]⟩ ⟨cp⟩),(5,.slice a acc.length ac),(10,int i)] [slC false N6 17 a acc.length ac (acc.flatMap Df9),cmC b k F X,pr] fun v own =>
   ∃ a' c',v=.slice a' (acc++Q3 X q m i).length c'∧own [slC false N6 17 a' (acc++Q3 X q m i).length c' ((acc++Q3 X q m i).flatMap Df9),cmC b k F X,pr]:=by
 intro m
 induction m with
 | zero =>
  intro i acc a ac h0 hi ha
  refine CtJ.of Dw8 fun h r=>Tr.eq (D31 ..) ?_;refine Je ?_
  refine Yf (by simp;omega) ?_
  refine Ys fun o=>?_
  rw [show Q3 X q 0 i=[] from rfl,List.append_nil]
  exact ⟨a,ac,rfl,o.sub⟩
 | succ m ih =>
  intro i acc a ac h0 hi ha
  have e1:=wI i
  refine CtJ.of Dw8 fun h r=>Tr.eq (D31 ..) ?_;refine Je ?_
  refine Yt (by simp;omega) ?_
  rw [e1]
  refine Yc (Z5 b k F X ok i) ?_;rintro _ h ⟨rfl,o⟩<;>refine Jh o ?_
  rw [N9 c (by omega)]
  dsimp only
  generalize hp:(vS X i).1=p
  simp only [List.append_nil,List.nil_append]
  (refine Jc ?_;intros)
  refine Yn fun b1 h=>?_
  (refine Jc ?_;intros)
  refine Yn fun b2 h=>?_
  (refine Jb ?_;intros)
  rw [show Q3 X q (m+1) i=if (vS X i).2=1∧q i (vS X i).1=true then (i,(vS X i).1)::Q3 X q m (i+1) else Q3 X q m (i+1) from rfl,hp]
  by_cases h1:(vS X i).2=1
  ·refine Yb (Yt (by simpa using h1) ?_)
   (refine Jb ?_;intros)
   simp only [List.nil_append]
   refine Yc (hq i p) ?_;rintro _ h ⟨rfl,o⟩<;>refine Jh o ?_
   (refine Jb ?_;intros)
   refine Ys fun o=>(?_:Tr _ _ _ _) o;refine Je ?_
   by_cases h2:q i p=true
   ·rw [if_pos ⟨h1,h2⟩]
    refine Yt h2 ?_
    (refine Jc ?_;intros)
    refine Yn fun b3 h=>?_
    (refine Ja ?_;intros)
    refine Tr.xCellsB (xs:=int i::B5 p) (Ek4 (Bl8 (Au5 i p))) ?_
    (refine Ja ?_;intros)
    refine Tr.xApd ⟨Au5 i p,by simp [Value.oneCell],by simp only [A8];omega⟩ fun a' c' h=>?_
    rw [show acc.flatMap Df9++(int i::B5 p)=(acc++[(i,p)]).flatMap Df9 by simp,show acc.length+1=(acc++[(i,p)]).length by simp]
    refine V4 [5,4,1] 3 rfl rfl ?_
    refine Yr (ih (i+1) (acc++[(i,p)]) a' c' (by omega) (by omega) (by simp;omega)) ?_
    intro v h q
    rw [List.append_assoc] at q
    exact q
   ·rw [if_neg (fun h3=>h2 h3.2)]
    refine Yf (by simpa using h2) ?_
    refine V4 [4,3,0] 2 rfl rfl ?_
    refine Yr (ih (i+1) acc a ac (by omega) (by omega) (by omega)) ?_
    intro v h q
    exact q
  ·rw [if_neg (fun h3=>h1 h3.1)]
   refine Yb (Yf (by simpa using h1) ?_)
   refine Ys fun o=>(?_:Tr _ _ _ _) o;refine Je ?_
   refine Yf rfl ?_
   refine V4 [3,2,2] 2 rfl rfl ?_
   refine Yr (ih (i+1) acc a ac (by omega) (by omega) (by omega)) ?_
   intro v h q
   exact q
theorem Il5 (b k:Nat) (F:Fr) (X:CX) (ok:FrOk F) {nc:Nat} (c:Clean nc X) (pr:HP) (g:FuncId) (cp:List Value) (q:Int→ProcS→Bool)
  (hq:∀ (j:Int) (p:ProcS),Ct A6 g (.agg ⟨int j::B5 p⟩::cp) [pr] fun v own=>v=.bool (q j p)∧own [pr]) :
  Ct A6 Ah0 [P0 b,.func (.func g) ⟨[]⟩ ⟨cp⟩] [cmC b k F X,pr] fun v own=>∃ a' c',v=.slice a' (Q3 X q 8 0).length c'∧own [slC false N6 17 a' (Q3 X q 8 0).length c' ((Q3 X q 8 0).flatMap Df9),cmC b k F X,pr]:=by
 refine Ct.of Dw8 rfl fun h r=>Tr.eq (Hg7 ..) ?_;refine Je ?_
 refine E8 false N6 17 (by omega) ?_
 have J:=Hn7 b k F X ok c pr g cp q hq 8 0 [] none 0 (by omega) (by omega) (by simp)
 simp only [List.nil_append,List.length_nil,List.flatMap_nil] at J
 refine Yr J ?_
 intro v h q
 exact q
theorem Io8 (j:Int) (p:ProcS):Ct A6 A73 [.agg ⟨int j::B5 p⟩] [] fun v own=>v=.bool (p.state != 2)∧own []:=by
 refine Ct.of E62 rfl fun h r=>Tr.eq (E65 ..) ?_;refine Je ?_
 (refine Ja ?_;intros)
 refine Ys fun o=>?_
 exact ⟨rfl,o.sub⟩
theorem Ej5 {nc:Nat} {X:CX} (c:Clean nc X) (q:Int→ProcS→Bool):∀ (m:Nat) (i:Int),0≤i→i+m=8→∀ s ∈ Q3 X q m i,0≤s.1∧s.1<8∧okS s.2=true
 | 0,i,_,_,s,hs=>by simp [Q3] at hs
 | m+1,i,h0,hi,s,hs=>by
  rw [show Q3 X q (m+1) i=if (vS X i).2=1∧q i (vS X i).1=true then (i,(vS X i).1)::Q3 X q m (i+1) else Q3 X q m (i+1) from rfl] at hs
  split at hs
  ·rename_i h1
   rcases List.mem_cons.1 hs with rfl|h2
   ·refine ⟨h0,by simp only;omega,?_⟩
    rcases Gl7 c (i:=i) (by omega) with ⟨h3,_⟩|⟨_,h3⟩
    ·rw [h1.1] at h3;cases h3
    ·exact h3
   ·exact Ej5 c q m (i+1) (by omega) (by omega) s h2
  ·exact Ej5 c q m (i+1) (by omega) (by omega) s hs
abbrev I55:List Value:=[int 0,int 0,.slice none 0 0,.bool false]
def p0:ProcS:=⟨1,0,0,0,0,0,0,0,[1,0,0,0,0,0,0,0],rfl⟩
def f0:FileS:=⟨3,0,1,0⟩
def A07:List UInt8:=N8 (N8 Ad5 0 (E07 p0)) 192 (Al5 f0)
theorem B69:A07.length=492:=by kernel_rfl
theorem Et7:(E07 p0).length=24:=by kernel_rfl
theorem Gy2 (l b:List UInt8) (a:Nat):(A0 l).take a++A0 b++(A0 l).drop (a+(A0 b).length)=A0 (N8 l a b):=by
 rw [Y0]
 simp [N8,A0,List.map_take,List.map_drop]
theorem Ip9 {b:List UInt8} (h:0<b.length):A0 b≠[]:=by
 intro e
 have e2:=congrArg List.length e
 rw [Y0] at e2
 have e3:b.length=0:=e2
 omega
theorem Ip2:Ct A6 Bw9 [] [] fun v own=>∃ a,v=.slice a 492 492∧own [slC false A4 1 a 492 492 (A0 A07)]:=by
 refine Ct.of G28 rfl fun h r=>Tr.eq (G41 ..) ?_;refine Je ?_
 refine Yc (G15) ?_;rintro _ h ⟨rfl,o⟩<;>refine Jh o ?_
 (refine Jc ?_;intros)
 rw [A86,Ad6]
 refine Tr.ck (by simp [A8]) ?_
 refine Yn fun b0 h=>?_
 refine Dw9 (n:=492) 0 rfl (by rw [Y0];exact Ad6) ?_
 refine Je ?_
 refine Yn fun b1 h=>?_
 (refine Ja ?_;intros)
 rw [show ([int 1,int 0,int 0,int 0,int 0,int 0,int 0,int 0,int 0,int 0,int 0,int 0,int 0,int 0,int 0,int 0]:List Value).set 8 (int 1)=B5 p0 from rfl]
 (refine Ja ?_;intros)
 refine Yc (Ig4 p0) ?_;rintro _ h ⟨rfl,o⟩<;>refine Jh o ?_
 (refine Ja ?_;intros)
 rw [show List.take (min (bs (E07 p0)).size 492) (bs (E07 p0)).data.toList=E07 p0 by kernel_rfl]
 rw [show B1 (N7 b0)=(B1 (N7 b0)).add 0 from rfl]
 refine Tr.xPAggS (cs':=A0 (N8 Ad5 0 (E07 p0))) ⟨Ip9 (by rw [Et7];omega),by rw [Y0,Y0,Et7,Ad6];omega,Aj2 _,Gy2 _ _ 0⟩ fun h=>?_
 (refine Ja ?_;intros)
 refine Yc (H85 f0) ?_;rintro _ h ⟨rfl,o⟩<;>refine Jh o ?_
 (refine Ja ?_;intros)
 rw [show List.take (min (bs (Al5 f0)).size (492-192)) (bs (Al5 f0)).data.toList=Al5 f0 by kernel_rfl]
 rw [Gv3 (by omega),E17]
 refine Tr.xPAggS (cs':=A0 A07) ⟨Ip9 (by rw [Dx6];omega),by rw [Y0,Y0,Ah1 (by rw [Et7,Ad6];omega),Dx6,Ad6];omega,Aj2 _,Gy2 _ _ 192⟩ fun h=>?_
 refine Ys fun o=>?_
 exact ⟨_,rfl,o.sub⟩
theorem Hz8 {S:KS} (kS:Like S) {s:Nat} {env:Int} (e:EnvP s env) {j:Nat} {cap:Int} {lo n:Nat} (hc:Ir3[j]?=some cap) (hr:(rgP s)[j]?=some (lo,n)) {b:List UInt8} (hb:b.length≤n) :
  W5 S env ⟨2,cap,0,0,0,0,b⟩=((0,0,[]),J9 S (N8 S.mem lo b)):=by
 have F:=Gn2 kS e
 have hroom:lo+n≤S.mem.length:=Ef7 kS e.hs env j lo n hr
 have hp:=F.pl j cap lo n hc hr 0 b.length 2 (.inr rfl) (by omega)
 have hs:Bf6 S.mem ((lo+0:Nat):Int) b=some (N8 S.mem lo b):=by
  unfold Bf6
  rw [if_pos (by omega),Int.toNat_natCast,Nat.add_zero];rfl
 have ew:Ao1 S.tabs S.regs S.mem env cap 0 b=(0,N8 S.mem lo b):=by
  unfold Ao1
  rw [show S5 S.tabs S.regs env cap 2 0 (b.length:Int)=(((lo+0:Nat):Int),0) from hp]
  rw [if_neg (by simp),hs]
 unfold W5
 rw [if_neg (show ¬ (env<0∨env≥(S.envs.length:Int)) from F.env)]
 unfold kDo
 rw [if_neg (show ¬ ((2:Int)=1) by decide),if_pos rfl,ew]
def q1:PipeS:=⟨0,0,1,1,List.replicate 32 0,rfl⟩
def S1:KS:=J9 S0 (N8 S0.mem 0 A07)
def S2:KS:=J9 S1 (N8 S1.mem 512 (N0 q1))
def S3:KS:=J9 S2 (N8 S2.mem 1856 (N0 q1))
theorem A34:(N0 q1).length=40:=Dz3 q1.len
theorem Gq5:Like S1:=Ef1 D30 (by rw [Ah1 (by rw [B69,D30.mem];omega)];exact D30.mem)
theorem Gi4:Like S2:=Ef1 Gq5 (by rw [Ah1 (by rw [A34,Gq5.mem];omega)];exact Gq5.mem)
theorem Hx9:Like S3:=Ef1 Gi4 (by rw [Ah1 (by rw [A34,Gi4.mem];omega)];exact Gi4.mem)
theorem I42:W5 S0 0 ⟨2,256,0,0,0,0,A07⟩=((0,0,[]),S1):=Hz8 D30 Gf4 (j:=0) rfl rfl (by rw [B69];omega)
theorem I35:W5 S1 0 ⟨2,257,0,0,0,0,N0 q1⟩=((0,0,[]),S2):=Hz8 Gq5 Gf4 (j:=1) rfl rfl (by rw [A34];omega)
theorem I57:W5 S2 0 ⟨2,258,0,0,0,0,N0 q1⟩=((0,0,[]),S3):=Hz8 Gi4 Gf4 (j:=2) rfl rfl (by rw [A34];omega)
abbrev F1:Fr:=frP S3 0 0
def X1:CX:=⟨B89 S3.mem (rgP 0),[]⟩
theorem I36:FrOk F1:=Gn2 Hx9 Gf4
theorem Ij8:Clean 3 X1:=by
 refine ⟨by kernel_rfl,by omega,rfl,by kernel_rfl,fun j h0 h1=>?_,fun r h1 h2 h3 h4=>?_⟩
 ·have:j=1∨j=2:=by omega
  rcases this with rfl|rfl
  ·clear h0 h1;show (_:Nat)=_;kernel_rfl
  ·clear h0 h1;show (_:Nat)=_;kernel_rfl
 ·have all:((List.range 8).all (fun i=>decide (stR 1 (rd X1 ⟨1,(i:Int)⟩)≠2)) && ((List.range 12).all (fun i=>decide (stR 2 (rd X1 ⟨2,(i:Int)⟩)≠2)) && ((List.range 6).all (fun i=>decide (stR 3 (rd X1 ⟨3,(i:Int)⟩)≠2)) && (decide (stR 4 (rd X1 ⟨4,0⟩)≠2) && decide (stR 5 (rd X1 ⟨5,0⟩)≠2)))))=true:=by kernel_rfl
  simp only [Bool.and_eq_true,List.all_eq_true,List.mem_range,decide_eq_true_eq] at all
  obtain ⟨a1,a2,a3,a4,a5⟩:=all
  obtain ⟨k,i⟩:=r
  simp only at h1 h2 h3 h4 ⊢
  obtain ⟨n,rfl⟩:∃ n:Nat,i=n:=⟨i.toNat,by omega⟩
  have hk:k=1∨k=2∨k=3∨k=4∨k=5:=by omega
  rcases hk with rfl|rfl|rfl|rfl|rfl<;>simp [Ab6] at h4
  ·exact a1 n (by omega)
  ·exact a2 n (by omega)
  ·exact a3 n (by omega)
  ·obtain rfl:n=0:=by omega
   exact a4
  ·obtain rfl:n=0:=by omega
   exact a5
theorem H60 (k w m c:Nat) (b1:Nat) (cs:List Value) (hcs:cs.length=7) (K:RKS) (hK:RKOk K) (hB:0<K.B.envs.length) :
  CtJ I4 An9 Bj6 [(6,P0 k),(7,P0 c),(8,P0 w),(9,P0 m),(10,P0 b1),(11,.string (bs (N0 q1))),(12,int 1)] [pt b1 (.cells A29 false cs),D4 k S1,rkC w K] fun v own =>
   v=.tuple ⟨[P0 k,P0 c,P0 w,P0 m]⟩∧∃ K',(RKOk K'∧K'.B=K.B)∧own [D4 k S3,rkC w K']:=by
 have hset:∀ xs:List Value,xs.length=7→∀ vs:List Value,vs.length=7→vs.all Value.oneCell=true→Ej6 xs 0 vs=some vs:=fun xs h vs h1 h2=>Bm1 h h1 h2
 refine CtJ.of B34 fun h r=>Tr.eq (B60 ..) ?_;refine Je ?_
 refine Yt rfl ?_
 rw [A86,A34]
 refine Tr.ck (by simp [A8]) ?_
 refine Yn fun b2 h=>?_
 refine Dw9 (n:=40) 0 rfl (by rw [Y0];exact A34) ?_
 refine Je ?_
 rw [show IntKind.wrap .i64 (256+1)=257 by decide]
 refine Gs (fun h=>?_) (by exact hset cs hcs _ rfl rfl)
 (refine Ja ?_;intros)
 have J1:=Ed7 k S1 0 Gq5.ok (by omega) 0 ⟨2,257,0,0,0,0,N0 q1⟩ (some (N7 b2)) 40 false (show ((2:Int)≠5) by decide)
 rw [I35] at J1
 simp only [Bp8,A34] at J1
 refine By7 J1 [2,0] rfl ?_
 rintro _ h ⟨y,z,rfl,o⟩
 refine (?_:Tr _ _ _ _) o
 refine Je ?_
 (refine Ja ?_;intros)
 have R1:=E23 w K hK 0 hB ⟨2,257,0,0,0,0,N0 q1⟩ rfl (by rw [A34];simp [A8]) (slC false A4 1 (some (N7 b2)) (N0 q1).length 40 (A0 (N0 q1))) (some (N7 b2)) 40 false
 simp only [Bp8,A34] at R1
 refine By7 R1 [4,2] rfl ?_
 rintro _ h ⟨rfl,o⟩
 rw [show ({ K with R:=(Ak8 K.R ((0:Nat):Int) 257 0 (N0 q1)).2 }:RKS)=wrR K 257 (N0 q1) from rfl] at o
 have hK1:=Es3 hK 257 (N0 q1)
 refine (?_:Tr _ _ _ _) o
 refine Je ?_
 (refine Ja ?_;intros)
 refine Tr.jmp B34 (Tr.eq (B60 ..) ?_);(try simp only[Nr,Nl,wl,Nat.reduceAdd,Nat.reduceMul,Int.reduceToNat])
 refine Yt rfl ?_
 rw [A86,A34]
 refine Tr.ck (by simp [A8]) ?_
 refine Yn fun b3 h=>?_
 refine Dw9 (n:=40) 0 rfl (by rw [Y0];exact A34) ?_
 refine Je ?_
 rw [show IntKind.wrap .i64 (256+2)=258 by decide]
 refine Gs (fun h=>?_) (by exact hset _ rfl _ rfl rfl)
 (refine Ja ?_;intros)
 have J2:=Ed7 k S2 0 Gi4.ok (by omega) 0 ⟨2,258,0,0,0,0,N0 q1⟩ (some (N7 b3)) 40 false (show ((2:Int)≠5) by decide)
 rw [I57] at J2
 simp only [Bp8,A34] at J2
 refine By7 J2 [4,0] rfl ?_
 rintro _ h ⟨y2,z2,rfl,o⟩
 refine (?_:Tr _ _ _ _) o
 refine Je ?_
 (refine Ja ?_;intros)
 have R2:=E23 w (wrR K 257 (N0 q1)) hK1 0 hB ⟨2,258,0,0,0,0,N0 q1⟩ rfl (by rw [A34];simp [A8]) (slC false A4 1 (some (N7 b3)) (N0 q1).length 40 (A0 (N0 q1))) (some (N7 b3)) 40 false
 simp only [Bp8,A34] at R2
 refine By7 R2 [3,2] rfl ?_
 rintro _ h ⟨rfl,o⟩
 rw [show ({ wrR K 257 (N0 q1) with R:=(Ak8 (wrR K 257 (N0 q1)).R ((0:Nat):Int) 258 0 (N0 q1)).2 }:RKS)=wrR (wrR K 257 (N0 q1)) 258 (N0 q1) from rfl] at o
 refine (?_:Tr _ _ _ _) o
 refine Je ?_
 (refine Ja ?_;intros)
 refine Tr.jmp B34 (Tr.eq (B60 ..) ?_);(try simp only[Nr,Nl,wl,Nat.reduceAdd,Nat.reduceMul,Int.reduceToNat])
 refine Yf rfl ?_
 refine Ys fun o=>?_
 exact ⟨rfl,_,⟨Es3 hK1 258 _,rfl⟩,o.fin [3,0] 5 rfl rfl⟩
theorem Iq4:RKOk K0:=Es3 Dz7.1 256 Ad5
theorem Hw6:0<K0.B.envs.length:=by show (0:Nat)<(De1 Ad7).B.envs.length;rw [Dz7.2,Bm2];simp
theorem Iq3 (K:RKS) (cap:Int) (b:List UInt8):(wrR K cap b).B=K.B:=rfl
theorem I61:K0.B=Ad7:=(Iq3 (De1 Ad7) 256 Ad5).trans Dz7.2
theorem Il7 (a:Option Addr):Ct A6 An9 [.slice a 492 492] [slC false A4 1 a 492 492 (A0 A07)] fun v own=>∃ k c w m K',(RKOk K'∧K'.B=Ad7)∧v=.tuple ⟨[P0 k,P0 c,P0 w,P0 m]⟩∧own [cmC c k F1 X1,rkC w K',rcC m w 0 (B54 K0 0) []]:=by
 refine Ct.of B34 rfl fun h r=>Tr.eq (Hl6 ..) ?_;refine Je ?_
 refine Yc (Il8) ?_;rintro _ h ⟨A,rfl,o⟩<;>refine Jh o ?_
 (refine Ja ?_;intros)
 refine Yc (Im7 A) ?_
 rintro _ h ⟨k,c,w,m,rfl,o⟩
 refine (?_:Tr _ _ _ _) o
 refine Je ?_
 (refine Jb ?_;intros)
 refine Yb (Yf rfl ?_)
 refine Ys fun o=>(?_:Tr _ _ _ _) o;refine Je ?_
 refine Yf rfl ?_
 refine I23 c k F0 X0 fun f=>?_
 rw [show F0.at X0.m=S0 from Fr.at_cut Iq6 (Ef7 D30 (by omega) 0)]
 refine (?_:Tr (D4 k S0::Y4 c k 0 Ir3 []::_) _ _ _)
 refine Yn fun b1 h=>?_
 (refine Ja ?_;intros)
 refine Yc (Gx6 q1) ?_;rintro _ h ⟨rfl,o⟩<;>refine Jh o ?_
 (refine Ja ?_;intros)
 have J1:=Ed7 k S0 0 D30.ok (by omega) 0 ⟨2,256,0,0,0,0,A07⟩ a 492 false (show ((2:Int)≠5) by decide)
 rw [I42] at J1
 simp only [Bp8,B69] at J1
 refine By7 J1 [1,4] rfl ?_
 rintro _ h ⟨y,z,rfl,o⟩
 refine (?_:Tr _ _ _ _) o
 refine Je ?_
 (refine Ja ?_;intros)
 have R1:=E23 w K0 Iq4 0 Hw6 ⟨2,256,0,0,0,0,A07⟩ rfl (by rw [B69];simp [A8]) (slC false A4 1 a A07.length 492 (A0 A07)) a 492 false
 simp only [Bp8,B69] at R1
 refine By7 R1 [5,2] rfl ?_
 rintro _ h ⟨rfl,o⟩
 rw [show ({ K0 with R:=(Ak8 K0.R ((0:Nat):Int) 256 0 A07).2 }:RKS)=wrR K0 256 A07 from rfl] at o
 refine (?_:Tr _ _ _ _) o
 refine Je ?_
 (refine Ja ?_;intros)
 refine E41 (H60 k w m c b1 _ rfl (wrR K0 256 A07) (Es3 Iq4 256 A07) Hw6) [4,3,0] rfl ?_
 rintro _ h ⟨rfl,K',hK,o⟩
 refine ⟨k,c,w,m,K',⟨hK.1,by rw [hK.2,Iq3];exact I61⟩,rfl,?_⟩
 exact Own.cmTake c k F1 [] I36 (Ef7 Hx9 (by omega) 0) (o.fin [0,3,0,2] 2 rfl rfl)
def X2:CX:=(En8 X1 0).2
section
variable {nc:Nat} {X:CX} (c:Clean nc X)
include c
abbrev Dc5 (X:CX) (i:Int) (p:PipeS):CX:=B30 X ⟨3,i⟩ (N0 p)
abbrev Gs5 (X:CX) (i:Int):CX:=B30 X ⟨2,i⟩ (List.replicate 8 0)
abbrev Gs1 (X:CX) (i:Int):CX:=B30 X ⟨3,i⟩ (List.replicate 40 0)
theorem Ee1 {i:Int} (h:0≤i∧i<3+nc) {p:PipeS} (ok:okP p=true) :
  Ge4 X i p=(true,Dc5 X i p)∧Clean nc (Dc5 X i p)∧(∀ j:Int,0≤j∧j<8→vS (Dc5 X i p) j=vS X j)∧(∀ j:Int,0≤j∧j<12→vF (Dc5 X i p) j=vF X j)∧(∀ j:Int,0≤j∧j<3+nc→vP (Dc5 X i p) j=if j=i then (p,1) else vP X j):=by
 have hl:(N0 p).length=Ah3 (3:Int):=by rw [Dz3 p.len];rfl
 refine ⟨by unfold Ge4;rw [ok];exact Dk3 c (Br7 h) _,Dh7 c (Br7 h) hl (by show (Y5 (N0 p)).2≠2;rw [Hf5 ok];simp),fun j hj=>?_,fun j hj=>?_,fun j hj=>?_⟩
 ·show Aa3 (rd _ _)=_
  rw [Aq7 c (Br7 h) (Dx4 hj) hl,if_neg (by simp)]
 ·show Aa6 (rd _ _)=_
  rw [Aq7 c (Br7 h) (Br9 hj) hl,if_neg (by simp)]
 ·show Y5 (rd _ _)=_
  rw [Aq7 c (Br7 h) (Br7 hj) hl]
  by_cases e:j=i
  ·rw [if_pos (by rw [e]),if_pos e];exact Hf5 ok
  ·rw [if_neg (by simp [e]),if_neg e]
theorem Gv8 {i:Int} (h:0≤i∧i<12) :
  Iq2 X ⟨2,i⟩=(true,Gs5 X i)∧Clean nc (Gs5 X i)∧(∀ j:Int,0≤j∧j<8→vS (Gs5 X i) j=vS X j)∧(∀ j:Int,0≤j∧j<12→vF (Gs5 X i) j=if j=i then (.zero,0) else vF X j)∧(∀ j:Int,0≤j∧j<3+nc→vP (Gs5 X i) j=vP X j):=by
 have hl:(List.replicate 8 (0:UInt8)).length=Ah3 (2:Int):=rfl
 refine ⟨Dk3 c (Br9 h) _,Dh7 c (Br9 h) hl (by show (Aa6 (List.replicate 8 0)).2≠2;rw [show (Aa6 (List.replicate 8 0))=(.zero,0) from rfl];simp),fun j hj=>?_,fun j hj=>?_,fun j hj=>?_⟩
 ·show Aa3 (rd _ _)=_
  rw [Aq7 c (Br9 h) (Dx4 hj) hl,if_neg (by simp)]
 ·show Aa6 (rd _ _)=_
  rw [Aq7 c (Br9 h) (Br9 hj) hl]
  by_cases e:j=i
  ·rw [if_pos (by rw [e]),if_pos e];rfl
  ·rw [if_neg (by simp [e]),if_neg e]
 ·show Y5 (rd _ _)=_
  rw [Aq7 c (Br9 h) (Br7 hj) hl,if_neg (by simp)]
theorem Gs9 {i:Int} (h:0≤i∧i<3+nc) :
  Iq2 X ⟨3,i⟩=(true,Gs1 X i)∧Clean nc (Gs1 X i)∧(∀ j:Int,0≤j∧j<8→vS (Gs1 X i) j=vS X j)∧(∀ j:Int,0≤j∧j<12→vF (Gs1 X i) j=vF X j)∧(∀ j:Int,0≤j∧j<3+nc→vP (Gs1 X i) j=if j=i then (.zero,0) else vP X j):=by
 have hl:(List.replicate 40 (0:UInt8)).length=Ah3 (3:Int):=rfl
 refine ⟨Dk3 c (Br7 h) _,Dh7 c (Br7 h) hl (by show (Y5 (List.replicate 40 0)).2≠2;rw [show (Y5 (List.replicate 40 0))=(.zero,0) from rfl];simp),fun j hj=>?_,fun j hj=>?_,fun j hj=>?_⟩
 ·show Aa3 (rd _ _)=_
  rw [Aq7 c (Br7 h) (Dx4 hj) hl,if_neg (by simp)]
 ·show Aa6 (rd _ _)=_
  rw [Aq7 c (Br7 h) (Br9 hj) hl,if_neg (by simp)]
 ·show Y5 (rd _ _)=_
  rw [Aq7 c (Br7 h) (Br7 hj) hl]
  by_cases e:j=i
  ·rw [if_pos (by rw [e]),if_pos e];rfl
  ·rw [if_neg (by simp [e]),if_neg e]
end
def SlOk (L:List (Int × ProcS)):Prop:=∀ s ∈ L,(0≤s.1∧s.1<8)∧okS s.2=true∧InS s.2
abbrev setFd (p:ProcS) (j:Nat) (f:Int):ProcS:=⟨p.state,p.parent,p.group,p.code,p.pending,p.mask,p.ignored,p.caught,p.fds.set j f,by rw [List.length_set];exact p.len⟩
theorem Gg0 {p:ProcS} (h:okS p=true) (h1:p.state=1) (j:Nat) {f:Int} (hf:0≤f∧f≤12):okS (setFd p j f)=true:=by
 have hd:=Gr0 h
 have hd2:B37 (setFd p j f).fds:=fun x hx=>by
  rcases List.mem_or_eq_of_mem_set hx with h2|rfl
  ·exact hd x h2
  ·exact hf
 unfold okS at h ⊢
 rw [if_neg (by rw [h1];decide)] at h
 rw [if_neg (show ¬ (setFd p j f).state=2 by show ¬ p.state=2;rw [h1];decide)]
 simp only [Bool.and_eq_true] at h ⊢
 refine ⟨h.1,h.2.1,?_,h.2.2.2⟩
 rw [Bool.not_eq_true',List.any_eq_false]
 intro x hx
 have:=hd2 x hx
 simp;omega
def Hy6 (X:CX) (i fd f:Int):List Value × CX :=
 if (V7 X i).2≠0 then (Aa0 0 (V7 X i).2 false,X) else (Aa0 fd 0 false,Br1 X i (setFd (vS X i).1 fd.toNat (f+1)))
def Bc5 (q:Int→Bool):Nat→Int→Nat→List Int
 | 0,_,_=>[]
 | _+1,_,0=>[]
 | m+1,i,w+1=>if q i=true then i::Bc5 q m (i+1) w else Bc5 q m (i+1) (w+1)
theorem B11 (q:Int→Bool):∀ (m:Nat) (i:Int) (w:Nat),∀ x ∈ Bc5 q m i w,i≤x∧x<i+m∧q x=true
 | 0,_,_,x,hx=>by simp [Bc5] at hx
 | _+1,_,0,x,hx=>by simp [Bc5] at hx
 | m+1,i,w+1,x,hx=>by
  unfold Bc5 at hx
  split at hx
  ·rename_i hq
   rcases List.mem_cons.1 hx with rfl|h
   ·exact ⟨by omega,by omega,hq⟩
   ·have:=B11 q m (i+1) w x h
    exact ⟨by omega,by omega,this.2.2⟩
  ·have:=B11 q m (i+1) (w+1) x hx
   exact ⟨by omega,by omega,this.2.2⟩
abbrev Ax4 (p:ProcS) (w:Nat):List Int:=Bc5 (fun j=>p.fds.getD j.toNat 0==0) 8 0 w
def hcC (bh b k:Nat) (F:Fr) (X:CX):HP:=hex fun _:Unit=>sl [pt bh (.cells Da3 false [P0 b]),cmC b k F X]
instance {bh b k:Nat} {F:Fr} {X:CX}:Chk (hcC bh b k F X) (fun _:Unit=>[pt bh (.cells Da3 false [P0 b]),cmC b k F X]):=⟨rfl⟩
def Dt2:PipeS:=⟨0,0,1,1,[0,0,0,0,0,0,0,0,0,0,0,0,0,0,0,0,0,0,0,0,0,0,0,0,0,0,0,0,0,0,0,0],rfl⟩
abbrev E55 (X:CX):List Int:=Bc5 (fun j=>(vF X j).2==0) 12 0 2
abbrev Gt3 (X:CX):List Int:=Bc5 (fun j=>(vP X j).2==0) 4 0 1
def B79 (X:CX) (i d0 d1 f0 f1 r0:Int):CX :=
 Br1 (Bh9 (Bh9 (Dc5 X r0 Dt2) f0 ⟨1,r0,1,0⟩) f1 ⟨2,r0,1,0⟩) i (setFd (setFd (vS X i).1 d0.toNat (f0+1)) d1.toNat (f1+1))
def Gv4 (X:CX) (i:Int):List Value × CX :=
 if (V7 X i).2≠0 then (Aa0 0 (V7 X i).2 false,X)
 else if (Ax4 (vS X i).1 2).length<2 then (Aa0 0 124 false,X)
 else if (E55 X).length<2∨(Gt3 X).length=0 then (Aa0 0 123 false,X)
 else (Aa0 ((Ax4 (vS X i).1 2).getD 0 0+16*(Ax4 (vS X i).1 2).getD 1 0) 0 false,B79 X i ((Ax4 (vS X i).1 2).getD 0 0) ((Ax4 (vS X i).1 2).getD 1 0) ((E55 X).getD 0 0) ((E55 X).getD 1 0) ((Gt3 X).getD 0 0))
theorem H83 {nc:Nat} {X:CX} (c:Clean nc X) {i:Int} (hi:0≤i∧i<8) (hs:(V7 X i).2=0) {d0 d1 f0 f1 r0:Int} (hd0:0≤d0∧d0<8) (hd1:0≤d1∧d1<8) (hf0:0≤f0∧f0<12) (hf1:0≤f1∧f1<12) (hr:0≤r0∧r0<4) (hn:r0<3+(nc:Int)) :
  Ge4 X r0 Dt2=(true,Dc5 X r0 Dt2)∧Bk6 (Dc5 X r0 Dt2) f0 ⟨1,r0,1,0⟩=(true,Bh9 (Dc5 X r0 Dt2) f0 ⟨1,r0,1,0⟩) ∧
  Bk6 (Bh9 (Dc5 X r0 Dt2) f0 ⟨1,r0,1,0⟩) f1 ⟨2,r0,1,0⟩=(true,Bh9 (Bh9 (Dc5 X r0 Dt2) f0 ⟨1,r0,1,0⟩) f1 ⟨2,r0,1,0⟩) ∧
  A51 (Bh9 (Bh9 (Dc5 X r0 Dt2) f0 ⟨1,r0,1,0⟩) f1 ⟨2,r0,1,0⟩) i (setFd (setFd (vS X i).1 d0.toNat (f0+1)) d1.toNat (f1+1))=(true,B79 X i d0 d1 f0 f1 r0) ∧
  Clean nc (B79 X i d0 d1 f0 f1 r0)∧(∀ j:Int,0≤j∧j<8→vS (B79 X i d0 d1 f0 f1 r0) j=if j=i then (setFd (setFd (vS X i).1 d0.toNat (f0+1)) d1.toNat (f1+1),1) else vS X j) ∧
  (∀ j:Int,0≤j∧j<12→vF (B79 X i d0 d1 f0 f1 r0) j=if j=f1 then (⟨2,r0,1,0⟩,1) else if j=f0 then (⟨1,r0,1,0⟩,1) else vF X j) ∧
  (∀ j:Int,0≤j∧j<3+nc→vP (B79 X i d0 d1 f0 f1 r0) j=if j=r0 then (Dt2,1) else vP X j):=by
 obtain ⟨s1,s2,s3,s4⟩:=Em1 c hi hs
 have hin:=De3 (rd X ⟨1,i⟩)
 obtain ⟨a1,a2,a3,a4,a5⟩:=Ee1 c (i:=r0) (by omega) (p:=Dt2) rfl
 obtain ⟨b1,b2,b3,b4,b5⟩:=Av9 a2 hf0 (f:=⟨1,r0,1,0⟩) (by simp [okF];omega)
 obtain ⟨c1,c2,c3,c4,c5⟩:=Av9 b2 hf1 (f:=⟨2,r0,1,0⟩) (by simp [okF];omega)
 have hq:=Gg0 (Gg0 s3 s2 d0.toNat (f:=f0+1) (by omega)) s2 d1.toNat (f:=f1+1) (by omega)
 obtain ⟨e1,e2,e3,e4,e5⟩:=Aw2 c2 hi hq ⟨hin.a,hin.b,hin.c,hin.d⟩
 refine ⟨a1,b1,c1,e1,e2,fun j hj=>?_,fun j hj=>?_,fun j hj=>?_⟩
 ·rw [show B79 X i d0 d1 f0 f1 r0=Br1 _ _ _ from rfl,e3 j hj,c3 j hj,b3 j hj,a3 j hj]
 ·rw [show B79 X i d0 d1 f0 f1 r0=Br1 _ _ _ from rfl,e4 j hj,c4 j hj,b4 j hj,a4 j hj]
 ·rw [show B79 X i d0 d1 f0 f1 r0=Br1 _ _ _ from rfl,e5 j hj,c5 j hj,b5 j hj,a5 j hj]
structure VW where
 S:Int→ProcS × Int
 F:Int→FileS × Int
 P:Int→PipeS × Int
structure See (X:CX) (V:VW):Prop where
 c:Clean 3 X
 s:∀ j:Int,0≤j∧j<8→vS X j=V.S j
 f:∀ j:Int,0≤j∧j<12→vF X j=V.F j
 p:∀ j:Int,0≤j∧j<6→vP X j=V.P j
theorem See.to {X:CX} {V V':VW} (A:See X V) (hs:∀ j:Int,0≤j∧j<8→V.S j=V'.S j) (hf:∀ j:Int,0≤j∧j<12→V.F j=V'.F j) (hp:∀ j:Int,0≤j∧j<6→V.P j=V'.P j):See X V' :=
 ⟨A.c,fun j h=>(A.s j h).trans (hs j h),fun j h=>(A.f j h).trans (hf j h),fun j h=>(A.p j h).trans (hp j h)⟩
def wS (V:VW) (i:Int) (p:ProcS):VW:=⟨fun j=>if j=i then (p,1) else V.S j,V.F,V.P⟩
def wF (V:VW) (i:Int) (x:FileS):VW:=⟨V.S,fun j=>if j=i then (x,1) else V.F j,V.P⟩
def wP (V:VW) (i:Int) (x:PipeS):VW:=⟨V.S,V.F,fun j=>if j=i then (x,1) else V.P j⟩
def oF (V:VW) (i:Int):VW:=⟨V.S,fun j=>if j=i then (.zero,0) else V.F j,V.P⟩
def oP (V:VW) (i:Int):VW:=⟨V.S,V.F,fun j=>if j=i then (.zero,0) else V.P j⟩
section
variable {X:CX} {V:VW} (A:See X V)
include A
theorem See.ws {i:Int} (hi:0≤i∧i<8) {p:ProcS} (ok:okS p=true) (r:InS p):See (Br1 X i p) (wS V i p):=by
 obtain ⟨_,w2,w3,w4,w5⟩:=Aw2 A.c hi ok r
 exact ⟨w2,fun j h=>by rw [w3 j h,A.s j h];rfl,fun j h=>by rw [w4 j h];exact A.f j h,fun j h=>by rw [w5 j (by omega)];exact A.p j h⟩
theorem See.wf {i:Int} (hi:0≤i∧i<12) {x:FileS} (ok:okF x=true):See (Bh9 X i x) (wF V i x):=by
 obtain ⟨_,w2,w3,w4,w5⟩:=Av9 A.c hi ok
 exact ⟨w2,fun j h=>by rw [w3 j h];exact A.s j h,fun j h=>by rw [w4 j h,A.f j h];rfl,fun j h=>by rw [w5 j (by omega)];exact A.p j h⟩
theorem See.wp {i:Int} (hi:0≤i∧i<6) {x:PipeS} (ok:okP x=true):See (Dc5 X i x) (wP V i x):=by
 obtain ⟨_,w2,w3,w4,w5⟩:=Ee1 A.c (i:=i) (by omega) ok
 exact ⟨w2,fun j h=>by rw [w3 j h];exact A.s j h,fun j h=>by rw [w4 j h];exact A.f j h,fun j h=>by rw [w5 j (by omega),A.p j h];rfl⟩
theorem See.of {i:Int} (hi:0≤i∧i<12):See (Gs5 X i) (oF V i):=by
 obtain ⟨_,w2,w3,w4,w5⟩:=Gv8 A.c hi
 exact ⟨w2,fun j h=>by rw [w3 j h];exact A.s j h,fun j h=>by rw [w4 j h,A.f j h];rfl,fun j h=>by rw [w5 j (by omega)];exact A.p j h⟩
theorem See.op {i:Int} (hi:0≤i∧i<6):See (Gs1 X i) (oP V i):=by
 obtain ⟨_,w2,w3,w4,w5⟩:=Gs9 A.c (i:=i) (by omega)
 exact ⟨w2,fun j h=>by rw [w3 j h];exact A.s j h,fun j h=>by rw [w4 j h];exact A.f j h,fun j h=>by rw [w5 j (by omega),A.p j h];rfl⟩
end
def Ai3 (V:VW) (i:Int):ProcS × Int:=if (V.S i).2=1∧(V.S i).1.state=1 then ((V.S i).1,0) else (.zero,105)
theorem See.self {X:CX} {V:VW} (A:See X V) {i:Int} (hi:0≤i∧i<8):V7 X i=Ai3 V i:=by unfold V7 Ai3;rw [A.s i hi]
def H50 (V:VW) (i fd f:Int):List Value × VW :=
 if (Ai3 V i).2≠0 then (Aa0 0 (Ai3 V i).2 false,V) else (Aa0 fd 0 false,wS V i (setFd (V.S i).1 fd.toNat (f+1)))
theorem See.setFd {X:CX} {V:VW} (A:See X V) {i:Int} (hi:0≤i∧i<8) (h:(Ai3 V i).2=0) (j:Nat) {f:Int} (hf:0≤f∧f≤12):See (Br1 X i (EQ.setFd (vS X i).1 j f)) (wS V i (EQ.setFd (V.S i).1 j f)):=by
 have es:=A.self hi
 obtain ⟨s1,s2,s3,s4⟩:=Em1 A.c hi (by rw [es];exact h)
 have hin:=De3 (rd X ⟨1,i⟩)
 have:=A.ws hi (Gg0 s3 s2 j hf) ⟨hin.a,hin.b,hin.c,hin.d⟩
 have e:EQ.setFd (V.S i).1 j f=EQ.setFd (vS X i).1 j f:=by rw [A.s i hi]
 rw [e];exact this
theorem See.name {X:CX} {V:VW} (A:See X V) {i:Int} (hi:0≤i∧i<8) (fd:Int) {f:Int} (hf:0≤f∧f<12):(Hy6 X i fd f).1=(H50 V i fd f).1∧See (Hy6 X i fd f).2 (H50 V i fd f).2:=by
 have es:=A.self hi
 unfold Hy6 H50
 rw [es]
 by_cases h1:(Ai3 V i).2=0
 case neg=>rw [if_pos h1,if_pos h1];exact ⟨rfl,A⟩
 have n1:¬ (Ai3 V i).2≠0:=by simpa using h1
 rw [if_neg n1,if_neg n1]
 exact ⟨rfl,A.setFd hi h1 fd.toNat (by omega)⟩
theorem Df5 {q q':Int→Bool}:∀ (m:Nat) (i:Int) (w:Nat),(∀ j:Int,i≤j→j<i+m→q j=q' j)→Bc5 q m i w=Bc5 q' m i w
 | 0,_,_,_=>rfl
 | _+1,_,0,_=>rfl
 | m+1,i,w+1,h=>by
  rw [Bc5,Bc5,h i (by omega) (by omega),Df5 m (i+1) w fun j h1 h2=>h j (by omega) (by omega),Df5 m (i+1) (w+1) fun j h1 h2=>h j (by omega) (by omega)]
abbrev Ei2 (V:VW):List Int:=Bc5 (fun j=>(V.F j).2==0) 12 0 2
abbrev Gv7 (V:VW):List Int:=Bc5 (fun j=>(V.P j).2==0) 4 0 1
def mkW (V:VW) (i d0 d1 f0 f1 r0:Int):VW:=wS (wF (wF (wP V r0 Dt2) f0 ⟨1,r0,1,0⟩) f1 ⟨2,r0,1,0⟩) i (setFd (setFd (V.S i).1 d0.toNat (f0+1)) d1.toNat (f1+1))
def H44 (V:VW) (i:Int):List Value × VW :=
 if (Ai3 V i).2≠0 then (Aa0 0 (Ai3 V i).2 false,V)
 else if (Ax4 (V.S i).1 2).length<2 then (Aa0 0 124 false,V)
 else if (Ei2 V).length<2∨(Gv7 V).length=0 then (Aa0 0 123 false,V)
 else (Aa0 ((Ax4 (V.S i).1 2).getD 0 0+16*(Ax4 (V.S i).1 2).getD 1 0) 0 false,mkW V i ((Ax4 (V.S i).1 2).getD 0 0) ((Ax4 (V.S i).1 2).getD 1 0) ((Ei2 V).getD 0 0) ((Ei2 V).getD 1 0) ((Gv7 V).getD 0 0))
theorem Dw7 {l:List Int} {j:Nat} (h:j<l.length):l.getD j 0 ∈ l:=by
 rw [List.getD_eq_getElem?_getD,List.getElem?_eq_getElem h];exact List.getElem_mem _
theorem See.pipe {X:CX} {V:VW} (A:See X V) {i:Int} (hi:0≤i∧i<8):(Gv4 X i).1=(H44 V i).1∧See (Gv4 X i).2 (H44 V i).2:=by
 have es:=A.self hi
 have e1:E55 X=Ei2 V:=Df5 12 0 2 fun j h1 h2=>by rw [A.f j (by omega)]
 have e2:Gt3 X=Gv7 V:=Df5 4 0 1 fun j h1 h2=>by rw [A.p j (by omega)]
 unfold Gv4 H44
 rw [e1,e2,es]
 by_cases h1:(Ai3 V i).2=0
 case neg=>rw [if_pos h1,if_pos h1];exact ⟨rfl,A⟩
 have n1:¬ (Ai3 V i).2≠0:=by simpa using h1
 rw [if_neg n1,if_neg n1,A.s i hi]
 by_cases h2:(Ax4 (V.S i).1 2).length<2
 ·rw [if_pos h2,if_pos h2];exact ⟨rfl,A⟩
 rw [if_neg h2,if_neg h2]
 by_cases h3:(Ei2 V).length<2∨(Gv7 V).length=0
 ·rw [if_pos h3,if_pos h3];exact ⟨rfl,A⟩
 rw [if_neg h3,if_neg h3]
 have hm:=B11 (fun j=>(V.S i).1.fds.getD j.toNat 0==0) 8 0 2
 have hd0:=hm _ (Dw7 (l:=Ax4 (V.S i).1 2) (j:=0) (by omega))
 have hd1:=hm _ (Dw7 (l:=Ax4 (V.S i).1 2) (j:=1) (by omega))
 have hf0:=B11 (fun j=>(V.F j).2==0) 12 0 2 _ (Dw7 (l:=Ei2 V) (j:=0) (by omega))
 have hf1:=B11 (fun j=>(V.F j).2==0) 12 0 2 _ (Dw7 (l:=Ei2 V) (j:=1) (by omega))
 have hr:=B11 (fun j=>(V.P j).2==0) 4 0 1 _ (Dw7 (l:=Gv7 V) (j:=0) (by omega))
 generalize (Ax4 (V.S i).1 2).getD 0 0=d0 at hd0 ⊢
 generalize (Ax4 (V.S i).1 2).getD 1 0=d1 at hd1 ⊢
 generalize (Ei2 V).getD 0 0=f0 at hf0 ⊢
 generalize (Ei2 V).getD 1 0=f1 at hf1 ⊢
 generalize (Gv7 V).getD 0 0=r0 at hr ⊢
 obtain ⟨_,_,_,_,m1,m2,m3,m4⟩:=H83 A.c hi (by rw [es];exact h1) (d0:=d0) (d1:=d1) (f0:=f0) (f1:=f1) (r0:=r0) (by omega) (by omega) (by omega) (by omega) (by omega) (by omega)
 refine ⟨rfl,m1,fun j hj=>?_,fun j hj=>?_,fun j hj=>?_⟩
 ·rw [m2 j hj,A.s i hi,A.s j hj];rfl
 ·rw [m3 j hj,A.f j hj];rfl
 ·rw [m4 j (by omega),A.p j hj];rfl
def D21 (V:VW):Nat→Int→Int
 | 0,_=>-1
 | m+1,i=>if (V.S i).2=0 then i else D21 V m (i+1)
theorem See.free {X:CX} {V:VW} (A:See X V):∀ (m:Nat) (i:Int),0≤i→i+m=8→Am7 X m i=D21 V m i
 | 0,_,_,_=>rfl
 | m+1,i,h0,hi=>by rw [Am7,D21,A.s i (by omega),A.free m (i+1) (by omega) (by omega)]
def Di4 (V:VW) (more:List Int):List Int→Int
 | []=>0
 | f::l=>if f=0 then Di4 V more l else if (V.F (f-1)).2≠1 then 105 else if (V.F (f-1)).1.refs+more.getD (f-1).toNat 0>64 then 123 else Di4 V more l
theorem See.share {X:CX} {V:VW} (A:See X V) (more:List Int):∀ l:List Int,B37 l→Af2 X more l=Di4 V more l
 | [],_=>rfl
 | f::l,h=>by
  have hf:=h f (by simp)
  rw [Af2,Di4,A.share more l fun x hx=>h x (by simp [hx])]
  by_cases h0:f=0
  ·rw [if_pos h0,if_pos h0]
  ·rw [if_neg h0,if_neg h0,A.f (f-1) (by omega)]
def Iz5 (V:VW) (more:List Int):VW:=⟨V.S,fun j=>if more.getD j.toNat 0≠0 then (D80 (V.F j).1 (more.getD j.toNat 0),1) else V.F j,V.P⟩
def E47 (V:VW) (i:Int):List Value × VW :=
 if (Ai3 V i).2≠0 then (Aa0 0 (Ai3 V i).2 false,V)
 else if D21 V 8 0<0 then (Aa0 0 111 false,V)
 else if Di4 V (Ap2 (V.S i).1) (V.S i).1.fds≠0 then (Aa0 0 (Di4 V (Ap2 (V.S i).1) (V.S i).1.fds) false,V)
 else (Aa0 (D21 V 8 0) 0 false,wS (Iz5 V (Ap2 (V.S i).1)) (D21 V 8 0) (Bq2 (V.S i).1 i))
theorem See.fork {X:CX} {V:VW} (A:See X V) {i:Int} (hi:0≤i∧i<8):(En8 X i).1=(E47 V i).1∧See (En8 X i).2 (E47 V i).2:=by
 have es:=A.self hi
 have ef:=A.free 8 0 (by omega) (by omega)
 unfold En8 E47
 rw [ef]
 by_cases h1:(Ai3 V i).2=0
 case neg=>rw [es,if_pos h1,if_pos h1];exact ⟨rfl,A⟩
 have n1:¬ (Ai3 V i).2≠0:=by simpa using h1
 have n2:¬ (V7 X i).2≠0:=by rw [es];exact n1
 rw [if_neg n2,if_neg n1]
 by_cases h2:D21 V 8 0<0
 ·rw [if_pos h2,if_pos h2];exact ⟨rfl,A⟩
 rw [if_neg h2,if_neg h2]
 obtain ⟨s1,s2,s3,s4⟩:=Em1 A.c hi (by rw [es];exact h1)
 rw [s1]
 have hfd:=Gr0 s3
 have hin:=De3 (rd X ⟨1,i⟩)
 have esh:=A.share (Ap2 (vS X i).1) _ hfd
 have hcl:=E04 A.c hfd
 have hno:=fun h=>Gx5 (X:=X) (p:=(vS X i).1) h
 have hm8:D21 V 8 0<8:=by
  rcases E00 (X:=X) 8 0 (by omega) (by omega) with h|h<;>omega
 have e1:(Y1 X (vS X i).1).1=Af2 X (Ap2 (vS X i).1) (vS X i).1.fds:=by
  unfold Y1;split
  ·rename_i h;exact h.symm
  ·rfl
 rw [esh] at e1
 have hck:=He4 s3 s2 hi
 have hin2:InS (Bq2 (vS X i).1 i):=⟨by simp,hin.b,hin.c,hin.d⟩
 simp only
 rw [e1] at hcl hno ⊢
 rw [A.s i hi] at *
 by_cases h3:Di4 V (Ap2 (V.S i).1) (V.S i).1.fds=0
 case neg=>rw [if_pos h3,if_pos h3];exact ⟨rfl,A⟩
 have n3:¬ Di4 V (Ap2 (V.S i).1) (V.S i).1.fds≠0:=by simpa using h3
 rw [if_neg n3,if_neg n3]
 obtain ⟨a1,a2,a3,a4⟩:=hcl h3
 refine ⟨rfl,?_⟩
 have B:See (Y1 X (V.S i).1).2 (Iz5 V (Ap2 (V.S i).1)):=⟨a1,fun j hj=>by rw [a2 j hj];exact A.s j hj,fun j hj=>by rw [a3 j hj,A.f j hj];rfl,fun j hj=>by rw [a4 j (by omega)];exact A.p j hj⟩
 exact B.ws (by omega) hck hin2
def V1:VW:=⟨fun j=>if j=0 then (p0,1) else (.zero,0),fun j=>if j=0 then (f0,1) else (.zero,0),fun j=>if j<4 then (.zero,0) else vP X1 j⟩
theorem Hd9:See X1 V1:=by
 refine ⟨Ij8,fun j hj=>?_,fun j hj=>?_,fun j hj=>?_⟩
 ·have:j=0∨j=1∨j=2∨j=3∨j=4∨j=5∨j=6∨j=7:=by omega
  rcases this with rfl|rfl|rfl|rfl|rfl|rfl|rfl|rfl<;>(clear hj;show (_:ProcS × Int)=_;kernel_rfl)
 ·have:j=0∨j=1∨j=2∨j=3∨j=4∨j=5∨j=6∨j=7∨j=8∨j=9∨j=10∨j=11:=by omega
  rcases this with rfl|rfl|rfl|rfl|rfl|rfl|rfl|rfl|rfl|rfl|rfl|rfl<;>(clear hj;show (_:FileS × Int)=_;kernel_rfl)
 ·by_cases h4:j<4
  ·have:j=0∨j=1∨j=2∨j=3:=by omega
   rcases this with rfl|rfl|rfl|rfl<;>(clear hj h4;show (_:PipeS × Int)=_;kernel_rfl)
  ·show _=if j<4 then _ else vP X1 j
   rw [if_neg h4]
abbrev rr (r:Int→Int) (v d:Int):Int→Int:=fun k=>if k=v then r k+d else r k
theorem VW.ext' {V V':VW} (h1:∀ j,V.S j=V'.S j) (h2:∀ j,V.F j=V'.F j) (h3:∀ j,V.P j=V'.P j):V=V':=by
 obtain ⟨a,b,c⟩:=V
 obtain ⟨a',b',c'⟩:=V'
 have e1:a=a':=funext h1
 have e2:b=b':=funext h2
 have e3:c=c':=funext h3
 rw [e1,e2,e3]
section
variable {ow:List Int} {h:ow.length=8} {r:Int→Int}
end
end Go.EQ
