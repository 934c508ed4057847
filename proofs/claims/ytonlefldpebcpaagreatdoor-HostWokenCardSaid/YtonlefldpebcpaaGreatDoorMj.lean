/- A read that found nothing is woken by bytes, and by the end, and by nothing else: till then its picks do nothing. -/
import Derived.Test.YtonlefldpebcpaaGreatDoorMi
set_option linter.all false
set_option maxRecDepth 10000
namespace Go.EQ
open Go Go.NN
def G67 (X:CX) (q:Int→ProcS→Bool):Nat→Int→List (Int × ProcS)
 | 0,_=>[]
 | m+1,i=>if (vS X i).2=1∧q i (vS X i).1=true then (i,(vS X i).1)::G67 X q m (i+1) else G67 X q m (i+1)
theorem E78 (j:Int) (p:ProcS):(int j::D7 p).length=17:=by simp [B68 p,p.len]
instance {j:Int} {p:ProcS}:LenC (int j::D7 p) 17:=⟨E78 j p⟩
instance {j:Int} {p:ProcS}:PartC (int j::D7 p) 0 17 (int j::D7 p):=⟨B77 (E78 j p)⟩
instance {j:Int} {p:ProcS} {cs:List Value} [k:LenC cs 17]:SetsC cs 0 (int j::D7 p) (int j::D7 p):=⟨Br7 k.ok (E78 j p) (by simp [Value.oneCell])⟩
def p0:ProcS:=⟨1,0,0,0,0,0,0,0,[1,0,0,0,0,0,0,0],rfl⟩
def f0:FileS:=⟨3,0,1,0⟩
def A54:List UInt8:=O7 (O7 Ae9 0 (Gd0 p0)) 192 (Ao3 f0)
theorem Dc0:A54.length=492:=by kernel_rfl
theorem Gb2:(Gd0 p0).length=24:=by kernel_rfl
theorem Hf4 (l b:List UInt8) (a:Nat):(A0 l).take a++A0 b++(A0 l).drop (a+(A0 b).length)=A0 (O7 l a b):=by
 rw [Z0]
 simp [O7,A0,List.map_take,List.map_drop]
theorem Jf6 {b:List UInt8} (h:0<b.length):A0 b≠[]:=by
 intro e
 have e2:=congrArg List.length e
 rw [Z0] at e2
 have e3:b.length=0:=e2
 omega
theorem Jb1:Ct A7 B15 [] [] fun v own=>∃ a,v=.slice a 492 492∧own [slC false A5 1 a 492 492 (A0 A54)]:=by
 refine Ct.of Hn8 rfl fun h r=>Tr.eq (Hk4 ..) ?_;refine Je ?_
 refine Yc (He4) ?_;rintro _ h ⟨rfl,o⟩<;>refine Jh o ?_
 (refine Jc ?_;intros)
 rw [Be2,Ag0]
 refine Tr.ck (by simp [A8]) ?_
 refine Yn fun b0 h=>?_
 refine D30 (n:=492) 0 rfl (by rw [Z0];exact Ag0) ?_
 refine Je ?_
 refine Yn fun b1 h=>?_
 (refine Ja ?_;intros)
 rw [show ([int 1,int 0,int 0,int 0,int 0,int 0,int 0,int 0,int 0,int 0,int 0,int 0,int 0,int 0,int 0,int 0]:List Value).set 8 (int 1)=D7 p0 from rfl]
 (refine Ja ?_;intros)
 refine Yc (I18 p0) ?_;rintro _ h ⟨rfl,o⟩<;>refine Jh o ?_
 (refine Ja ?_;intros)
 rw [show List.take (min (bs (Gd0 p0)).size 492) (bs (Gd0 p0)).data.toList=Gd0 p0 by kernel_rfl]
 rw [show B0 (O4 b0)=(B0 (O4 b0)).add 0 from rfl]
 refine Tr.xPAggS (cs':=A0 (O7 Ae9 0 (Gd0 p0))) ⟨Jf6 (by rw [Gb2];omega),by rw [Z0,Z0,Gb2,Ag0];omega,Al7 _,Hf4 _ _ 0⟩ fun h=>?_
 (refine Ja ?_;intros)
 refine Yc (Iv9 f0) ?_;rintro _ h ⟨rfl,o⟩<;>refine Jh o ?_
 (refine Ja ?_;intros)
 rw [show List.take (min (bs (Ao3 f0)).size (492-192)) (bs (Ao3 f0)).data.toList=Ao3 f0 by kernel_rfl]
 rw [Hb3 (by omega),Gb8]
 refine Tr.xPAggS (cs':=A0 A54) ⟨Jf6 (by rw [D91];omega),by rw [Z0,Z0,Ak4 (by rw [Gb2,Ag0];omega),D91,Ag0];omega,Al7 _,Hf4 _ _ 192⟩ fun h=>?_
 refine Ys fun o=>?_
 exact ⟨_,rfl,o.sub⟩
theorem Il2 {S:KS} (kS:Like S) {s:Nat} {env:Int} (e:EnvP s env) {j:Nat} {cap:Int} {lo n:Nat} (hc:Je0[j]?=some cap) (hr:(rgP s)[j]?=some (lo,n)) {b:List UInt8} (hb:b.length≤n) :
  W0 S env ⟨2,cap,0,0,0,0,b⟩=((0,0,[]),L5 S (O7 S.mem lo b)):=by
 have F:=G70 kS e
 have hroom:lo+n≤S.mem.length:=Er7 kS e.hs env j lo n hr
 have hp:=F.pl j cap lo n hc hr 0 b.length 2 (.inr rfl) (by omega)
 have hs:Bl4 S.mem ((lo+0:Nat):Int) b=some (O7 S.mem lo b):=by
  unfold Bl4
  rw [if_pos (by omega),Int.toNat_natCast,Nat.add_zero];rfl
 have ew:Ap9 S.tabs S.regs S.mem env cap 0 b=(0,O7 S.mem lo b):=by
  unfold Ap9
  rw [show S8 S.tabs S.regs env cap 2 0 (b.length:Int)=(((lo+0:Nat):Int),0) from hp]
  rw [if_neg (by simp),hs]
 unfold W0
 rw [if_neg (show ¬ (env<0∨env≥(S.envs.length:Int)) from F.env)]
 unfold kDo
 rw [if_neg (show ¬ ((2:Int)=1) by decide),if_pos rfl,ew]
def q1:PipeS:=⟨0,0,1,1,List.replicate 32 0,rfl⟩
def S1:KS:=L5 S0 (O7 S0.mem 0 A54)
def S2:KS:=L5 S1 (O7 S1.mem 512 (N6 q1))
def S3:KS:=L5 S2 (O7 S2.mem 1856 (N6 q1))
theorem A49:(N6 q1).length=40:=Bt1 q1.len
theorem G11:Like S1:=Et9 Ef2 (by rw [Ak4 (by rw [Dc0,Ef2.mem];omega)];exact Ef2.mem)
theorem G53:Like S2:=Et9 G11 (by rw [Ak4 (by rw [A49,G11.mem];omega)];exact G11.mem)
theorem Is1:Like S3:=Et9 G53 (by rw [Ak4 (by rw [A49,G53.mem];omega)];exact G53.mem)
theorem Ju6:W0 S0 0 ⟨2,256,0,0,0,0,A54⟩=((0,0,[]),S1):=Il2 Ef2 Gr5 (j:=0) rfl rfl (by rw [Dc0];omega)
theorem Jt3:W0 S1 0 ⟨2,257,0,0,0,0,N6 q1⟩=((0,0,[]),S2):=Il2 G11 Gr5 (j:=1) rfl rfl (by rw [A49];omega)
theorem Jv0:W0 S2 0 ⟨2,258,0,0,0,0,N6 q1⟩=((0,0,[]),S3):=Il2 G53 Gr5 (j:=2) rfl rfl (by rw [A49];omega)
abbrev F1:Fr:=frP S3 0 0
def X1:CX:=⟨Df5 S3.mem (rgP 0),[]⟩
theorem Jt0:FrOk F1:=G70 Is1 Gr5
theorem I96:Clean 3 X1:=by
 refine ⟨by kernel_rfl,by omega,rfl,by kernel_rfl,fun j h0 h1=>?_,fun r h1 h2 h3 h4=>?_⟩
 ·have:j=1∨j=2:=by omega
  rcases this with rfl|rfl
  ·clear h0 h1;show (_:Nat)=_;kernel_rfl
  ·clear h0 h1;show (_:Nat)=_;kernel_rfl
 ·have all:((List.range 8).all (fun i=>decide (stR 1 (rd X1 ⟨1,(i:Int)⟩)≠2)) && ((List.range 12).all (fun i=>decide (stR 2 (rd X1 ⟨2,(i:Int)⟩)≠2)) && ((List.range 6).all (fun i=>decide (stR 3 (rd X1 ⟨3,(i:Int)⟩)≠2)) && (decide (stR 4 (rd X1 ⟨4,0⟩)≠2) && decide (stR 5 (rd X1 ⟨5,0⟩)≠2)))))=true:=by kernel_rfl
  simp only [Bool.and_eq_true,List.all_eq_true,List.mem_range,decide_eq_true_eq] at all
  obtain ⟨a1,a2,a3,a4,a5⟩:=all
  obtain ⟨k,i⟩:=r
  simp only at h1 h2 h3 h4 ⊢
  obtain ⟨n,rfl⟩:∃ n:Nat,i=n:=⟨i.toNat,by omega⟩
  have hk:k=1∨k=2∨k=3∨k=4∨k=5:=by omega
  rcases hk with rfl|rfl|rfl|rfl|rfl<;>simp [Y7] at h4
  ·exact a1 n (by omega)
  ·exact a2 n (by omega)
  ·exact a3 n (by omega)
  ·obtain rfl:n=0:=by omega
   exact a4
  ·obtain rfl:n=0:=by omega
   exact a5
theorem Ij5 (k w m c:Nat) (b1:Nat) (cs:List Value) (hcs:cs.length=7) (K:RKS) (hK:RKOk K) (hB:0<K.B.envs.length) :
  CtJ I1 Aq2 Bn9 [(6,P0 k),(7,P0 c),(8,P0 w),(9,P0 m),(10,P0 b1),(11,.string (bs (N6 q1))),(12,int 1)] [pt b1 (.cells A69 false cs),D6 k S1,rkC w K] fun v own =>
   v=.tuple ⟨[P0 k,P0 c,P0 w,P0 m]⟩∧∃ K',(RKOk K'∧K'.B=K.B)∧own [D6 k S3,rkC w K']:=by
 have hset:∀ xs:List Value,xs.length=7→∀ vs:List Value,vs.length=7→vs.all Value.oneCell=true→Ey3 xs 0 vs=some vs:=fun xs h vs h1 h2=>Br7 h h1 h2
 refine CtJ.of Dd2 fun h r=>Tr.eq (Df8 ..) ?_;refine Je ?_
 refine Yt rfl ?_
 rw [Be2,A49]
 refine Tr.ck (by simp [A8]) ?_
 refine Yn fun b2 h=>?_
 refine D30 (n:=40) 0 rfl (by rw [Z0];exact A49) ?_
 refine Je ?_
 rw [show IntKind.wrap .i64 (256+1)=257 by decide]
 refine Gs (fun h=>?_) (by exact hset cs hcs _ rfl rfl)
 (refine Ja ?_;intros)
 have J1:=En3 k S1 0 G11.ok (by omega) 0 ⟨2,257,0,0,0,0,N6 q1⟩ (some (O4 b2)) 40 false (show ((2:Int)≠5) by decide)
 rw [Jt3] at J1
 simp only [Bt7,A49] at J1
 refine B38 J1 [2,0] rfl ?_
 rintro _ h ⟨y,z,rfl,o⟩
 refine (?_:Tr _ _ _ _) o
 refine Je ?_
 (refine Ja ?_;intros)
 have R1:=Gj6 w K hK 0 hB ⟨2,257,0,0,0,0,N6 q1⟩ rfl (by rw [A49];simp [A8]) (slC false A5 1 (some (O4 b2)) (N6 q1).length 40 (A0 (N6 q1))) (some (O4 b2)) 40 false
 simp only [Bt7,A49] at R1
 refine B38 R1 [4,2] rfl ?_
 rintro _ h ⟨rfl,o⟩
 rw [show ({ K with R:=(An3 K.R ((0:Nat):Int) 257 0 (N6 q1)).2 }:RKS)=wrR K 257 (N6 q1) from rfl] at o
 have hK1:=Gb3 hK 257 (N6 q1)
 refine (?_:Tr _ _ _ _) o
 refine Je ?_
 (refine Ja ?_;intros)
 refine Tr.jmp Dd2 (Tr.eq (Df8 ..) ?_);(try simp only[Nr,Nl,wl,Nat.reduceAdd,Nat.reduceMul,Int.reduceToNat])
 refine Yt rfl ?_
 rw [Be2,A49]
 refine Tr.ck (by simp [A8]) ?_
 refine Yn fun b3 h=>?_
 refine D30 (n:=40) 0 rfl (by rw [Z0];exact A49) ?_
 refine Je ?_
 rw [show IntKind.wrap .i64 (256+2)=258 by decide]
 refine Gs (fun h=>?_) (by exact hset _ rfl _ rfl rfl)
 (refine Ja ?_;intros)
 have J2:=En3 k S2 0 G53.ok (by omega) 0 ⟨2,258,0,0,0,0,N6 q1⟩ (some (O4 b3)) 40 false (show ((2:Int)≠5) by decide)
 rw [Jv0] at J2
 simp only [Bt7,A49] at J2
 refine B38 J2 [4,0] rfl ?_
 rintro _ h ⟨y2,z2,rfl,o⟩
 refine (?_:Tr _ _ _ _) o
 refine Je ?_
 (refine Ja ?_;intros)
 have R2:=Gj6 w (wrR K 257 (N6 q1)) hK1 0 hB ⟨2,258,0,0,0,0,N6 q1⟩ rfl (by rw [A49];simp [A8]) (slC false A5 1 (some (O4 b3)) (N6 q1).length 40 (A0 (N6 q1))) (some (O4 b3)) 40 false
 simp only [Bt7,A49] at R2
 refine B38 R2 [3,2] rfl ?_
 rintro _ h ⟨rfl,o⟩
 rw [show ({ wrR K 257 (N6 q1) with R:=(An3 (wrR K 257 (N6 q1)).R ((0:Nat):Int) 258 0 (N6 q1)).2 }:RKS)=wrR (wrR K 257 (N6 q1)) 258 (N6 q1) from rfl] at o
 refine (?_:Tr _ _ _ _) o
 refine Je ?_
 (refine Ja ?_;intros)
 refine Tr.jmp Dd2 (Tr.eq (Df8 ..) ?_);(try simp only[Nr,Nl,wl,Nat.reduceAdd,Nat.reduceMul,Int.reduceToNat])
 refine Yf rfl ?_
 refine Ys fun o=>?_
 exact ⟨rfl,_,⟨Gb3 hK1 258 _,rfl⟩,o.fin [3,0] 5 rfl rfl⟩
theorem Je3:RKOk K0:=Gb3 D95.1 256 Ae9
theorem Ih1:0<K0.B.envs.length:=by show (0:Nat)<(Dj8 Af9).B.envs.length;rw [D95.2,Bq8];simp
theorem Je2 (K:RKS) (cap:Int) (b:List UInt8):(wrR K cap b).B=K.B:=rfl
theorem Jw1:K0.B=Af9:=(Je2 (Dj8 Af9) 256 Ae9).trans D95.2
theorem I95 (a:Option Addr):Ct A7 Aq2 [.slice a 492 492] [slC false A5 1 a 492 492 (A0 A54)] fun v own=>∃ k c w m K',(RKOk K'∧K'.B=Af9)∧v=.tuple ⟨[P0 k,P0 c,P0 w,P0 m]⟩∧own [cmC c k F1 X1,rkC w K',rcC m w 0 (B90 K0 0) []]:=by
 refine Ct.of Dd2 rfl fun h r=>Tr.eq (H56 ..) ?_;refine Je ?_
 refine Yc (Jb5) ?_;rintro _ h ⟨A,rfl,o⟩<;>refine Jh o ?_
 (refine Ja ?_;intros)
 refine Yc (I99 A) ?_
 rintro _ h ⟨k,c,w,m,rfl,o⟩
 refine (?_:Tr _ _ _ _) o
 refine Je ?_
 (refine Jb ?_;intros)
 refine Yb (Yf rfl ?_)
 refine Ys fun o=>(?_:Tr _ _ _ _) o;refine Je ?_
 refine Yf rfl ?_
 refine Jr0 c k F0 X0 fun f=>?_
 rw [show F0.at X0.m=S0 from Fr.at_cut Jf0 (Er7 Ef2 (by omega) 0)]
 refine (?_:Tr (D6 k S0::W3 c k 0 Je0 []::_) _ _ _)
 refine Yn fun b1 h=>?_
 (refine Ja ?_;intros)
 refine Yc (Hj6 q1) ?_;rintro _ h ⟨rfl,o⟩<;>refine Jh o ?_
 (refine Ja ?_;intros)
 have J1:=En3 k S0 0 Ef2.ok (by omega) 0 ⟨2,256,0,0,0,0,A54⟩ a 492 false (show ((2:Int)≠5) by decide)
 rw [Ju6] at J1
 simp only [Bt7,Dc0] at J1
 refine B38 J1 [1,4] rfl ?_
 rintro _ h ⟨y,z,rfl,o⟩
 refine (?_:Tr _ _ _ _) o
 refine Je ?_
 (refine Ja ?_;intros)
 have R1:=Gj6 w K0 Je3 0 Ih1 ⟨2,256,0,0,0,0,A54⟩ rfl (by rw [Dc0];simp [A8]) (slC false A5 1 a A54.length 492 (A0 A54)) a 492 false
 simp only [Bt7,Dc0] at R1
 refine B38 R1 [5,2] rfl ?_
 rintro _ h ⟨rfl,o⟩
 rw [show ({ K0 with R:=(An3 K0.R ((0:Nat):Int) 256 0 A54).2 }:RKS)=wrR K0 256 A54 from rfl] at o
 refine (?_:Tr _ _ _ _) o
 refine Je ?_
 (refine Ja ?_;intros)
 refine D21 (Ij5 k w m c b1 _ rfl (wrR K0 256 A54) (Gb3 Je3 256 A54) Ih1) [4,3,0] rfl ?_
 rintro _ h ⟨rfl,K',hK,o⟩
 refine ⟨k,c,w,m,K',⟨hK.1,by rw [hK.2,Je2];exact Jw1⟩,rfl,?_⟩
 exact Own.cmTake c k F1 [] Jt0 (Er7 Is1 (by omega) 0) (o.fin [0,3,0,2] 2 rfl rfl)
def X2:CX:=(Eu3 X1 0).2
section
variable {nc:Nat} {X:CX} (c:Clean nc X)
include c
abbrev A80 (X:CX) (i:Int) (p:PipeS):CX:=Df6 X ⟨3,i⟩ (N6 p)
abbrev Ei7 (X:CX) (i:Int):CX:=Df6 X ⟨2,i⟩ (List.replicate 8 0)
abbrev Gt8 (X:CX) (i:Int):CX:=Df6 X ⟨3,i⟩ (List.replicate 40 0)
theorem Ay5 {i:Int} (h:0≤i∧i<3+nc) {p:PipeS} (ok:okP p=true) :
  Bg0 X i p=(true,A80 X i p)∧Clean nc (A80 X i p)∧(∀ j:Int,0≤j∧j<8→vS (A80 X i p) j=vS X j)∧(∀ j:Int,0≤j∧j<12→vF (A80 X i p) j=vF X j)∧(∀ j:Int,0≤j∧j<3+nc→vP (A80 X i p) j=if j=i then (p,1) else vP X j):=by
 have hl:(N6 p).length=W2 (3:Int):=by rw [Bt1 p.len];rfl
 refine ⟨by unfold Bg0;rw [ok];exact Do6 c (Br4 h) _,Do9 c (Br4 h) hl (by show (U6 (N6 p)).2≠2;rw [Ht6 ok];simp),fun j hj=>?_,fun j hj=>?_,fun j hj=>?_⟩
 ·show Ac0 (rd _ _)=_
  rw [Aq0 c (Br4 h) (D75 hj) hl,if_neg (by simp)]
 ·show Ac4 (rd _ _)=_
  rw [Aq0 c (Br4 h) (Bx8 hj) hl,if_neg (by simp)]
 ·show U6 (rd _ _)=_
  rw [Aq0 c (Br4 h) (Br4 hj) hl]
  by_cases e:j=i
  ·rw [if_pos (by rw [e]),if_pos e];exact Ht6 ok
  ·rw [if_neg (by simp [e]),if_neg e]
theorem En2 {i:Int} (h:0≤i∧i<12) :
  Do4 X ⟨2,i⟩=(true,Ei7 X i)∧Clean nc (Ei7 X i)∧(∀ j:Int,0≤j∧j<8→vS (Ei7 X i) j=vS X j)∧(∀ j:Int,0≤j∧j<12→vF (Ei7 X i) j=if j=i then (.zero,0) else vF X j)∧(∀ j:Int,0≤j∧j<3+nc→vP (Ei7 X i) j=vP X j):=by
 have hl:(List.replicate 8 (0:UInt8)).length=W2 (2:Int):=rfl
 refine ⟨Do6 c (Bx8 h) _,Do9 c (Bx8 h) hl (by show (Ac4 (List.replicate 8 0)).2≠2;rw [show (Ac4 (List.replicate 8 0))=(.zero,0) from rfl];simp),fun j hj=>?_,fun j hj=>?_,fun j hj=>?_⟩
 ·show Ac0 (rd _ _)=_
  rw [Aq0 c (Bx8 h) (D75 hj) hl,if_neg (by simp)]
 ·show Ac4 (rd _ _)=_
  rw [Aq0 c (Bx8 h) (Bx8 hj) hl]
  by_cases e:j=i
  ·rw [if_pos (by rw [e]),if_pos e];rfl
  ·rw [if_neg (by simp [e]),if_neg e]
 ·show U6 (rd _ _)=_
  rw [Aq0 c (Bx8 h) (Br4 hj) hl,if_neg (by simp)]
theorem En1 {i:Int} (h:0≤i∧i<3+nc) :
  Do4 X ⟨3,i⟩=(true,Gt8 X i)∧Clean nc (Gt8 X i)∧(∀ j:Int,0≤j∧j<8→vS (Gt8 X i) j=vS X j)∧(∀ j:Int,0≤j∧j<12→vF (Gt8 X i) j=vF X j)∧(∀ j:Int,0≤j∧j<3+nc→vP (Gt8 X i) j=if j=i then (.zero,0) else vP X j):=by
 have hl:(List.replicate 40 (0:UInt8)).length=W2 (3:Int):=rfl
 refine ⟨Do6 c (Br4 h) _,Do9 c (Br4 h) hl (by show (U6 (List.replicate 40 0)).2≠2;rw [show (U6 (List.replicate 40 0))=(.zero,0) from rfl];simp),fun j hj=>?_,fun j hj=>?_,fun j hj=>?_⟩
 ·show Ac0 (rd _ _)=_
  rw [Aq0 c (Br4 h) (D75 hj) hl,if_neg (by simp)]
 ·show Ac4 (rd _ _)=_
  rw [Aq0 c (Br4 h) (Bx8 hj) hl,if_neg (by simp)]
 ·show U6 (rd _ _)=_
  rw [Aq0 c (Br4 h) (Br4 hj) hl]
  by_cases e:j=i
  ·rw [if_pos (by rw [e]),if_pos e];rfl
  ·rw [if_neg (by simp [e]),if_neg e]
theorem G57 {i:Int} (h:0≤i∧i<3+nc):((vP X i).2=0∧(vP X i).1=.zero)∨((vP X i).2=1∧okP (vP X i).1=true):=by
 have:=c.ok ⟨3,i⟩ (by simp) (by simp) h.1 h.2
 have hk:(vP X i).2≠2:=this
 unfold vP U6 at hk ⊢
 split
 ·exact .inl ⟨rfl,rfl⟩
 ·split
  ·rename_i h2
   unfold isP at h2
   simp only [Bool.and_eq_true] at h2
   exact .inr ⟨rfl,h2.1⟩
  ·rename_i h1 h2;simp [h1,h2] at hk
end
abbrev Io5 (q:PipeS):PipeS:=⟨q.head,q.count,max (q.readers-1) 0,q.writers,q.data,q.len⟩
abbrev Is0 (q:PipeS):PipeS:=⟨q.head,q.count,q.readers,max (q.writers-1) 0,q.data,q.len⟩
def E90 (kind:Int) (q:PipeS):PipeS:=if kind=1 then Io5 q else Is0 q
theorem Ig2 {q:PipeS} (h:okP q=true) (kind:Int):okP (E90 kind q)=true:=by
 unfold E90
 split<;>(simp only [okP,Bool.and_eq_true,decide_eq_true_eq] at h ⊢;omega)
def G48 (X:CX) (i:Int) (q:PipeS):CX:=if q.readers+q.writers=0∧i<4 then Gt8 X i else A80 X i q
def B99 (nc:Nat) (X:CX) (f:Int):Int × CX :=
 if (vF X f).2≠1 then (105,X)
 else if (vF X f).1.refs-1>0 then (0,A29 X f (B53 (vF X f).1 (-1)))
 else if (vF X f).1.kind=3 then (0,Ei7 X f)
 else if ¬ ((vF X f).1.pipe<3+nc∧(vP X (vF X f).1.pipe).2=1) then (105,Ei7 X f)
 else (0,G48 (Ei7 X f) (vF X f).1.pipe (E90 (vF X f).1.kind (vP X (vF X f).1.pipe).1))
theorem I39 {nc:Nat} {X:CX} (c:Clean nc X) {i:Int} (h:¬ i<3+nc):D06 X i=((.zero,2),X):=by
 have hp:I8 X.m.length ⟨3,i⟩=none:=by
  unfold I8
  rw [c.len,if_pos (by simp [Y7];omega)]
 unfold D06 Z6 rdX
 rw [hp]
theorem H27 {f:FileS} (h:okF f=true):0≤f.pipe:=by
 simp only [okF,Bool.and_eq_true,Bool.or_eq_true,decide_eq_true_eq,beq_iff_eq,bne_iff_ne] at h
 omega
theorem Go4 (b k:Nat) (F:Fr) (ok:FrOk F) {nc:Nat} {X:CX} (c:Clean nc X) (b1 b2:Nat) (g:FileS) (q:PipeS) (hi:0≤g.pipe∧g.pipe<3+nc) (hq:okP q=true) :
  CtJ I1 Ab8 A19 [(0,P0 b),(5,P0 b1),(7,P0 b2)] [pt b1 (.cells D3 false (Ak6 g)),pt b2 (.cells D1 false (E5 q)),cmC b k F X] fun v own=>v=int 0∧own [cmC b k F (G48 X g.pipe q)]:=by
 have hr:0≤q.readers∧q.readers≤8∧0≤q.writers∧q.writers≤8:=by
  simp only [okP,Bool.and_eq_true,decide_eq_true_eq] at hq;omega
 have e1:IntKind.wrap .i64 (q.readers+q.writers)=q.readers+q.writers:=by rw [B4];omega
 obtain ⟨f1,_⟩:=En1 c hi
 obtain ⟨w1,_⟩:=Ay5 c hi hq
 unfold G48
 refine CtJ.of D82 fun h r=>Tr.eq (E45 ..) ?_;refine Je ?_
 (refine Jb ?_;intros)
 rw [e1]
 refine Tr.andG (c:=decide (g.pipe<4)) (fun hb=>?_) ?_
 ·exact Jz
 by_cases h:q.readers+q.writers=0∧g.pipe<4
 ·rw [if_pos h]
  refine Yt (by simp [h.1,h.2]) ?_
  (refine Ja ?_;intros)
  refine Yc (Hv9 b k F X ok g.pipe) ?_;rintro _ h ⟨rfl,o⟩<;>refine Jh o ?_
  rw [f1]
  dsimp only
  (refine Ja ?_;intros)
  refine Yc (Gh4 true 0) ?_;rintro _ h ⟨rfl,o⟩<;>refine Jh o ?_
  rw [if_pos trivial]
  (refine Ja ?_;intros)
  refine Ys fun o=>?_
  exact ⟨rfl,o.sub⟩
 ·rw [if_neg h]
  refine Yf (by simp;omega) ?_
  (refine Ja ?_;intros)
  refine Yc (Ek2 b k F X ok g.pipe q) ?_;rintro _ h ⟨rfl,o⟩<;>refine Jh o ?_
  rw [w1]
  dsimp only
  (refine Ja ?_;intros)
  refine Yc (Gh4 true 0) ?_;rintro _ h ⟨rfl,o⟩<;>refine Jh o ?_
  rw [if_pos trivial]
  (refine Ja ?_;intros)
  refine Ys fun o=>?_
  exact ⟨rfl,o.sub⟩
theorem Hq0 (b k:Nat) (F:Fr) (X:CX) (ok:FrOk F) {nc:Nat} (c:Clean nc X) (f:Int) (hf:0≤f∧f<12):Ct A7 Ab8 [P0 b,int f] [cmC b k F X] fun v own=>v=int (B99 nc X f).1∧own [cmC b k F (B99 nc X f).2]:=by
 have hrf:=G79 c hf
 have e1:IntKind.wrap .i64 ((vF X f).1.refs-1)=(vF X f).1.refs+-1:=by rw [B4];omega
 obtain ⟨z1,z2,z3,z4,z5⟩:=En2 c hf
 unfold B99
 refine Ct.of D82 rfl fun h r=>Tr.eq (Gt0 ..) ?_;refine Je ?_
 refine Yc (A37 b k F X ok) ?_;rintro _ h ⟨rfl,o⟩<;>refine Jh o ?_
 rw [Af8 c]
 (refine Ja ?_;intros)
 refine Yc (Dk9 b k F X ok f) ?_;rintro _ h ⟨rfl,o⟩<;>refine Jh o ?_
 rw [Bm1 c hf]
 dsimp only
 (refine Jc ?_;intros)
 refine Yn fun b1 h=>?_
 (refine Ja ?_;intros)
 by_cases h1:(vF X f).2=1
 case neg =>
  rw [if_pos h1]
  refine Yt (by simpa using h1) ?_
  refine Ys fun o=>?_
  exact ⟨rfl,o.sub⟩
 rw [if_neg (by simpa using h1)]
 refine Yf (by simpa using h1) ?_
 have hk:okF (vF X f).1=true:=by
  rcases Hp0 c hf with ⟨h2,_⟩|⟨_,h2⟩
  ·rw [h1] at h2;cases h2
  ·exact h2
 have hr:=Gi4 hk
 have hpp:=H27 hk
 generalize hg:(vF X f).1=g at hrf e1 hk hr hpp
 (refine Ja ?_;intros)
 simp only [e1,List.set_cons_succ,List.set_cons_zero]
 (refine Ja ?_;intros)
 by_cases h2:g.refs-1>0
 ·rw [if_pos h2]
  refine Yt (by simp;omega) ?_
  have hk2:=Gr3 hk (n:=-1) (by omega)
  obtain ⟨w1,_⟩:=An7 c hf hk2
  (refine Ja ?_;intros)
  simp only [List.drop_zero,List.take]
  refine Yc (Dm4 b k F X ok f (B53 g (-1))) ?_;rintro _ h ⟨rfl,o⟩<;>refine Jh o ?_
  rw [w1]
  dsimp only
  (refine Ja ?_;intros)
  refine Yc (Gh4 true 0) ?_;rintro _ h ⟨rfl,o⟩<;>refine Jh o ?_
  rw [if_pos trivial]
  (refine Ja ?_;intros)
  refine Ys fun o=>?_
  exact ⟨rfl,o.sub⟩
 rw [if_neg h2]
 refine Yf (by simp;omega) ?_
 refine Yc (Hs1 b k F X ok f) ?_;rintro _ h ⟨rfl,o⟩<;>refine Jh o ?_
 rw [z1]
 dsimp only
 (refine Ja ?_;intros)
 by_cases h3:g.kind=3
 ·rw [if_pos h3]
  refine Yt (by simpa using h3) ?_
  refine Ys fun o=>?_
  exact ⟨rfl,o.sub⟩
 rw [if_neg h3]
 refine Yf (by simpa using h3) ?_
 (refine Ja ?_;intros)
 refine Yc (Et8 b k F (Ei7 X f) ok g.pipe) ?_;rintro _ h ⟨rfl,o⟩<;>refine Jh o ?_
 by_cases h4:g.pipe<3+(nc:Int)
 case neg =>
  rw [if_pos (fun h=>h4 h.1),I39 z2 h4]
  dsimp only
  (refine Jc ?_;intros)
  refine Yn fun b2 h=>?_
  (refine Ja ?_;intros)
  refine Ys fun o=>?_
  exact ⟨rfl,o.sub⟩
 rw [Dn2 z2 ⟨hpp,h4⟩,z5 _ ⟨hpp,h4⟩]
 dsimp only
 (refine Jc ?_;intros)
 refine Yn fun b2 h=>?_
 (refine Ja ?_;intros)
 by_cases h5:(vP X g.pipe).2=1
 case neg =>
  rw [if_pos (fun h=>h5 h.2)]
  refine Yt (by simpa using h5) ?_
  refine Ys fun o=>?_
  exact ⟨rfl,o.sub⟩
 rw [if_neg (fun h=>h ⟨h4,h5⟩)]
 refine Yf (by simpa using h5) ?_
 have hq:okP (vP X g.pipe).1=true:=by
  rcases G57 c ⟨hpp,h4⟩ with ⟨h6,_⟩|⟨_,h6⟩
  ·rw [h5] at h6;cases h6
  ·exact h6
 have hq2:=Ig2 hq g.kind
 generalize (vP X g.pipe).1=q at hq hq2
 have hqr:0≤q.readers∧q.readers≤8∧0≤q.writers∧q.writers≤8:=by
  simp only [okP,Bool.and_eq_true,decide_eq_true_eq] at hq;omega
 have e2:IntKind.wrap .i64 (q.readers-1)=q.readers-1:=by rw [B4];omega
 have e3:IntKind.wrap .i64 (q.writers-1)=q.writers-1:=by rw [B4];omega
 (refine Ja ?_;intros)
 by_cases h6:g.kind=1
 ·refine Yt (by simpa using h6) ?_
  have ee:E90 g.kind q=Io5 q:=by unfold E90;rw [if_pos h6]
  rw [ee] at hq2 ⊢
  (refine Ja ?_;intros)
  rw [e2,Z9,show (E5 q).set 2 (int (max (q.readers-1) 0))=E5 (Io5 q) from rfl]
  refine D21 (Go4 b k F ok z2 b1 b2 (B53 g (-1)) (Io5 q) ⟨hpp,h4⟩ hq2) [2,0,0] rfl ?_
  intro v h q
  exact q
 ·refine Yf (by simpa using h6) ?_
  have ee:E90 g.kind q=Is0 q:=by unfold E90;rw [if_neg h6]
  rw [ee] at hq2 ⊢
  (refine Ja ?_;intros)
  rw [e3,Z9,show (E5 q).set 3 (int (max (q.writers-1) 0))=E5 (Is0 q) from rfl]
  refine D21 (Go4 b k F ok z2 b1 b2 (B53 g (-1)) (Is0 q) ⟨hpp,h4⟩ hq2) [2,0,0] rfl ?_
  intro v h q
  exact q
def SlOk (L:List (Int × ProcS)):Prop:=∀ s ∈ L,(0≤s.1∧s.1<8)∧okS s.2=true∧InS s.2
theorem Br5 (e:Int):Ct A7 Ak0 [int e] [] fun v own=>v=.agg ⟨P3 0 e false⟩∧own []:=by
 refine Ct.of Im8 rfl fun h r=>Tr.eq (Ik8 ..) ?_;refine Je ?_
 (refine Ja ?_;intros)
 refine Ys fun o=>?_
 exact ⟨rfl,o.tail⟩
theorem I58 (ok:Bool) (n:Int):Ct A7 D09 [.bool ok,int n] [] fun v own=>v=.agg ⟨if ok then P3 n 0 false else P3 0 105 false⟩∧own []:=by
 refine Ct.of Ir3 rfl fun h r=>Tr.eq (Ir9 ..) ?_;refine Je ?_
 refine Yn fun b1 h=>?_
 cases ok
 ·refine Yt rfl ?_
  refine Yc (Br5 105) ?_;rintro _ h ⟨rfl,o⟩<;>(refine Jf o ?_;intros)
  refine Ys fun o=>?_
  exact ⟨rfl,o.tail⟩
 ·refine Yf rfl ?_
  (refine Ja ?_;intros)
  refine Ys fun o=>?_
  exact ⟨rfl,o.tail⟩
theorem Eb5 (p:ProcS) {j:Nat} (h:j<8):(D7 p)[8+j]?=some (int (p.fds.getD j 0)):=by
 have:=Ha1 (l:=p.fds) (i:=j) (by rw [p.len];exact h)
 rw [show 8+j=j+8 by omega]
 exact this
abbrev setFd (p:ProcS) (j:Nat) (f:Int):ProcS:=⟨p.state,p.parent,p.group,p.code,p.pending,p.mask,p.ignored,p.caught,p.fds.set j f,by rw [List.length_set];exact p.len⟩
theorem Gc6 (p:ProcS) {j:Nat} (h:j<8) (f:Int):Dt5 (D7 p) (8+j) (int f)=some (D7 (setFd p j f)):=by
 have e:Nat.blt (8+j) (D7 p).length=true:=by rw [B68 p];exact Nat.ble_eq_true_of_le (by have:=p.len;omega)
 unfold Dt5
 rw [e,show 8+j=j+8 by omega]
 show some ((D7 p).set (j+8) (int f))=_
 simp only [D7,List.set_cons_succ,List.map_set]
def Ag9 (p:ProcS) (fd:Int):Bool:=decide (0≤fd∧fd<8) && decide (p.fds.getD fd.toNat 0>0)
theorem Hu9 (p:ProcS) (fd:Int):Ct A7 By5 [.agg ⟨D7 p⟩,int fd] [] fun v own=>v=.bool (Ag9 p fd)∧own []:=by
 refine Ct.of H75 rfl fun h r=>Tr.eq (H98 ..) ?_;refine Je ?_
 refine Yn fun b1 h=>?_
 by_cases h0:0≤fd
 case neg =>
  refine Yb (Yf (by simpa using h0) ?_)
  refine Ys fun o=>(?_:Tr _ _ _ _) o;refine Je ?_
  refine Yb (Yf rfl ?_)
  refine Ys fun o=>(?_:Tr _ _ _ _) o;refine Je ?_
  refine Ys fun o=>?_
  refine ⟨?_,o.tail⟩
  rw [show Ag9 p fd=false by simp [Ag9];omega]
 refine Yb (Yt (by simpa using h0) ?_)
 refine Ys fun o=>(?_:Tr _ _ _ _) o;refine Je ?_
 by_cases h1:fd<8
 case neg =>
  refine Yb (Yf (by simpa using h1) ?_)
  refine Ys fun o=>(?_:Tr _ _ _ _) o;refine Je ?_
  refine Ys fun o=>?_
  refine ⟨?_,o.tail⟩
  rw [show Ag9 p fd=false by simp [Ag9];omega]
 have hg:=Eb5 p (j:=fd.toNat) (by omega)
 refine Yb (Yt (by simpa using h1) ?_)
 (refine Ja ?_;intros)
 refine Ys fun o=>(?_:Tr _ _ _ _) o;refine Je ?_
 refine Ys fun o=>?_
 refine ⟨?_,o.tail⟩
 rw [show Ag9 p fd=decide (p.fds.getD fd.toNat 0>0) by simp [Ag9,h0,h1]]
theorem Et2 {p:ProcS} (h:okS p=true) (h1:p.state=1) (j:Nat) {f:Int} (hf:0≤f∧f≤12):okS (setFd p j f)=true:=by
 have hd:=Gi6 h
 have hd2:B91 (setFd p j f).fds:=fun x hx=>by
  rcases List.mem_or_eq_of_mem_set hx with h2|rfl
  ·exact hd x h2
  ·exact hf
 unfold okS at h ⊢
 rw [if_neg (by rw [h1];decide)] at h
 rw [if_neg (show ¬ (setFd p j f).state=2 by show ¬ p.state=2;rw [h1];decide)]
 simp only [Bool.and_eq_true] at h ⊢
 refine ⟨h.1,h.2.1,?_,h.2.2.2⟩
 rw [Bool.not_eq_true',List.any_eq_false]
 intro x hx
 have:=hd2 x hx
 simp;omega
def Is9 (X:CX) (i fd f:Int):List Value × CX :=
 if (P5 X i).2≠0 then (P3 0 (P5 X i).2 false,X) else (P3 fd 0 false,A90 X i (setFd (vS X i).1 fd.toNat (f+1)))
def Q1 (q:Int→Bool):Nat→Int→Nat→List Int
 | 0,_,_=>[]
 | _+1,_,0=>[]
 | m+1,i,w+1=>if q i=true then i::Q1 q m (i+1) w else Q1 q m (i+1) (w+1)
theorem Dr2 (q:Int→Bool):∀ (m:Nat) (i:Int) (w:Nat),(Q1 q m i w).length≤w
 | 0,_,_=>by simp [Q1]
 | _+1,_,0=>by simp [Q1]
 | m+1,i,w+1=>by
  have h1:=Dr2 q m (i+1) w
  have h2:=Dr2 q m (i+1) (w+1)
  unfold Q1;split<;>simp<;>omega
theorem A60 (q:Int→Bool):∀ (m:Nat) (i:Int) (w:Nat),∀ x ∈ Q1 q m i w,i≤x∧x<i+m∧q x=true
 | 0,_,_,x,hx=>by simp [Q1] at hx
 | _+1,_,0,x,hx=>by simp [Q1] at hx
 | m+1,i,w+1,x,hx=>by
  unfold Q1 at hx
  split at hx
  ·rename_i hq
   rcases List.mem_cons.1 hx with rfl|h
   ·exact ⟨by omega,by omega,hq⟩
   ·have:=A60 q m (i+1) w x h
    exact ⟨by omega,by omega,this.2.2⟩
  ·have:=A60 q m (i+1) (w+1) x hx
   exact ⟨by omega,by omega,this.2.2⟩
theorem Ei1 (pr:HP) (g:FuncId) (cp:List Value) (n:Int) (hn:n≤100) (q:Int→Bool) (hq:∀ j:Int,0≤j∧j<n→Ct A7 g (int j::cp) [pr] fun v own=>v=.bool (q j)∧own [pr]):∀ (m:Nat) (i:Int) (acc:List Int) (w:Nat) (a:Option Addr) (ac:Nat),0≤i→i+m=n→acc.length≤i →
  CtJ I1 Ac3 Bk4 [(0,int n),(1,int ((acc.length+w:Nat):Int)),(2,.func (.func g) ⟨[]⟩ ⟨cp⟩),(7,.slice a acc.length ac),(8,int i)] [slC false B5 1 a acc.length ac (acc.map int),pr] fun v own =>
   ∃ a' c',v=.slice a' (acc++Q1 q m i w).length c'∧own [slC false B5 1 a' (acc++Q1 q m i w).length c' ((acc++Q1 q m i w).map int),pr]
 | 0,i,acc,w,a,ac,h0,hi,ha=>by
  refine CtJ.of Dx8 fun h r=>Tr.eq (Dt4 ..) ?_;refine Je ?_
  refine Yb (Yf (by simp;omega) ?_)
  refine Ys fun o=>(?_:Tr _ _ _ _) o;refine Je ?_
  refine Yf rfl ?_
  refine Ys fun o=>?_
  rw [show Q1 q 0 i w=[] by unfold Q1;rfl,List.append_nil]
  exact ⟨a,ac,rfl,o.sub⟩
 | m+1,i,acc,0,a,ac,h0,hi,ha=>by
  refine CtJ.of Dx8 fun h r=>Tr.eq (Dt4 ..) ?_;refine Je ?_
  refine Yb (Yt (by simp;omega) ?_)
  refine Ys fun o=>(?_:Tr _ _ _ _) o;refine Je ?_
  refine Yf (by simp) ?_
  refine Ys fun o=>?_
  rw [show Q1 q (m+1) i 0=[] by unfold Q1;rfl,List.append_nil]
  exact ⟨a,ac,rfl,o.sub⟩
 | m+1,i,acc,w+1,a,ac,h0,hi,ha=>by
  have e1:=wI i
  rw [show Q1 q (m+1) i (w+1)=if q i=true then i::Q1 q m (i+1) w else Q1 q m (i+1) (w+1) by rw [Q1]]
  refine CtJ.of Dx8 fun h r=>Tr.eq (Dt4 ..) ?_;refine Je ?_
  refine Yb (Yt (by simp;omega) ?_)
  refine Ys fun o=>(?_:Tr _ _ _ _) o;refine Je ?_
  refine Yt (by simp;omega) ?_
  rw [e1]
  refine V5 0 rfl fun hl hc _=>?_
  (refine Ja ?_;intros)
  simp only [List.nil_append,List.singleton_append]
  refine Yc (hq i (by omega)) ?_;rintro _ h ⟨rfl,o⟩<;>refine Jh o ?_
  (refine Ja ?_;intros)
  by_cases h2:q i=true
  ·rw [if_pos h2]
   refine Yt h2 ?_
   (refine Ja ?_;intros)
   refine Tr.xApd (new:=[int i]) ⟨rfl,rfl,by simp only [A8];omega⟩ fun a' c' h=>?_
   have H:=Ei1 pr g cp n hn q hq m (i+1) (acc++[i]) w a' c' (by omega) (by omega) (by simp;omega)
   rw [show acc++i::Q1 q m (i+1) w=acc++[i]++Q1 q m (i+1) w by simp,show acc.length+(w+1)=(acc++[i]).length+w by simp;omega]
   refine (?_:Tr (_::pr::slC false B5 1 a' (acc.length+1) c' (acc.map int++[int i])::_) _ _ _)
   rw [show acc.map int++[int i]=(acc++[i]).map int by simp,show acc.length+1=(acc++[i]).length by simp]
   refine Ad0 [2,1] 1 rfl rfl ?_
   exact Yr H fun v h q=>q
  ·rw [if_neg h2]
   refine Yf (by simpa using h2) ?_
   refine Ad0 [1,0] 0 rfl rfl ?_
   exact Yr (Ei1 pr g cp n hn q hq m (i+1) acc (w+1) a ac (by omega) (by omega) (by omega)) fun v h q=>q
theorem Gu2 (pr:HP) (g:FuncId) (cp:List Value) (n:Nat) (hn:n≤100) (w:Nat) (q:Int→Bool) (hq:∀ j:Int,0≤j∧j<n→Ct A7 g (int j::cp) [pr] fun v own=>v=.bool (q j)∧own [pr]) :
  Ct A7 Ac3 [int n,int w,.func (.func g) ⟨[]⟩ ⟨cp⟩] [pr] fun v own=>∃ a' c',v=.slice a' (Q1 q n 0 w).length c'∧own [slC false B5 1 a' (Q1 q n 0 w).length c' ((Q1 q n 0 w).map int),pr]:=by
 refine Ct.of Dx8 rfl fun h r=>Tr.eq (Im6 ..) ?_;refine Je ?_
 refine G6 false B5 1 (by omega) ?_
 have J:=Ei1 pr g cp n (by omega) q hq n 0 [] w none 0 (by omega) (by omega) (by simp)
 simp only [List.nil_append,List.length_nil,List.map_nil,Nat.zero_add] at J
 exact Yr J fun v h q=>q
theorem I48 (b:Nat) (p:ProcS) (j:Int) (hj:0≤j∧j<8):Ct A7 Bj0 [int j,P0 b] [pt b (.cells D0 false (D7 p))] fun v own=>v=.bool (p.fds.getD j.toNat 0==0)∧own [pt b (.cells D0 false (D7 p))]:=by
 have hg:=Eb5 p (j:=j.toNat) (by omega)
 refine Ct.of Hk7 rfl fun h r=>Tr.eq (Hn4 ..) ?_;refine Je ?_
 (refine Ja ?_;intros)
 refine Ys fun o=>?_
 exact ⟨rfl,o.sub⟩
abbrev Ab4 (p:ProcS) (w:Nat):List Int:=Q1 (fun j=>p.fds.getD j.toNat 0==0) 8 0 w
theorem Jd1 (p:ProcS) (w:Nat):Ct A7 Dm0 [.agg ⟨D7 p⟩,int w] [] fun v own=>∃ a' c',v=.slice a' (Ab4 p w).length c'∧own [slC false B5 1 a' (Ab4 p w).length c' ((Ab4 p w).map int)]:=by
 refine Ct.of Ia9 rfl fun h r=>Tr.eq (Ib1 ..) ?_;refine Je ?_
 refine Yn fun b1 h=>?_
 refine Yc (Gu2 _ Bj0 [P0 b1] 8 (by omega) w _ fun j hj=>I48 b1 p j (by omega)) ?_
 rintro _ h ⟨a',c',rfl,o⟩
 refine Jh o ?_
 (refine Ja ?_;intros)
 refine Ys fun o=>?_
 exact ⟨a',c',rfl,o.sub⟩
def hcC (bh b k:Nat) (F:Fr) (X:CX):HP:=hex fun _:Unit=>sl [pt bh (.cells U2 false [P0 b]),cmC b k F X]
instance {bh b k:Nat} {F:Fr} {X:CX}:Chk (hcC bh b k F X) (fun _:Unit=>[pt bh (.cells U2 false [P0 b]),cmC b k F X]):=⟨rfl⟩
theorem Jc4 (bh b k:Nat) (F:Fr) (X:CX) (ok:FrOk F) {nc:Nat} (c:Clean nc X) (j:Int) (hj:0≤j∧j<12):Ct A7 Be5 [int j,P0 bh] [hcC bh b k F X] fun v own=>v=.bool ((vF X j).2==0)∧own [hcC bh b k F X]:=by
 refine Ct.of Hy6 rfl fun h r=>Tr.eq (H07 ..) ?_;refine Je ?_
 refine B1 (hcC bh b k F X) fun u=>?_;refine Je ?_
 (refine Ja ?_;intros)
 refine Yc (Dk9 b k F X ok j) ?_;rintro _ h ⟨rfl,o⟩<;>refine Jh o ?_
 rw [Bm1 c hj]
 dsimp only
 (refine Jc ?_;intros)
 refine Yn fun b1 h=>?_
 (refine Ja ?_;intros)
 refine A9 (hcC bh b k F X) () ?_;refine Je ?_
 refine Ys fun o=>?_
 exact ⟨rfl,o.sub⟩
theorem I82 (bh b k:Nat) (F:Fr) (X:CX) (ok:FrOk F) {nc:Nat} (c:Clean nc X) (j:Int) (hj:0≤j∧j<3+nc):Ct A7 Bc3 [int j,P0 bh] [hcC bh b k F X] fun v own=>v=.bool ((vP X j).2==0)∧own [hcC bh b k F X]:=by
 refine Ct.of Ht9 rfl fun h r=>Tr.eq (H00 ..) ?_;refine Je ?_
 refine B1 (hcC bh b k F X) fun u=>?_;refine Je ?_
 (refine Ja ?_;intros)
 refine Yc (Et8 b k F X ok j) ?_;rintro _ h ⟨rfl,o⟩<;>refine Jh o ?_
 rw [Dn2 c hj]
 dsimp only
 (refine Jc ?_;intros)
 refine Yn fun b1 h=>?_
 (refine Ja ?_;intros)
 refine A9 (hcC bh b k F X) () ?_;refine Je ?_
 refine Ys fun o=>?_
 exact ⟨rfl,o.sub⟩
def ofV (X:CX) (i fd:Int):(Int × FileS) × Int :=
 if (P5 X i).2≠0 then ((0,.zero),(P5 X i).2)
 else if Ag9 (vS X i).1 fd=false then ((0,.zero),109)
 else if (vF X ((vS X i).1.fds.getD fd.toNat 0-1)).2≠1 then ((0,.zero),105)
 else (((vS X i).1.fds.getD fd.toNat 0-1,(vF X ((vS X i).1.fds.getD fd.toNat 0-1)).1),0)
theorem G17 {nc:Nat} {X:CX} (c:Clean nc X) {i:Int} (hi:0≤i∧i<8) (h:(P5 X i).2=0) (j:Nat):0≤(vS X i).1.fds.getD j 0∧(vS X i).1.fds.getD j 0≤12:=by
 obtain ⟨s1,s2,s3,s4⟩:=Bh9 c hi h
 by_cases hj:j<(vS X i).1.fds.length
 ·rw [List.getD_eq_getElem?_getD,List.getElem?_eq_getElem hj];exact Gi6 s3 _ (List.getElem_mem _)
 ·rw [List.getD_eq_getElem?_getD,List.getElem?_eq_none (by omega)];simp
theorem Is7 (b k:Nat) (F:Fr) (X:CX) (ok:FrOk F) {nc:Nat} (c:Clean nc X) (i fd:Int) (hi:0≤i∧i<8) :
  Ct A7 Dj2 [P0 b,int i,int fd] [cmC b k F X] fun v own=>v=.tuple ⟨[int (ofV X i fd).1.1,.agg ⟨Ak6 (ofV X i fd).1.2⟩,int (ofV X i fd).2]⟩∧own [cmC b k F X]:=by
 unfold ofV
 refine Ct.of I74 rfl fun h r=>Tr.eq (Jc1 ..) ?_;refine Je ?_
 refine Yn fun b0 h=>?_
 refine Yc (Ep3 b k F X ok c i hi) ?_;rintro _ h ⟨rfl,o⟩<;>refine Jh o ?_
 (refine Jc ?_;intros)
 refine Yn fun b1 h=>?_
 (refine Jb ?_;intros)
 by_cases h1:(P5 X i).2=0
 case neg =>
  rw [if_pos h1]
  refine Yt (by simpa using h1) ?_
  (refine Ja ?_;intros)
  refine Ys fun o=>?_
  exact ⟨rfl,o.sub⟩
 rw [if_neg (by simpa using h1)]
 refine Yf (by simpa using h1) ?_
 obtain ⟨s1,s2,s3,s4⟩:=Bh9 c hi h1
 have hr:=fun j=>G17 c hi h1 j
 rw [s1]
 generalize hp:(vS X i).1=p at s2 s3 hr
 (refine Ja ?_;intros)
 refine Yc (Hu9 p fd) ?_;rintro _ h ⟨rfl,o⟩<;>(refine Jf o ?_;intros)
 by_cases h2:Ag9 p fd=true
 case neg =>
  rw [if_pos (by simpa using h2)]
  refine Yt (by simpa using h2) ?_
  (refine Ja ?_;intros)
  refine Ys fun o=>?_
  exact ⟨rfl,o.sub⟩
 rw [if_neg (by simpa using h2)]
 refine Yf (by simpa using h2) ?_
 simp only [Ag9,Bool.and_eq_true,decide_eq_true_eq] at h2
 have hg:=Eb5 p (j:=fd.toNat) (by omega)
 have hf:=hr fd.toNat
 generalize p.fds.getD fd.toNat 0=f at hg hf h2
 have e1:IntKind.wrap .i64 (f-1)=f-1:=by rw [B4];omega
 (refine Ja ?_;intros)
 rw [e1]
 refine Yc (Dk9 b k F X ok (f-1)) ?_;rintro _ h ⟨rfl,o⟩<;>refine Jh o ?_
 rw [Bm1 c (by omega)]
 dsimp only
 (refine Ja ?_;intros)
 by_cases h3:(vF X (f-1)).2=1
 case neg =>
  rw [if_pos h3]
  refine Yt (by simpa using h3) ?_
  (refine Ja ?_;intros)
  refine Ys fun o=>?_
  exact ⟨rfl,o.sub⟩
 rw [if_neg (by simpa using h3)]
 refine Yf (by simpa using h3) ?_
 (refine Ja ?_;intros)
 rw [e1]
 refine Ys fun o=>?_
 exact ⟨rfl,o.sub⟩
def Di5 (nc:Nat) (X:CX) (i fd:Int):List Value × CX :=
 if (P5 X i).2≠0 then (P3 0 (P5 X i).2 false,X)
 else if Ag9 (vS X i).1 fd=false then (P3 0 109 false,X)
 else (P3 0 (B99 nc (A90 X i (setFd (vS X i).1 fd.toNat 0)) ((vS X i).1.fds.getD fd.toNat 0-1)).1 false,(B99 nc (A90 X i (setFd (vS X i).1 fd.toNat 0)) ((vS X i).1.fds.getD fd.toNat 0-1)).2)
theorem E92 {p:ProcS} {fd:Int} (h:Ag9 p fd=true):(0≤fd∧fd<8)∧p.fds.getD fd.toNat 0>0:=by
 simp only [Ag9,Bool.and_eq_true,decide_eq_true_eq] at h;exact h
theorem H65 {nc:Nat} {X:CX} (c:Clean nc X) {i:Int} (hi:0≤i∧i<8) (h:(P5 X i).2=0) (j:Nat) {f:Int} (hf:0≤f∧f≤12) :
  Az4 X i (setFd (vS X i).1 j f)=(true,A90 X i (setFd (vS X i).1 j f))∧Clean nc (A90 X i (setFd (vS X i).1 j f))∧(∀ n:Int,0≤n∧n<8→vS (A90 X i (setFd (vS X i).1 j f)) n=if n=i then (setFd (vS X i).1 j f,1) else vS X n)∧(∀ n:Int,0≤n∧n<12→vF (A90 X i (setFd (vS X i).1 j f)) n=vF X n)∧(∀ n:Int,0≤n∧n<3+nc→vP (A90 X i (setFd (vS X i).1 j f)) n=vP X n):=by
 obtain ⟨s1,s2,s3,s4⟩:=Bh9 c hi h
 have hin:=D17 (rd X ⟨1,i⟩)
 exact Bc2 c hi (Et2 s3 s2 j hf) ⟨hin.a,hin.b,hin.c,hin.d⟩
theorem Iv5 (b k:Nat) (F:Fr) (X:CX) (ok:FrOk F) {nc:Nat} (c:Clean nc X) (i fd:Int) (hi:0≤i∧i<8) :
  Ct A7 Dm6 [P0 b,int i,int fd] [cmC b k F X] fun v own=>v=.agg ⟨(Di5 nc X i fd).1⟩∧own [cmC b k F (Di5 nc X i fd).2]:=by
 unfold Di5
 refine Ct.of H96 rfl fun h r=>Tr.eq (H78 ..) ?_;refine Je ?_
 refine Yn fun b0 h=>?_
 refine Yc (Ep3 b k F X ok c i hi) ?_;rintro _ h ⟨rfl,o⟩<;>refine Jh o ?_
 (refine Jc ?_;intros)
 refine Yn fun b1 h=>?_
 (refine Jb ?_;intros)
 by_cases h1:(P5 X i).2=0
 case neg =>
  rw [if_pos h1]
  refine Yt (by simpa using h1) ?_
  refine Yc (Br5 (P5 X i).2) ?_;rintro _ h ⟨rfl,o⟩<;>(refine Jf o ?_;intros)
  refine Ys fun o=>?_
  exact ⟨rfl,o.sub⟩
 rw [if_neg (by simpa using h1)]
 refine Yf (by simpa using h1) ?_
 obtain ⟨s1,s2,s3,s4⟩:=Bh9 c hi h1
 have hr:=G17 c hi h1 fd.toNat
 have hW:=fun hf=>H65 c hi h1 fd.toNat (f:=0) hf
 rw [s1]
 generalize (vS X i).1=p at s2 s3 hr hW
 (refine Ja ?_;intros)
 refine Yc (Hu9 p fd) ?_;rintro _ h ⟨rfl,o⟩<;>(refine Jf o ?_;intros)
 by_cases h2:Ag9 p fd=true
 case neg =>
  rw [if_pos (by simpa using h2)]
  refine Yt (by simpa using h2) ?_
  refine Yc (Br5 109) ?_;rintro _ h ⟨rfl,o⟩<;>(refine Jf o ?_;intros)
  refine Ys fun o=>?_
  exact ⟨rfl,o.sub⟩
 rw [if_neg (by simpa using h2)]
 refine Yf (by simpa using h2) ?_
 have hn:=E92 h2
 have hg:=Eb5 p (j:=fd.toNat) (by omega)
 have hs:=Gc6 p (j:=fd.toNat) (by omega) 0
 obtain ⟨w1,w2,_⟩:=hW (by omega)
 generalize p.fds.getD fd.toNat 0=f at hg hr hn
 have e1:IntKind.wrap .i64 (f-1)=f-1:=by rw [B4];omega
 generalize setFd p fd.toNat 0=q at hs w1 w2
 (refine Ja ?_;intros)
 refine Yc (Do2 b k F X ok i q) ?_;rintro _ h ⟨rfl,o⟩<;>refine Jh o ?_
 rw [w1]
 (refine Ja ?_;intros)
 rw [e1]
 refine Yc (Hq0 b k F _ ok w2 (f-1) (by omega)) ?_;rintro _ h ⟨rfl,o⟩<;>(refine Jf o ?_;intros)
 refine Yc (Br5 (B99 nc (A90 X i q) (f-1)).1) ?_;rintro _ h ⟨rfl,o⟩<;>(refine Jf o ?_;intros)
 refine Ys fun o=>?_
 exact ⟨rfl,o.sub⟩
def Ag8:PipeS:=⟨0,0,1,1,[0,0,0,0,0,0,0,0,0,0,0,0,0,0,0,0,0,0,0,0,0,0,0,0,0,0,0,0,0,0,0,0],rfl⟩
abbrev Bl6 (X:CX):List Int:=Q1 (fun j=>(vF X j).2==0) 12 0 2
abbrev Bu6 (X:CX):List Int:=Q1 (fun j=>(vP X j).2==0) 4 0 1
def By9 (X:CX) (i d0 d1 f0 f1 r0:Int):CX :=
 A90 (A29 (A29 (A80 X r0 Ag8) f0 ⟨1,r0,1,0⟩) f1 ⟨2,r0,1,0⟩) i (setFd (setFd (vS X i).1 d0.toNat (f0+1)) d1.toNat (f1+1))
def D15 (X:CX) (i:Int):List Value × CX :=
 if (P5 X i).2≠0 then (P3 0 (P5 X i).2 false,X)
 else if (Ab4 (vS X i).1 2).length<2 then (P3 0 124 false,X)
 else if (Bl6 X).length<2∨(Bu6 X).length=0 then (P3 0 123 false,X)
 else (P3 ((Ab4 (vS X i).1 2).getD 0 0+16*(Ab4 (vS X i).1 2).getD 1 0) 0 false,By9 X i ((Ab4 (vS X i).1 2).getD 0 0) ((Ab4 (vS X i).1 2).getD 1 0) ((Bl6 X).getD 0 0) ((Bl6 X).getD 1 0) ((Bu6 X).getD 0 0))
theorem Iu7 {l:List Int} (h:l.length≤2) (h2:¬ l.length<2):∃ a b,l=[a,b]:=by
 match l,h,h2 with
 | [a,b],_,_=>exact ⟨a,b,rfl⟩
 | [],_,h2=>simp at h2
 | [_],_,h2=>simp at h2
 | _::_::_::_,h,_=>simp at h
theorem Hf2 {nc:Nat} {X:CX} (c:Clean nc X) {i:Int} (hi:0≤i∧i<8) (hs:(P5 X i).2=0) {d0 d1 f0 f1 r0:Int} (hd0:0≤d0∧d0<8) (hd1:0≤d1∧d1<8) (hf0:0≤f0∧f0<12) (hf1:0≤f1∧f1<12) (hr:0≤r0∧r0<4) (hn:r0<3+(nc:Int)) :
  Bg0 X r0 Ag8=(true,A80 X r0 Ag8)∧Br6 (A80 X r0 Ag8) f0 ⟨1,r0,1,0⟩=(true,A29 (A80 X r0 Ag8) f0 ⟨1,r0,1,0⟩) ∧
  Br6 (A29 (A80 X r0 Ag8) f0 ⟨1,r0,1,0⟩) f1 ⟨2,r0,1,0⟩=(true,A29 (A29 (A80 X r0 Ag8) f0 ⟨1,r0,1,0⟩) f1 ⟨2,r0,1,0⟩) ∧
  Az4 (A29 (A29 (A80 X r0 Ag8) f0 ⟨1,r0,1,0⟩) f1 ⟨2,r0,1,0⟩) i (setFd (setFd (vS X i).1 d0.toNat (f0+1)) d1.toNat (f1+1))=(true,By9 X i d0 d1 f0 f1 r0) ∧
  Clean nc (By9 X i d0 d1 f0 f1 r0)∧(∀ j:Int,0≤j∧j<8→vS (By9 X i d0 d1 f0 f1 r0) j=if j=i then (setFd (setFd (vS X i).1 d0.toNat (f0+1)) d1.toNat (f1+1),1) else vS X j) ∧
  (∀ j:Int,0≤j∧j<12→vF (By9 X i d0 d1 f0 f1 r0) j=if j=f1 then (⟨2,r0,1,0⟩,1) else if j=f0 then (⟨1,r0,1,0⟩,1) else vF X j) ∧
  (∀ j:Int,0≤j∧j<3+nc→vP (By9 X i d0 d1 f0 f1 r0) j=if j=r0 then (Ag8,1) else vP X j):=by
 obtain ⟨s1,s2,s3,s4⟩:=Bh9 c hi hs
 have hin:=D17 (rd X ⟨1,i⟩)
 obtain ⟨a1,a2,a3,a4,a5⟩:=Ay5 c (i:=r0) (by omega) (p:=Ag8) rfl
 obtain ⟨b1,b2,b3,b4,b5⟩:=An7 a2 hf0 (f:=⟨1,r0,1,0⟩) (by simp [okF];omega)
 obtain ⟨c1,c2,c3,c4,c5⟩:=An7 b2 hf1 (f:=⟨2,r0,1,0⟩) (by simp [okF];omega)
 have hq:=Et2 (Et2 s3 s2 d0.toNat (f:=f0+1) (by omega)) s2 d1.toNat (f:=f1+1) (by omega)
 obtain ⟨e1,e2,e3,e4,e5⟩:=Bc2 c2 hi hq ⟨hin.a,hin.b,hin.c,hin.d⟩
 refine ⟨a1,b1,c1,e1,e2,fun j hj=>?_,fun j hj=>?_,fun j hj=>?_⟩
 ·rw [show By9 X i d0 d1 f0 f1 r0=A90 _ _ _ from rfl,e3 j hj,c3 j hj,b3 j hj,a3 j hj]
 ·rw [show By9 X i d0 d1 f0 f1 r0=A90 _ _ _ from rfl,e4 j hj,c4 j hj,b4 j hj,a4 j hj]
 ·rw [show By9 X i d0 d1 f0 f1 r0=A90 _ _ _ from rfl,e5 j hj,c5 j hj,b5 j hj,a5 j hj]
theorem Jd3 (bh b k:Nat) (F:Fr) (X:CX) (ok:FrOk F) {nc:Nat} (c:Clean nc X):Ct A7 Ac3 [int 12,int 2,.func (.func Be5) ⟨[]⟩ ⟨[P0 bh]⟩] [hcC bh b k F X] fun v own =>
  ∃ a' c',v=.slice a' (Bl6 X).length c'∧own [slC false B5 1 a' (Bl6 X).length c' ((Bl6 X).map int),hcC bh b k F X] :=
 Gu2 _ Be5 [P0 bh] 12 (by omega) 2 _ fun j hj=>Jc4 bh b k F X ok c j (by omega)
theorem Ja3 (bh b k:Nat) (F:Fr) (X:CX) (ok:FrOk F) {nc:Nat} (c:Clean nc X):Ct A7 Ac3 [int 4,int 1,.func (.func Bc3) ⟨[]⟩ ⟨[P0 bh]⟩] [hcC bh b k F X] fun v own =>
  ∃ a' c',v=.slice a' (Bu6 X).length c'∧own [slC false B5 1 a' (Bu6 X).length c' ((Bu6 X).map int),hcC bh b k F X] :=
 Gu2 _ Bc3 [P0 bh] 4 (by omega) 1 _ fun j hj=>I82 bh b k F X ok c j (by have:=c.pos;omega)
theorem Jn2 {l:List Int} (h:l.length≤1) (h2:¬ l.length=0):∃ a,l=[a]:=by
 match l,h,h2 with
 | [a],_,_=>exact ⟨a,rfl⟩
 | [],_,h2=>simp at h2
 | _::_::_,h,_=>simp at h
theorem Jd4 (b k:Nat) (F:Fr) (X:CX) (ok:FrOk F) {nc:Nat} (c:Clean nc X) (i:Int) (hi:0≤i∧i<8) :
  Ct A7 Dy4 [P0 b,int i] [cmC b k F X] fun v own=>v=.agg ⟨(D15 X i).1⟩∧own [cmC b k F (D15 X i).2]:=by
 unfold D15
 refine Ct.of Ik2 rfl fun h r=>Tr.eq (Ir7 ..) ?_;refine Je ?_
 refine Yn fun bh h=>?_
 refine Yn fun b0 h=>?_
 (refine Ja ?_;intros)
 refine Yc (Ep3 b k F X ok c i hi) ?_;rintro _ h ⟨rfl,o⟩<;>refine Jh o ?_
 (refine Jc ?_;intros)
 refine Yn fun b1 h=>?_
 (refine Jb ?_;intros)
 by_cases h1:(P5 X i).2=0
 case neg =>
  rw [if_pos h1]
  refine Yt (by simpa using h1) ?_
  refine Yc (Br5 (P5 X i).2) ?_;rintro _ h ⟨rfl,o⟩<;>(refine Jf o ?_;intros)
  refine Ys fun o=>?_
  exact ⟨rfl,o.sub⟩
 rw [if_neg (by simpa using h1)]
 refine Yf (by simpa using h1) ?_
 have hM:=fun d0 d1 f0 f1 r0=>Hf2 c hi h1 (d0:=d0) (d1:=d1) (f0:=f0) (f1:=f1) (r0:=r0)
 obtain ⟨s1,s2,s3,s4⟩:=Bh9 c hi h1
 rw [s1]
 unfold By9 at hM ⊢
 generalize (vS X i).1=p at hM
 (refine Ja ?_;intros)
 refine Yc (Jd1 p 2) ?_
 rintro _ h ⟨a,ac,rfl,o⟩
 refine Jh o ?_
 have hm:=A60 (fun j=>p.fds.getD j.toNat 0==0) 8 0 2
 have hl:=Dr2 (fun j=>p.fds.getD j.toNat 0==0) 8 0 2
 change ∀ x ∈ Ab4 p 2,_ at hm
 change (Ab4 p 2).length≤2 at hl
 refine (?_:Tr (slC false B5 1 a (Ab4 p 2).length ac ((Ab4 p 2).map int)::_) _ _ _)
 generalize Ab4 p 2=L at hm hl
 by_cases h2:L.length<2
 ·(refine Ja ?_;intros)
  refine Yt (by simp;omega) ?_
  refine Yc (Br5 124) ?_;rintro _ h ⟨rfl,o⟩<;>(refine Jf o ?_;intros)
  refine Ys fun o=>?_
  rw [if_pos h2]
  exact ⟨rfl,o.sub⟩
 rw [if_neg h2]
 obtain ⟨d0,d1,rfl⟩:=Iu7 hl h2
 have hd0:=hm d0 (by simp)
 have hd1:=hm d1 (by simp)
 (refine Ja ?_;intros)
 refine Yf (by simp) ?_
 refine A9 (hcC bh b k F X) () ?_;refine Je ?_
 refine Yc (Jd3 bh b k F X ok c) ?_
 rintro _ h ⟨a2,ac2,rfl,o⟩
 refine Jh o ?_
 have hmF:=A60 (fun j=>(vF X j).2==0) 12 0 2
 have hlF:=Dr2 (fun j=>(vF X j).2==0) 12 0 2
 change ∀ x ∈ Bl6 X,_ at hmF
 change (Bl6 X).length≤2 at hlF
 generalize Bl6 X=Fl at hmF hlF
 (refine Ja ?_;intros)
 refine Yc (Ja3 bh b k F X ok c) ?_
 rintro _ h ⟨a3,ac3,rfl,o⟩
 refine Jh o ?_
 have hmR:=A60 (fun j=>(vP X j).2==0) 4 0 1
 have hlR:=Dr2 (fun j=>(vP X j).2==0) 4 0 1
 change ∀ x ∈ Bu6 X,_ at hmR
 change (Bu6 X).length≤1 at hlR
 generalize Bu6 X=Rl at hmR hlR
 refine B1 (hcC bh b k F X) fun u=>?_;refine Je ?_
 by_cases h3:Fl.length<2
 ·rw [if_pos (.inl h3)]
  (refine Jb ?_;intros)
  refine Yb (Yt (by simp;omega) ?_)
  refine Ys fun o=>(?_:Tr _ _ _ _) o;refine Je ?_
  refine Yt rfl ?_
  refine Yc (Br5 123) ?_;rintro _ h ⟨rfl,o⟩<;>(refine Jf o ?_;intros)
  refine Ys fun o=>?_
  exact ⟨rfl,o.sub⟩
 obtain ⟨f0,f1,rfl⟩:=Iu7 hlF h3
 by_cases h4:Rl.length=0
 ·rw [if_pos (.inr h4)]
  (refine Jb ?_;intros)
  refine Yb (Yf rfl ?_)
  refine Ys fun o=>(?_:Tr _ _ _ _) o;refine Je ?_
  refine Yt (by simpa using h4) ?_
  refine Yc (Br5 123) ?_;rintro _ h ⟨rfl,o⟩<;>(refine Jf o ?_;intros)
  refine Ys fun o=>?_
  exact ⟨rfl,o.sub⟩
 rw [if_neg (fun h=>h.elim h3 h4)]
 obtain ⟨r0,rfl⟩:=Jn2 hlR h4
 have hf0:=hmF f0 (by simp)
 have hf1:=hmF f1 (by simp)
 have hr0:=hmR r0 (by simp)
 obtain ⟨w1,w2,w3,w4,_⟩:=hM d0 d1 f0 f1 r0 (by omega) (by omega) (by omega) (by omega) (by omega) (by have:=c.pos;omega)
 (refine Jb ?_;intros)
 refine Yb (Yf rfl ?_)
 refine Ys fun o=>(?_:Tr _ _ _ _) o;refine Je ?_
 refine Yf rfl ?_
 (refine Ja ?_;intros;repeat(refine Gw ?_;rintro px rfl;refine Ja ?_;intros))
 refine Yc (Ek2 b k F X ok r0 Ag8) ?_;rintro _ h ⟨rfl,o⟩<;>refine Jh o ?_
 rw [w1]
 dsimp only
 (refine Jb ?_;intros)
 refine Yb (Yt rfl ?_)
 (refine Jb ?_;intros;repeat(refine Gw ?_;rintro px rfl;refine Jb ?_;intros))
 refine Yc (Dm4 b k F (A80 X r0 Ag8) ok f0 ⟨1,r0,1,0⟩) ?_;rintro _ h ⟨rfl,o⟩<;>refine Jh o ?_
 rw [w2]
 dsimp only
 (refine Jb ?_;intros)
 refine Ys fun o=>(?_:Tr _ _ _ _) o;refine Je ?_
 refine Yb (Yt rfl ?_)
 (refine Jb ?_;intros;repeat(refine Gw ?_;rintro px rfl;refine Jb ?_;intros))
 refine Yc (Dm4 b k F (A29 (A80 X r0 Ag8) f0 ⟨1,r0,1,0⟩) ok f1 ⟨2,r0,1,0⟩) ?_;rintro _ h ⟨rfl,o⟩<;>refine Jh o ?_
 rw [w3]
 dsimp only
 (refine Jb ?_;intros)
 refine Ys fun o=>(?_:Tr _ _ _ _) o;refine Je ?_
 have hs:Dt5 (D7 p) (8+d0.toNat) (int (IntKind.wrap .i64 (f0+1)))=some (D7 (setFd p d0.toNat (f0+1))):=by
  rw [show IntKind.wrap .i64 (f0+1)=f0+1 by rw [B4];omega];exact Gc6 p (by omega) _
 have hs2:Dt5 (D7 (setFd p d0.toNat (f0+1))) (8+d1.toNat) (int (IntKind.wrap .i64 (f1+1)))=some (D7 (setFd (setFd p d0.toNat (f0+1)) d1.toNat (f1+1))):=by
  rw [show IntKind.wrap .i64 (f1+1)=f1+1 by rw [B4];omega];exact Gc6 _ (by omega) _
 have hx:IntKind.wrap .i64 (d0+IntKind.wrap .i64 (16*d1))=d0+16*d1:=by simp only [B4];omega
 simp only [List.getD_cons_zero,List.getD_cons_succ]
 generalize setFd (setFd p d0.toNat (f0+1)) d1.toNat (f1+1)=q at hs2 w4
 (refine Jb ?_;intros;repeat(refine Gw ?_;rintro px rfl;refine Jb ?_;intros))
 rw [hx]
 refine Yb (Yt rfl ?_)
 (refine Jb ?_;intros)
 refine Yc (Do2 b k F (A29 (A29 (A80 X r0 Ag8) f0 ⟨1,r0,1,0⟩) f1 ⟨2,r0,1,0⟩) ok i q) ?_;rintro _ h ⟨rfl,o⟩<;>refine Jh o ?_
 rw [w4]
 dsimp only
 (refine Jb ?_;intros)
 refine Ys fun o=>(?_:Tr _ _ _ _) o;refine Je ?_
 refine Yc (I58 true (d0+16*d1)) ?_;rintro _ h ⟨rfl,o⟩<;>refine Jh o ?_
 rw [if_pos trivial]
 (refine Ja ?_;intros)
 refine Ys fun o=>?_
 exact ⟨rfl,o.sub⟩
structure VW where
 S:Int→ProcS × Int
 F:Int→FileS × Int
 P:Int→PipeS × Int
structure See (X:CX) (V:VW):Prop where
 c:Clean 3 X
 s:∀ j:Int,0≤j∧j<8→vS X j=V.S j
 f:∀ j:Int,0≤j∧j<12→vF X j=V.F j
 p:∀ j:Int,0≤j∧j<6→vP X j=V.P j
theorem See.to {X:CX} {V V':VW} (A:See X V) (hs:∀ j:Int,0≤j∧j<8→V.S j=V'.S j) (hf:∀ j:Int,0≤j∧j<12→V.F j=V'.F j) (hp:∀ j:Int,0≤j∧j<6→V.P j=V'.P j):See X V' :=
 ⟨A.c,fun j h=>(A.s j h).trans (hs j h),fun j h=>(A.f j h).trans (hf j h),fun j h=>(A.p j h).trans (hp j h)⟩
def wS (V:VW) (i:Int) (p:ProcS):VW:=⟨fun j=>if j=i then (p,1) else V.S j,V.F,V.P⟩
def wF (V:VW) (i:Int) (x:FileS):VW:=⟨V.S,fun j=>if j=i then (x,1) else V.F j,V.P⟩
def wP (V:VW) (i:Int) (x:PipeS):VW:=⟨V.S,V.F,fun j=>if j=i then (x,1) else V.P j⟩
def oF (V:VW) (i:Int):VW:=⟨V.S,fun j=>if j=i then (.zero,0) else V.F j,V.P⟩
def oP (V:VW) (i:Int):VW:=⟨V.S,V.F,fun j=>if j=i then (.zero,0) else V.P j⟩
section
variable {X:CX} {V:VW} (A:See X V)
include A
theorem See.ws {i:Int} (hi:0≤i∧i<8) {p:ProcS} (ok:okS p=true) (r:InS p):See (A90 X i p) (wS V i p):=by
 obtain ⟨_,w2,w3,w4,w5⟩:=Bc2 A.c hi ok r
 exact ⟨w2,fun j h=>by rw [w3 j h,A.s j h];rfl,fun j h=>by rw [w4 j h];exact A.f j h,fun j h=>by rw [w5 j (by omega)];exact A.p j h⟩
theorem See.wf {i:Int} (hi:0≤i∧i<12) {x:FileS} (ok:okF x=true):See (A29 X i x) (wF V i x):=by
 obtain ⟨_,w2,w3,w4,w5⟩:=An7 A.c hi ok
 exact ⟨w2,fun j h=>by rw [w3 j h];exact A.s j h,fun j h=>by rw [w4 j h,A.f j h];rfl,fun j h=>by rw [w5 j (by omega)];exact A.p j h⟩
theorem See.wp {i:Int} (hi:0≤i∧i<6) {x:PipeS} (ok:okP x=true):See (A80 X i x) (wP V i x):=by
 obtain ⟨_,w2,w3,w4,w5⟩:=Ay5 A.c (i:=i) (by omega) ok
 exact ⟨w2,fun j h=>by rw [w3 j h];exact A.s j h,fun j h=>by rw [w4 j h];exact A.f j h,fun j h=>by rw [w5 j (by omega),A.p j h];rfl⟩
theorem See.of {i:Int} (hi:0≤i∧i<12):See (Ei7 X i) (oF V i):=by
 obtain ⟨_,w2,w3,w4,w5⟩:=En2 A.c hi
 exact ⟨w2,fun j h=>by rw [w3 j h];exact A.s j h,fun j h=>by rw [w4 j h,A.f j h];rfl,fun j h=>by rw [w5 j (by omega)];exact A.p j h⟩
theorem See.op {i:Int} (hi:0≤i∧i<6):See (Gt8 X i) (oP V i):=by
 obtain ⟨_,w2,w3,w4,w5⟩:=En1 A.c (i:=i) (by omega)
 exact ⟨w2,fun j h=>by rw [w3 j h];exact A.s j h,fun j h=>by rw [w4 j h];exact A.f j h,fun j h=>by rw [w5 j (by omega),A.p j h];rfl⟩
end
def Ai0 (V:VW) (i:Int):ProcS × Int:=if (V.S i).2=1∧(V.S i).1.state=1 then ((V.S i).1,0) else (.zero,105)
theorem See.self {X:CX} {V:VW} (A:See X V) {i:Int} (hi:0≤i∧i<8):P5 X i=Ai0 V i:=by unfold P5 Ai0;rw [A.s i hi]
def clP (V:VW) (i:Int) (q:PipeS):VW:=if q.readers+q.writers=0∧i<4 then oP V i else wP V i q
def Gd2 (V:VW) (f:Int):Int × VW :=
 if (V.F f).2≠1 then (105,V)
 else if (V.F f).1.refs-1>0 then (0,wF V f (B53 (V.F f).1 (-1)))
 else if (V.F f).1.kind=3 then (0,oF V f)
 else if ¬ ((V.F f).1.pipe<6∧(V.P (V.F f).1.pipe).2=1) then (105,oF V f)
 else (0,clP (oF V f) (V.F f).1.pipe (E90 (V.F f).1.kind (V.P (V.F f).1.pipe).1))
theorem See.close {X:CX} {V:VW} (A:See X V) {f:Int} (hf:0≤f∧f<12):(B99 3 X f).1=(Gd2 V f).1∧See (B99 3 X f).2 (Gd2 V f).2:=by
 have e:=A.f f hf
 have hk:(V.F f).2=1→okF (V.F f).1=true:=fun h=>by
  rcases Hp0 A.c hf with ⟨h2,_⟩|⟨_,h2⟩
  ·rw [e,h] at h2;cases h2
  ·rw [e] at h2;exact h2
 unfold B99 Gd2
 rw [e]
 by_cases h1:(V.F f).2=1
 case neg=>rw [if_pos h1,if_pos h1];exact ⟨rfl,A⟩
 have n1:¬ (V.F f).2≠1:=by simpa using h1
 rw [if_neg n1,if_neg n1]
 replace hk:=hk h1
 have hr:=Gi4 hk
 have hp:=H27 hk
 by_cases h2:(V.F f).1.refs-1>0
 ·rw [if_pos h2,if_pos h2]
  exact ⟨rfl,A.wf hf (Gr3 hk (n:=-1) (by omega))⟩
 rw [if_neg h2,if_neg h2]
 by_cases h3:(V.F f).1.kind=3
 ·rw [if_pos h3,if_pos h3];exact ⟨rfl,A.of hf⟩
 rw [if_neg h3,if_neg h3]
 by_cases h4:(V.F f).1.pipe<6
 case neg =>
  have n4:¬ ((V.F f).1.pipe<3+((3:Nat):Int)∧(vP X (V.F f).1.pipe).2=1):=fun h=>h4 (by have:=h.1;omega)
  have n5:¬ ((V.F f).1.pipe<6∧(V.P (V.F f).1.pipe).2=1):=fun h=>h4 h.1
  rw [if_pos n4,if_pos n5];exact ⟨rfl,A.of hf⟩
 have ep:=A.p (V.F f).1.pipe ⟨hp,h4⟩
 rw [ep]
 by_cases h5:(V.P (V.F f).1.pipe).2=1
 case neg =>
  have n4:¬ ((V.F f).1.pipe<3+((3:Nat):Int)∧(V.P (V.F f).1.pipe).2=1):=fun h=>h5 h.2
  have n5:¬ ((V.F f).1.pipe<6∧(V.P (V.F f).1.pipe).2=1):=fun h=>h5 h.2
  rw [if_pos n4,if_pos n5];exact ⟨rfl,A.of hf⟩
 have n4:¬ ¬ ((V.F f).1.pipe<3+((3:Nat):Int)∧(V.P (V.F f).1.pipe).2=1):=fun h=>h ⟨by omega,h5⟩
 have n5:¬ ¬ ((V.F f).1.pipe<6∧(V.P (V.F f).1.pipe).2=1):=fun h=>h ⟨h4,h5⟩
 rw [if_neg n4,if_neg n5]
 have hq:okP (V.P (V.F f).1.pipe).1=true:=by
  rcases G57 A.c (i:=(V.F f).1.pipe) (by omega) with ⟨h6,_⟩|⟨_,h6⟩
  ·rw [ep,h5] at h6;cases h6
  ·rw [ep] at h6;exact h6
 refine ⟨rfl,?_⟩
 unfold G48 clP
 split
 ·exact (A.of hf).op ⟨hp,h4⟩
 ·exact (A.of hf).wp ⟨hp,h4⟩ (Ig2 hq _)
def ofW (V:VW) (i fd:Int):(Int × FileS) × Int :=
 if (Ai0 V i).2≠0 then ((0,.zero),(Ai0 V i).2)
 else if Ag9 (V.S i).1 fd=false then ((0,.zero),109)
 else if (V.F ((V.S i).1.fds.getD fd.toNat 0-1)).2≠1 then ((0,.zero),105)
 else (((V.S i).1.fds.getD fd.toNat 0-1,(V.F ((V.S i).1.fds.getD fd.toNat 0-1)).1),0)
theorem See.ofv {X:CX} {V:VW} (A:See X V) {i:Int} (hi:0≤i∧i<8) (fd:Int):ofV X i fd=ofW V i fd:=by
 have es:=A.self hi
 have hr:=fun h=>G17 A.c (i:=i) hi h fd.toNat
 unfold ofV ofW
 rw [es] at hr ⊢
 rw [A.s i hi] at hr ⊢
 by_cases h1:(Ai0 V i).2≠0
 ·rw [if_pos h1,if_pos h1]
 rw [if_neg h1,if_neg h1]
 by_cases h2:Ag9 (V.S i).1 fd=false
 ·rw [if_pos h2,if_pos h2]
 have hn:=E92 (show Ag9 (V.S i).1 fd=true by simpa using h2)
 have hr:=hr (by simpa using h1)
 rw [if_neg h2,if_neg h2,A.f _ (by omega)]
def Io4 (V:VW) (i fd f:Int):List Value × VW :=
 if (Ai0 V i).2≠0 then (P3 0 (Ai0 V i).2 false,V) else (P3 fd 0 false,wS V i (setFd (V.S i).1 fd.toNat (f+1)))
theorem See.setFd {X:CX} {V:VW} (A:See X V) {i:Int} (hi:0≤i∧i<8) (h:(Ai0 V i).2=0) (j:Nat) {f:Int} (hf:0≤f∧f≤12):See (A90 X i (EQ.setFd (vS X i).1 j f)) (wS V i (EQ.setFd (V.S i).1 j f)):=by
 have es:=A.self hi
 obtain ⟨s1,s2,s3,s4⟩:=Bh9 A.c hi (by rw [es];exact h)
 have hin:=D17 (rd X ⟨1,i⟩)
 have:=A.ws hi (Et2 s3 s2 j hf) ⟨hin.a,hin.b,hin.c,hin.d⟩
 have e:EQ.setFd (V.S i).1 j f=EQ.setFd (vS X i).1 j f:=by rw [A.s i hi]
 rw [e];exact this
theorem See.name {X:CX} {V:VW} (A:See X V) {i:Int} (hi:0≤i∧i<8) (fd:Int) {f:Int} (hf:0≤f∧f<12):(Is9 X i fd f).1=(Io4 V i fd f).1∧See (Is9 X i fd f).2 (Io4 V i fd f).2:=by
 have es:=A.self hi
 unfold Is9 Io4
 rw [es]
 by_cases h1:(Ai0 V i).2=0
 case neg=>rw [if_pos h1,if_pos h1];exact ⟨rfl,A⟩
 have n1:¬ (Ai0 V i).2≠0:=by simpa using h1
 rw [if_neg n1,if_neg n1]
 exact ⟨rfl,A.setFd hi h1 fd.toNat (by omega)⟩
def Bs7 (V:VW) (i fd:Int):List Value × VW :=
 if (Ai0 V i).2≠0 then (P3 0 (Ai0 V i).2 false,V)
 else if Ag9 (V.S i).1 fd=false then (P3 0 109 false,V)
 else (P3 0 (Gd2 (wS V i (setFd (V.S i).1 fd.toNat 0)) ((V.S i).1.fds.getD fd.toNat 0-1)).1 false,(Gd2 (wS V i (setFd (V.S i).1 fd.toNat 0)) ((V.S i).1.fds.getD fd.toNat 0-1)).2)
theorem See.closeFd {X:CX} {V:VW} (A:See X V) {i:Int} (hi:0≤i∧i<8) (fd:Int):(Di5 3 X i fd).1=(Bs7 V i fd).1∧See (Di5 3 X i fd).2 (Bs7 V i fd).2:=by
 have es:=A.self hi
 unfold Di5 Bs7
 have hr0:=fun h=>G17 A.c (i:=i) hi h fd.toNat
 rw [es] at hr0 ⊢
 by_cases h1:(Ai0 V i).2=0
 case neg=>rw [if_pos h1,if_pos h1];exact ⟨rfl,A⟩
 have n1:¬ (Ai0 V i).2≠0:=by simpa using h1
 have hr:=hr0 h1
 have B:=A.setFd hi h1 fd.toNat (f:=0) (by omega)
 rw [if_neg n1,if_neg n1]
 rw [A.s i hi] at hr B ⊢
 by_cases h2:Ag9 (V.S i).1 fd=false
 ·rw [if_pos h2,if_pos h2];exact ⟨rfl,A⟩
 have hn:=E92 (show Ag9 (V.S i).1 fd=true by simpa using h2)
 rw [if_neg h2,if_neg h2]
 have C:=B.close (f:=(V.S i).1.fds.getD fd.toNat 0-1) (by omega)
 exact ⟨by rw [C.1],C.2⟩
theorem Dm7 {q q':Int→Bool}:∀ (m:Nat) (i:Int) (w:Nat),(∀ j:Int,i≤j→j<i+m→q j=q' j)→Q1 q m i w=Q1 q' m i w
 | 0,_,_,_=>rfl
 | _+1,_,0,_=>rfl
 | m+1,i,w+1,h=>by
  rw [Q1,Q1,h i (by omega) (by omega),Dm7 m (i+1) w fun j h1 h2=>h j (by omega) (by omega),Dm7 m (i+1) (w+1) fun j h1 h2=>h j (by omega) (by omega)]
abbrev Ev0 (V:VW):List Int:=Q1 (fun j=>(V.F j).2==0) 12 0 2
abbrev Ha7 (V:VW):List Int:=Q1 (fun j=>(V.P j).2==0) 4 0 1
def mkW (V:VW) (i d0 d1 f0 f1 r0:Int):VW:=wS (wF (wF (wP V r0 Ag8) f0 ⟨1,r0,1,0⟩) f1 ⟨2,r0,1,0⟩) i (setFd (setFd (V.S i).1 d0.toNat (f0+1)) d1.toNat (f1+1))
def Gj4 (V:VW) (i:Int):List Value × VW :=
 if (Ai0 V i).2≠0 then (P3 0 (Ai0 V i).2 false,V)
 else if (Ab4 (V.S i).1 2).length<2 then (P3 0 124 false,V)
 else if (Ev0 V).length<2∨(Ha7 V).length=0 then (P3 0 123 false,V)
 else (P3 ((Ab4 (V.S i).1 2).getD 0 0+16*(Ab4 (V.S i).1 2).getD 1 0) 0 false,mkW V i ((Ab4 (V.S i).1 2).getD 0 0) ((Ab4 (V.S i).1 2).getD 1 0) ((Ev0 V).getD 0 0) ((Ev0 V).getD 1 0) ((Ha7 V).getD 0 0))
theorem D38 {l:List Int} {j:Nat} (h:j<l.length):l.getD j 0 ∈ l:=by
 rw [List.getD_eq_getElem?_getD,List.getElem?_eq_getElem h];exact List.getElem_mem _
theorem See.pipe {X:CX} {V:VW} (A:See X V) {i:Int} (hi:0≤i∧i<8):(D15 X i).1=(Gj4 V i).1∧See (D15 X i).2 (Gj4 V i).2:=by
 have es:=A.self hi
 have e1:Bl6 X=Ev0 V:=Dm7 12 0 2 fun j h1 h2=>by rw [A.f j (by omega)]
 have e2:Bu6 X=Ha7 V:=Dm7 4 0 1 fun j h1 h2=>by rw [A.p j (by omega)]
 unfold D15 Gj4
 rw [e1,e2,es]
 by_cases h1:(Ai0 V i).2=0
 case neg=>rw [if_pos h1,if_pos h1];exact ⟨rfl,A⟩
 have n1:¬ (Ai0 V i).2≠0:=by simpa using h1
 rw [if_neg n1,if_neg n1,A.s i hi]
 by_cases h2:(Ab4 (V.S i).1 2).length<2
 ·rw [if_pos h2,if_pos h2];exact ⟨rfl,A⟩
 rw [if_neg h2,if_neg h2]
 by_cases h3:(Ev0 V).length<2∨(Ha7 V).length=0
 ·rw [if_pos h3,if_pos h3];exact ⟨rfl,A⟩
 rw [if_neg h3,if_neg h3]
 have hm:=A60 (fun j=>(V.S i).1.fds.getD j.toNat 0==0) 8 0 2
 have hd0:=hm _ (D38 (l:=Ab4 (V.S i).1 2) (j:=0) (by omega))
 have hd1:=hm _ (D38 (l:=Ab4 (V.S i).1 2) (j:=1) (by omega))
 have hf0:=A60 (fun j=>(V.F j).2==0) 12 0 2 _ (D38 (l:=Ev0 V) (j:=0) (by omega))
 have hf1:=A60 (fun j=>(V.F j).2==0) 12 0 2 _ (D38 (l:=Ev0 V) (j:=1) (by omega))
 have hr:=A60 (fun j=>(V.P j).2==0) 4 0 1 _ (D38 (l:=Ha7 V) (j:=0) (by omega))
 generalize (Ab4 (V.S i).1 2).getD 0 0=d0 at hd0 ⊢
 generalize (Ab4 (V.S i).1 2).getD 1 0=d1 at hd1 ⊢
 generalize (Ev0 V).getD 0 0=f0 at hf0 ⊢
 generalize (Ev0 V).getD 1 0=f1 at hf1 ⊢
 generalize (Ha7 V).getD 0 0=r0 at hr ⊢
 obtain ⟨_,_,_,_,m1,m2,m3,m4⟩:=Hf2 A.c hi (by rw [es];exact h1) (d0:=d0) (d1:=d1) (f0:=f0) (f1:=f1) (r0:=r0) (by omega) (by omega) (by omega) (by omega) (by omega) (by omega)
 refine ⟨rfl,m1,fun j hj=>?_,fun j hj=>?_,fun j hj=>?_⟩
 ·rw [m2 j hj,A.s i hi,A.s j hj];rfl
 ·rw [m3 j hj,A.f j hj];rfl
 ·rw [m4 j (by omega),A.p j hj];rfl
def Ef5 (V:VW):Nat→Int→Int
 | 0,_=>-1
 | m+1,i=>if (V.S i).2=0 then i else Ef5 V m (i+1)
theorem See.free {X:CX} {V:VW} (A:See X V):∀ (m:Nat) (i:Int),0≤i→i+m=8→Ap5 X m i=Ef5 V m i
 | 0,_,_,_=>rfl
 | m+1,i,h0,hi=>by rw [Ap5,Ef5,A.s i (by omega),A.free m (i+1) (by omega) (by omega)]
def Dq3 (V:VW) (more:List Int):List Int→Int
 | []=>0
 | f::l=>if f=0 then Dq3 V more l else if (V.F (f-1)).2≠1 then 105 else if (V.F (f-1)).1.refs+more.getD (f-1).toNat 0>64 then 123 else Dq3 V more l
theorem See.share {X:CX} {V:VW} (A:See X V) (more:List Int):∀ l:List Int,B91 l→Ah0 X more l=Dq3 V more l
 | [],_=>rfl
 | f::l,h=>by
  have hf:=h f (by simp)
  rw [Ah0,Dq3,A.share more l fun x hx=>h x (by simp [hx])]
  by_cases h0:f=0
  ·rw [if_pos h0,if_pos h0]
  ·rw [if_neg h0,if_neg h0,A.f (f-1) (by omega)]
def Jr9 (V:VW) (more:List Int):VW:=⟨V.S,fun j=>if more.getD j.toNat 0≠0 then (B53 (V.F j).1 (more.getD j.toNat 0),1) else V.F j,V.P⟩
def Gh5 (V:VW) (i:Int):List Value × VW :=
 if (Ai0 V i).2≠0 then (P3 0 (Ai0 V i).2 false,V)
 else if Ef5 V 8 0<0 then (P3 0 111 false,V)
 else if Dq3 V (Ar2 (V.S i).1) (V.S i).1.fds≠0 then (P3 0 (Dq3 V (Ar2 (V.S i).1) (V.S i).1.fds) false,V)
 else (P3 (Ef5 V 8 0) 0 false,wS (Jr9 V (Ar2 (V.S i).1)) (Ef5 V 8 0) (Bt5 (V.S i).1 i))
theorem See.fork {X:CX} {V:VW} (A:See X V) {i:Int} (hi:0≤i∧i<8):(Eu3 X i).1=(Gh5 V i).1∧See (Eu3 X i).2 (Gh5 V i).2:=by
 have es:=A.self hi
 have ef:=A.free 8 0 (by omega) (by omega)
 unfold Eu3 Gh5
 rw [ef]
 by_cases h1:(Ai0 V i).2=0
 case neg=>rw [es,if_pos h1,if_pos h1];exact ⟨rfl,A⟩
 have n1:¬ (Ai0 V i).2≠0:=by simpa using h1
 have n2:¬ (P5 X i).2≠0:=by rw [es];exact n1
 rw [if_neg n2,if_neg n1]
 by_cases h2:Ef5 V 8 0<0
 ·rw [if_pos h2,if_pos h2];exact ⟨rfl,A⟩
 rw [if_neg h2,if_neg h2]
 obtain ⟨s1,s2,s3,s4⟩:=Bh9 A.c hi (by rw [es];exact h1)
 rw [s1]
 have hfd:=Gi6 s3
 have hin:=D17 (rd X ⟨1,i⟩)
 have esh:=A.share (Ar2 (vS X i).1) _ hfd
 have hcl:=Gc9 A.c hfd
 have hno:=fun h=>He1 (X:=X) (p:=(vS X i).1) h
 have hm8:Ef5 V 8 0<8:=by
  rcases E67 (X:=X) 8 0 (by omega) (by omega) with h|h<;>omega
 have e1:(Z2 X (vS X i).1).1=Ah0 X (Ar2 (vS X i).1) (vS X i).1.fds:=by
  unfold Z2;split
  ·rename_i h;exact h.symm
  ·rfl
 rw [esh] at e1
 have hck:=Hw3 s3 s2 hi
 have hin2:InS (Bt5 (vS X i).1 i):=⟨by simp,hin.b,hin.c,hin.d⟩
 simp only
 rw [e1] at hcl hno ⊢
 rw [A.s i hi] at *
 by_cases h3:Dq3 V (Ar2 (V.S i).1) (V.S i).1.fds=0
 case neg=>rw [if_pos h3,if_pos h3];exact ⟨rfl,A⟩
 have n3:¬ Dq3 V (Ar2 (V.S i).1) (V.S i).1.fds≠0:=by simpa using h3
 rw [if_neg n3,if_neg n3]
 obtain ⟨a1,a2,a3,a4⟩:=hcl h3
 refine ⟨rfl,?_⟩
 have B:See (Z2 X (V.S i).1).2 (Jr9 V (Ar2 (V.S i).1)):=⟨a1,fun j hj=>by rw [a2 j hj];exact A.s j hj,fun j hj=>by rw [a3 j hj,A.f j hj];rfl,fun j hj=>by rw [a4 j (by omega)];exact A.p j hj⟩
 exact B.ws (by omega) hck hin2
def V1:VW:=⟨fun j=>if j=0 then (p0,1) else (.zero,0),fun j=>if j=0 then (f0,1) else (.zero,0),fun j=>if j<4 then (.zero,0) else vP X1 j⟩
theorem Hr2:See X1 V1:=by
 refine ⟨I96,fun j hj=>?_,fun j hj=>?_,fun j hj=>?_⟩
 ·have:j=0∨j=1∨j=2∨j=3∨j=4∨j=5∨j=6∨j=7:=by omega
  rcases this with rfl|rfl|rfl|rfl|rfl|rfl|rfl|rfl<;>(clear hj;show (_:ProcS × Int)=_;kernel_rfl)
 ·have:j=0∨j=1∨j=2∨j=3∨j=4∨j=5∨j=6∨j=7∨j=8∨j=9∨j=10∨j=11:=by omega
  rcases this with rfl|rfl|rfl|rfl|rfl|rfl|rfl|rfl|rfl|rfl|rfl|rfl<;>(clear hj;show (_:FileS × Int)=_;kernel_rfl)
 ·by_cases h4:j<4
  ·have:j=0∨j=1∨j=2∨j=3:=by omega
   rcases this with rfl|rfl|rfl|rfl<;>(clear hj h4;show (_:PipeS × Int)=_;kernel_rfl)
  ·show _=if j<4 then _ else vP X1 j
   rw [if_neg h4]
abbrev rr (r:Int→Int) (v d:Int):Int→Int:=fun k=>if k=v then r k+d else r k
theorem VW.ext' {V V':VW} (h1:∀ j,V.S j=V'.S j) (h2:∀ j,V.F j=V'.F j) (h3:∀ j,V.P j=V'.P j):V=V':=by
 obtain ⟨a,b,c⟩:=V
 obtain ⟨a',b',c'⟩:=V'
 have e1:a=a':=funext h1
 have e2:b=b':=funext h2
 have e3:c=c':=funext h3
 rw [e1,e2,e3]
section
variable {ow:List Int} {h:ow.length=8} {r:Int→Int}
end
end Go.EQ
