/- One that is in and never picked again holds the others up for no longer than the lease; picked later it begins anew, and does its call once. -/
import Derived.Test.YtonlefldpebcpaaGreatDoorMi
set_option linter.all false
set_option maxRecDepth 10000
namespace Go.EQ
open Go Go.NN
theorem E29 (j:Int) (p:ProcS):(int j::E0 p).length=17:=by simp [B16 p,p.len]
instance {j:Int} {p:ProcS}:LenC (int j::E0 p) 17:=⟨E29 j p⟩
instance {j:Int} {p:ProcS}:PartC (int j::E0 p) 0 17 (int j::E0 p):=⟨B10 (E29 j p)⟩
instance {j:Int} {p:ProcS} {cs:List Value} [k:LenC cs 17]:SetsC cs 0 (int j::E0 p) (int j::E0 p):=⟨Bl1 k.ok (E29 j p) (by simp [Value.oneCell])⟩
def p0:ProcS:=⟨1,0,0,0,0,0,0,0,[1,0,0,0,0,0,0,0],rfl⟩
def f0:FileS:=⟨3,0,1,0⟩
def A15:List UInt8:=N6 (N6 Ad1 0 (E03 p0)) 192 (Al4 f0)
theorem B58:A15.length=492:=by kernel_rfl
theorem E25:(E03 p0).length=24:=by kernel_rfl
theorem G35 (l b:List UInt8) (a:Nat):(A0 l).take a++A0 b++(A0 l).drop (a+(A0 b).length)=A0 (N6 l a b):=by
 rw [W3]
 simp [N6,A0,List.map_take,List.map_drop]
theorem Iv5 {b:List UInt8} (h:0<b.length):A0 b≠[]:=by
 intro e
 have e2:=congrArg List.length e
 rw [W3] at e2
 have e3:b.length=0:=e2
 omega
theorem Iq9:Ct A9 Bv4 [] [] fun v own=>∃ a,v=.slice a 492 492∧own [slC false A7 1 a 492 492 (A0 A15)]:=by
 refine Ct.of G56 rfl fun h r=>Tr.eq (G52 ..) ?_;refine Je ?_
 refine Yc (G27) ?_;rintro _ h ⟨rfl,o⟩<;>refine Jh o ?_
 (refine Jc ?_;intros)
 rw [A93,Ad8]
 refine Tr.ck (by simp [B1]) ?_
 refine Yn fun b0 h=>?_
 refine Du6 (n:=492) 0 rfl (by rw [W3];exact Ad8) ?_
 refine Je ?_
 refine Yn fun b1 h=>?_
 (refine Ja ?_;intros)
 rw [show ([int 1,int 0,int 0,int 0,int 0,int 0,int 0,int 0,int 0,int 0,int 0,int 0,int 0,int 0,int 0,int 0]:List Value).set 8 (int 1)=E0 p0 from rfl]
 (refine Ja ?_;intros)
 refine Yc (Ie0 p0) ?_;rintro _ h ⟨rfl,o⟩<;>refine Jh o ?_
 (refine Ja ?_;intros)
 rw [show List.take (min (bs (E03 p0)).size 492) (bs (E03 p0)).data.toList=E03 p0 by kernel_rfl]
 rw [show B2 (N4 b0)=(B2 (N4 b0)).add 0 from rfl]
 refine Tr.xPAggS (cs':=A0 (N6 Ad1 0 (E03 p0))) ⟨Iv5 (by rw [E25];omega),by rw [W3,W3,E25,Ad8];omega,Ai5 _,G35 _ _ 0⟩ fun h=>?_
 (refine Ja ?_;intros)
 refine Yc (Ig8 f0) ?_;rintro _ h ⟨rfl,o⟩<;>refine Jh o ?_
 (refine Ja ?_;intros)
 rw [show List.take (min (bs (Al4 f0)).size (492-192)) (bs (Al4 f0)).data.toList=Al4 f0 by kernel_rfl]
 rw [Gx2 (by omega),Ew3]
 refine Tr.xPAggS (cs':=A0 A15) ⟨Iv5 (by rw [Dt5];omega),by rw [W3,W3,Ah8 (by rw [E25,Ad8];omega),Dt5,Ad8];omega,Ai5 _,G35 _ _ 192⟩ fun h=>?_
 refine Ys fun o=>?_
 exact ⟨_,rfl,o.sub⟩
theorem H37 {S:KS} (kS:Like S) {s:Nat} {env:Int} (e:EnvP s env) {j:Nat} {cap:Int} {lo n:Nat} (hc:Iw6[j]?=some cap) (hr:(rgP s)[j]?=some (lo,n)) {b:List UInt8} (hb:b.length≤n) :
  V9 S env ⟨2,cap,0,0,0,0,b⟩=((0,0,[]),I1 S (N6 S.mem lo b)):=by
 have F:=Go9 kS e
 have hroom:lo+n≤S.mem.length:=Eg5 kS e.hs env j lo n hr
 have hp:=F.pl j cap lo n hc hr 0 b.length 2 (.inr rfl) (by omega)
 have hs:Be3 S.mem ((lo+0:Nat):Int) b=some (N6 S.mem lo b):=by
  unfold Be3
  rw [if_pos (by omega),Int.toNat_natCast,Nat.add_zero];rfl
 have ew:An3 S.tabs S.regs S.mem env cap 0 b=(0,N6 S.mem lo b):=by
  unfold An3
  rw [show S6 S.tabs S.regs env cap 2 0 (b.length:Int)=(((lo+0:Nat):Int),0) from hp]
  rw [if_neg (by simp),hs]
 unfold V9
 rw [if_neg (show ¬ (env<0∨env≥(S.envs.length:Int)) from F.env)]
 unfold kDo
 rw [if_neg (show ¬ ((2:Int)=1) by decide),if_pos rfl,ew]
def q1:PipeS:=⟨0,0,1,1,List.replicate 32 0,rfl⟩
def S1:KS:=I1 S0 (N6 S0.mem 0 A15)
def S2:KS:=I1 S1 (N6 S1.mem 512 (M7 q1))
def S3:KS:=I1 S2 (N6 S2.mem 1856 (M7 q1))
theorem Az5:(M7 q1).length=40:=Bm7 q1.len
theorem Gs2:Like S1:=El7 D27 (by rw [Ah8 (by rw [B58,D27.mem];omega)];exact D27.mem)
theorem Gm4:Like S2:=El7 Gs2 (by rw [Ah8 (by rw [Az5,Gs2.mem];omega)];exact Gs2.mem)
theorem H91:Like S3:=El7 Gm4 (by rw [Ah8 (by rw [Az5,Gm4.mem];omega)];exact Gm4.mem)
theorem Ja3:V9 S0 0 ⟨2,256,0,0,0,0,A15⟩=((0,0,[]),S1):=H37 D27 Em4 (j:=0) rfl rfl (by rw [B58];omega)
theorem I87:V9 S1 0 ⟨2,257,0,0,0,0,M7 q1⟩=((0,0,[]),S2):=H37 Gs2 Em4 (j:=1) rfl rfl (by rw [Az5];omega)
theorem Ja4:V9 S2 0 ⟨2,258,0,0,0,0,M7 q1⟩=((0,0,[]),S3):=H37 Gm4 Em4 (j:=2) rfl rfl (by rw [Az5];omega)
abbrev F1:Fr:=frP S3 0 0
def X1:CX:=⟨B74 S3.mem (rgP 0),[]⟩
theorem I96:FrOk F1:=Go9 H91 Em4
theorem It1:Clean 3 X1:=by
 refine ⟨by kernel_rfl,by omega,rfl,by kernel_rfl,fun j h0 h1=>?_,fun r h1 h2 h3 h4=>?_⟩
 ·have:j=1∨j=2:=by omega
  rcases this with rfl|rfl
  ·clear h0 h1;show (_:Nat)=_;kernel_rfl
  ·clear h0 h1;show (_:Nat)=_;kernel_rfl
 ·have all:((List.range 8).all (fun i=>decide (stR 1 (rd X1 ⟨1,(i:Int)⟩)≠2)) && ((List.range 12).all (fun i=>decide (stR 2 (rd X1 ⟨2,(i:Int)⟩)≠2)) && ((List.range 6).all (fun i=>decide (stR 3 (rd X1 ⟨3,(i:Int)⟩)≠2)) && (decide (stR 4 (rd X1 ⟨4,0⟩)≠2) && decide (stR 5 (rd X1 ⟨5,0⟩)≠2)))))=true:=by kernel_rfl
  simp only [Bool.and_eq_true,List.all_eq_true,List.mem_range,decide_eq_true_eq] at all
  obtain ⟨a1,a2,a3,a4,a5⟩:=all
  obtain ⟨k,i⟩:=r
  simp only at h1 h2 h3 h4 ⊢
  obtain ⟨n,rfl⟩:∃ n:Nat,i=n:=⟨i.toNat,by omega⟩
  have hk:k=1∨k=2∨k=3∨k=4∨k=5:=by omega
  rcases hk with rfl|rfl|rfl|rfl|rfl<;>simp [Aa6] at h4
  ·exact a1 n (by omega)
  ·exact a2 n (by omega)
  ·exact a3 n (by omega)
  ·obtain rfl:n=0:=by omega
   exact a4
  ·obtain rfl:n=0:=by omega
   exact a5
theorem H27 (k w m c:Nat) (b1:Nat) (cs:List Value) (hcs:cs.length=7) (K:RKS) (hK:RKOk K) (hB:0<K.B.envs.length) :
  CtJ I2 An0 Bh8 [(6,P0 k),(7,P0 c),(8,P0 w),(9,P0 m),(10,P0 b1),(11,.string (bs (M7 q1))),(12,int 1)] [pt b1 (.cells A02 false cs),D4 k S1,rkC w K] fun v own =>
   v=.tuple ⟨[P0 k,P0 c,P0 w,P0 m]⟩∧∃ K',(RKOk K'∧K'.B=K.B)∧own [D4 k S3,rkC w K']:=by
 have hset:∀ xs:List Value,xs.length=7→∀ vs:List Value,vs.length=7→vs.all Value.oneCell=true→Ef2 xs 0 vs=some vs:=fun xs h vs h1 h2=>Bl1 h h1 h2
 refine CtJ.of B69 fun h r=>Tr.eq (B66 ..) ?_;refine Je ?_
 refine Yt rfl ?_
 rw [A93,Az5]
 refine Tr.ck (by simp [B1]) ?_
 refine Yn fun b2 h=>?_
 refine Du6 (n:=40) 0 rfl (by rw [W3];exact Az5) ?_
 refine Je ?_
 rw [show IntKind.wrap .i64 (256+1)=257 by decide]
 refine Gs (fun h=>?_) (by exact hset cs hcs _ rfl rfl)
 (refine Ja ?_;intros)
 have J1:=Ed7 k S1 0 Gs2.ok (by omega) 0 ⟨2,257,0,0,0,0,M7 q1⟩ (some (N4 b2)) 40 false (show ((2:Int)≠5) by decide)
 rw [I87] at J1
 simp only [Bp1,Az5] at J1
 refine By2 J1 [2,0] rfl ?_
 rintro _ h ⟨y,z,rfl,o⟩
 refine (?_:Tr _ _ _ _) o
 refine Je ?_
 (refine Ja ?_;intros)
 have R1:=E70 w K hK 0 hB ⟨2,257,0,0,0,0,M7 q1⟩ rfl (by rw [Az5];simp [B1]) (slC false A7 1 (some (N4 b2)) (M7 q1).length 40 (A0 (M7 q1))) (some (N4 b2)) 40 false
 simp only [Bp1,Az5] at R1
 refine By2 R1 [4,2] rfl ?_
 rintro _ h ⟨rfl,o⟩
 rw [show ({ K with R:=(Ak2 K.R ((0:Nat):Int) 257 0 (M7 q1)).2 }:RKS)=wrR K 257 (M7 q1) from rfl] at o
 have hK1:=Ev2 hK 257 (M7 q1)
 refine (?_:Tr _ _ _ _) o
 refine Je ?_
 (refine Ja ?_;intros)
 refine Tr.jmp B69 (Tr.eq (B66 ..) ?_);(try simp only[Nr,Nl,wl,Nat.reduceAdd,Nat.reduceMul,Int.reduceToNat])
 refine Yt rfl ?_
 rw [A93,Az5]
 refine Tr.ck (by simp [B1]) ?_
 refine Yn fun b3 h=>?_
 refine Du6 (n:=40) 0 rfl (by rw [W3];exact Az5) ?_
 refine Je ?_
 rw [show IntKind.wrap .i64 (256+2)=258 by decide]
 refine Gs (fun h=>?_) (by exact hset _ rfl _ rfl rfl)
 (refine Ja ?_;intros)
 have J2:=Ed7 k S2 0 Gm4.ok (by omega) 0 ⟨2,258,0,0,0,0,M7 q1⟩ (some (N4 b3)) 40 false (show ((2:Int)≠5) by decide)
 rw [Ja4] at J2
 simp only [Bp1,Az5] at J2
 refine By2 J2 [4,0] rfl ?_
 rintro _ h ⟨y2,z2,rfl,o⟩
 refine (?_:Tr _ _ _ _) o
 refine Je ?_
 (refine Ja ?_;intros)
 have R2:=E70 w (wrR K 257 (M7 q1)) hK1 0 hB ⟨2,258,0,0,0,0,M7 q1⟩ rfl (by rw [Az5];simp [B1]) (slC false A7 1 (some (N4 b3)) (M7 q1).length 40 (A0 (M7 q1))) (some (N4 b3)) 40 false
 simp only [Bp1,Az5] at R2
 refine By2 R2 [3,2] rfl ?_
 rintro _ h ⟨rfl,o⟩
 rw [show ({ wrR K 257 (M7 q1) with R:=(Ak2 (wrR K 257 (M7 q1)).R ((0:Nat):Int) 258 0 (M7 q1)).2 }:RKS)=wrR (wrR K 257 (M7 q1)) 258 (M7 q1) from rfl] at o
 refine (?_:Tr _ _ _ _) o
 refine Je ?_
 (refine Ja ?_;intros)
 refine Tr.jmp B69 (Tr.eq (B66 ..) ?_);(try simp only[Nr,Nl,wl,Nat.reduceAdd,Nat.reduceMul,Int.reduceToNat])
 refine Yf rfl ?_
 refine Ys fun o=>?_
 exact ⟨rfl,_,⟨Ev2 hK1 258 _,rfl⟩,o.fin [3,0] 5 rfl rfl⟩
theorem Iw0:RKOk K0:=Ev2 Dz4.1 256 Ad1
theorem Hz6:0<K0.B.envs.length:=by show (0:Nat)<(Dc9 Ae0).B.envs.length;rw [Dz4.2,Bm5];simp
theorem Iv6 (K:RKS) (cap:Int) (b:List UInt8):(wrR K cap b).B=K.B:=rfl
theorem Ja7:K0.B=Ae0:=(Iv6 (Dc9 Ae0) 256 Ad1).trans Dz4.2
theorem Io7 (a:Option Addr):Ct A9 An0 [.slice a 492 492] [slC false A7 1 a 492 492 (A0 A15)] fun v own=>∃ k c w m K',(RKOk K'∧K'.B=Ae0)∧v=.tuple ⟨[P0 k,P0 c,P0 w,P0 m]⟩∧own [cmC c k F1 X1,rkC w K',rcC m w 0 (B47 K0 0) []]:=by
 refine Ct.of B69 rfl fun h r=>Tr.eq (Hf5 ..) ?_;refine Je ?_
 refine Yc (Ir7) ?_;rintro _ h ⟨A,rfl,o⟩<;>refine Jh o ?_
 (refine Ja ?_;intros)
 refine Yc (Is0 A) ?_
 rintro _ h ⟨k,c,w,m,rfl,o⟩
 refine (?_:Tr _ _ _ _) o
 refine Je ?_
 (refine Jb ?_;intros)
 refine Yb (Yf rfl ?_)
 refine Ys fun o=>(?_:Tr _ _ _ _) o;refine Je ?_
 refine Yf rfl ?_
 refine I60 c k F0 X0 fun f=>?_
 rw [show F0.at X0.m=S0 from Fr.at_cut Iv4 (Eg5 D27 (by omega) 0)]
 refine (?_:Tr (D4 k S0::W6 c k 0 Iw6 []::_) _ _ _)
 refine Yn fun b1 h=>?_
 (refine Ja ?_;intros)
 refine Yc (G11 q1) ?_;rintro _ h ⟨rfl,o⟩<;>refine Jh o ?_
 (refine Ja ?_;intros)
 have J1:=Ed7 k S0 0 D27.ok (by omega) 0 ⟨2,256,0,0,0,0,A15⟩ a 492 false (show ((2:Int)≠5) by decide)
 rw [Ja3] at J1
 simp only [Bp1,B58] at J1
 refine By2 J1 [1,4] rfl ?_
 rintro _ h ⟨y,z,rfl,o⟩
 refine (?_:Tr _ _ _ _) o
 refine Je ?_
 (refine Ja ?_;intros)
 have R1:=E70 w K0 Iw0 0 Hz6 ⟨2,256,0,0,0,0,A15⟩ rfl (by rw [B58];simp [B1]) (slC false A7 1 a A15.length 492 (A0 A15)) a 492 false
 simp only [Bp1,B58] at R1
 refine By2 R1 [5,2] rfl ?_
 rintro _ h ⟨rfl,o⟩
 rw [show ({ K0 with R:=(Ak2 K0.R ((0:Nat):Int) 256 0 A15).2 }:RKS)=wrR K0 256 A15 from rfl] at o
 refine (?_:Tr _ _ _ _) o
 refine Je ?_
 (refine Ja ?_;intros)
 refine E43 (H27 k w m c b1 _ rfl (wrR K0 256 A15) (Ev2 Iw0 256 A15) Hz6) [4,3,0] rfl ?_
 rintro _ h ⟨rfl,K',hK,o⟩
 refine ⟨k,c,w,m,K',⟨hK.1,by rw [hK.2,Iv6];exact Ja7⟩,rfl,?_⟩
 exact Own.cmTake c k F1 [] I96 (Eg5 H91 (by omega) 0) (o.fin [0,3,0,2] 2 rfl rfl)
def X2:CX:=(Ef3 X1 0).2
section
variable {nc:Nat} {X:CX} (c:Clean nc X)
include c
abbrev A79 (X:CX) (i:Int) (p:PipeS):CX:=B37 X ⟨3,i⟩ (M7 p)
abbrev Gx6 (X:CX) (i:Int):CX:=B37 X ⟨2,i⟩ (List.replicate 8 0)
abbrev Gx1 (X:CX) (i:Int):CX:=B37 X ⟨3,i⟩ (List.replicate 40 0)
theorem A82 {i:Int} (h:0≤i∧i<3+nc) {p:PipeS} (ok:okP p=true) :
  Bc2 X i p=(true,A79 X i p)∧Clean nc (A79 X i p)∧(∀ j:Int,0≤j∧j<8→vS (A79 X i p) j=vS X j)∧(∀ j:Int,0≤j∧j<12→vF (A79 X i p) j=vF X j)∧(∀ j:Int,0≤j∧j<3+nc→vP (A79 X i p) j=if j=i then (p,1) else vP X j):=by
 have hl:(M7 p).length=Af7 (3:Int):=by rw [Bm7 p.len];rfl
 refine ⟨by unfold Bc2;rw [ok];exact Di7 c (Bm3 h) _,Di2 c (Bm3 h) hl (by show (U7 (M7 p)).2≠2;rw [Hk9 ok];simp),fun j hj=>?_,fun j hj=>?_,fun j hj=>?_⟩
 ·show Aa4 (rd _ _)=_
  rw [Am5 c (Bm3 h) (Dz3 hj) hl,if_neg (by simp)]
 ·show Aa2 (rd _ _)=_
  rw [Am5 c (Bm3 h) (Br8 hj) hl,if_neg (by simp)]
 ·show U7 (rd _ _)=_
  rw [Am5 c (Bm3 h) (Bm3 hj) hl]
  by_cases e:j=i
  ·rw [if_pos (by rw [e]),if_pos e];exact Hk9 ok
  ·rw [if_neg (by simp [e]),if_neg e]
theorem Gv5 {i:Int} (h:0≤i∧i<12) :
  Iw3 X ⟨2,i⟩=(true,Gx6 X i)∧Clean nc (Gx6 X i)∧(∀ j:Int,0≤j∧j<8→vS (Gx6 X i) j=vS X j)∧(∀ j:Int,0≤j∧j<12→vF (Gx6 X i) j=if j=i then (.zero,0) else vF X j)∧(∀ j:Int,0≤j∧j<3+nc→vP (Gx6 X i) j=vP X j):=by
 have hl:(List.replicate 8 (0:UInt8)).length=Af7 (2:Int):=rfl
 refine ⟨Di7 c (Br8 h) _,Di2 c (Br8 h) hl (by show (Aa2 (List.replicate 8 0)).2≠2;rw [show (Aa2 (List.replicate 8 0))=(.zero,0) from rfl];simp),fun j hj=>?_,fun j hj=>?_,fun j hj=>?_⟩
 ·show Aa4 (rd _ _)=_
  rw [Am5 c (Br8 h) (Dz3 hj) hl,if_neg (by simp)]
 ·show Aa2 (rd _ _)=_
  rw [Am5 c (Br8 h) (Br8 hj) hl]
  by_cases e:j=i
  ·rw [if_pos (by rw [e]),if_pos e];rfl
  ·rw [if_neg (by simp [e]),if_neg e]
 ·show U7 (rd _ _)=_
  rw [Am5 c (Br8 h) (Bm3 hj) hl,if_neg (by simp)]
theorem Gv1 {i:Int} (h:0≤i∧i<3+nc) :
  Iw3 X ⟨3,i⟩=(true,Gx1 X i)∧Clean nc (Gx1 X i)∧(∀ j:Int,0≤j∧j<8→vS (Gx1 X i) j=vS X j)∧(∀ j:Int,0≤j∧j<12→vF (Gx1 X i) j=vF X j)∧(∀ j:Int,0≤j∧j<3+nc→vP (Gx1 X i) j=if j=i then (.zero,0) else vP X j):=by
 have hl:(List.replicate 40 (0:UInt8)).length=Af7 (3:Int):=rfl
 refine ⟨Di7 c (Bm3 h) _,Di2 c (Bm3 h) hl (by show (U7 (List.replicate 40 0)).2≠2;rw [show (U7 (List.replicate 40 0))=(.zero,0) from rfl];simp),fun j hj=>?_,fun j hj=>?_,fun j hj=>?_⟩
 ·show Aa4 (rd _ _)=_
  rw [Am5 c (Bm3 h) (Dz3 hj) hl,if_neg (by simp)]
 ·show Aa2 (rd _ _)=_
  rw [Am5 c (Bm3 h) (Br8 hj) hl,if_neg (by simp)]
 ·show U7 (rd _ _)=_
  rw [Am5 c (Bm3 h) (Bm3 hj) hl]
  by_cases e:j=i
  ·rw [if_pos (by rw [e]),if_pos e];rfl
  ·rw [if_neg (by simp [e]),if_neg e]
theorem Iv3 {i:Int} (h:0≤i∧i<3+nc):((vP X i).2=0∧(vP X i).1=.zero)∨((vP X i).2=1∧okP (vP X i).1=true):=by
 have:=c.ok ⟨3,i⟩ (by simp) (by simp) h.1 h.2
 have hk:(vP X i).2≠2:=this
 unfold vP U7 at hk ⊢
 split
 ·exact .inl ⟨rfl,rfl⟩
 ·split
  ·rename_i h2
   unfold isP at h2
   simp only [Bool.and_eq_true] at h2
   exact .inr ⟨rfl,h2.1⟩
  ·rename_i h1 h2;simp [h1,h2] at hk
end
def SlOk (L:List (Int × ProcS)):Prop:=∀ s ∈ L,(0≤s.1∧s.1<8)∧okS s.2=true∧InS s.2
theorem Dz2 (e:Int):Ct A9 Bb5 [int e] [] fun v own=>v=.agg ⟨U9 0 e false⟩∧own []:=by
 refine Ct.of H72 rfl fun h r=>Tr.eq (Ia6 ..) ?_;refine Je ?_
 (refine Ja ?_;intros)
 refine Ys fun o=>?_
 exact ⟨rfl,o.tail⟩
theorem Is9 (ok:Bool) (n:Int):Ct A9 Dq1 [.bool ok,int n] [] fun v own=>v=.agg ⟨if ok then U9 n 0 false else U9 0 105 false⟩∧own []:=by
 refine Ct.of H59 rfl fun h r=>Tr.eq (H94 ..) ?_;refine Je ?_
 refine Yn fun b1 h=>?_
 cases ok
 ·refine Yt rfl ?_
  refine Yc (Dz2 105) ?_;rintro _ h ⟨rfl,o⟩<;>(refine Jf o ?_;intros)
  refine Ys fun o=>?_
  exact ⟨rfl,o.tail⟩
 ·refine Yf rfl ?_
  (refine Ja ?_;intros)
  refine Ys fun o=>?_
  exact ⟨rfl,o.tail⟩
theorem Ey0 (p:ProcS) {j:Nat} (h:j<8):(E0 p)[8+j]?=some (int (p.fds.getD j 0)):=by
 have:=Gy9 (l:=p.fds) (i:=j) (by rw [p.len];exact h)
 rw [show 8+j=j+8 by omega]
 exact this
abbrev setFd (p:ProcS) (j:Nat) (f:Int):ProcS:=⟨p.state,p.parent,p.group,p.code,p.pending,p.mask,p.ignored,p.caught,p.fds.set j f,by rw [List.length_set];exact p.len⟩
theorem G24 (p:ProcS) {j:Nat} (h:j<8) (f:Int):Dk9 (E0 p) (8+j) (int f)=some (E0 (setFd p j f)):=by
 have e:Nat.blt (8+j) (E0 p).length=true:=by rw [B16 p];exact Nat.ble_eq_true_of_le (by have:=p.len;omega)
 unfold Dk9
 rw [e,show 8+j=j+8 by omega]
 show some ((E0 p).set (j+8) (int f))=_
 simp only [E0,List.set_cons_succ,List.map_set]
def Ax1 (p:ProcS) (fd:Int):Bool:=decide (0≤fd∧fd<8) && decide (p.fds.getD fd.toNat 0>0)
theorem Ip9 (p:ProcS) (fd:Int):Ct A9 Df2 [.agg ⟨E0 p⟩,int fd] [] fun v own=>v=.bool (Ax1 p fd)∧own []:=by
 refine Ct.of Hu6 rfl fun h r=>Tr.eq (Hs9 ..) ?_;refine Je ?_
 refine Yn fun b1 h=>?_
 by_cases h0:0≤fd
 case neg =>
  refine Yb (Yf (by simpa using h0) ?_)
  refine Ys fun o=>(?_:Tr _ _ _ _) o;refine Je ?_
  refine Yb (Yf rfl ?_)
  refine Ys fun o=>(?_:Tr _ _ _ _) o;refine Je ?_
  refine Ys fun o=>?_
  refine ⟨?_,o.tail⟩
  rw [show Ax1 p fd=false by simp [Ax1];omega]
 refine Yb (Yt (by simpa using h0) ?_)
 refine Ys fun o=>(?_:Tr _ _ _ _) o;refine Je ?_
 by_cases h1:fd<8
 case neg =>
  refine Yb (Yf (by simpa using h1) ?_)
  refine Ys fun o=>(?_:Tr _ _ _ _) o;refine Je ?_
  refine Ys fun o=>?_
  refine ⟨?_,o.tail⟩
  rw [show Ax1 p fd=false by simp [Ax1];omega]
 have hg:=Ey0 p (j:=fd.toNat) (by omega)
 refine Yb (Yt (by simpa using h1) ?_)
 (refine Ja ?_;intros)
 refine Ys fun o=>(?_:Tr _ _ _ _) o;refine Je ?_
 refine Ys fun o=>?_
 refine ⟨?_,o.tail⟩
 rw [show Ax1 p fd=decide (p.fds.getD fd.toNat 0>0) by simp [Ax1,h0,h1]]
theorem Gk9 {p:ProcS} (h:okS p=true) (h1:p.state=1) (j:Nat) {f:Int} (hf:0≤f∧f≤12):okS (setFd p j f)=true:=by
 have hd:=E37 h
 have hd2:B32 (setFd p j f).fds:=fun x hx=>by
  rcases List.mem_or_eq_of_mem_set hx with h2|rfl
  ·exact hd x h2
  ·exact hf
 unfold okS at h ⊢
 rw [if_neg (by rw [h1];decide)] at h
 rw [if_neg (show ¬ (setFd p j f).state=2 by show ¬ p.state=2;rw [h1];decide)]
 simp only [Bool.and_eq_true] at h ⊢
 refine ⟨h.1,h.2.1,?_,h.2.2.2⟩
 rw [Bool.not_eq_true',List.any_eq_false]
 intro x hx
 have:=hd2 x hx
 simp;omega
def H55 (X:CX) (i fd f:Int):List Value × CX :=
 if (S9 X i).2≠0 then (U9 0 (S9 X i).2 false,X) else (U9 fd 0 false,Db8 X i (setFd (vS X i).1 fd.toNat (f+1)))
def P5 (q:Int→Bool):Nat→Int→Nat→List Int
 | 0,_,_=>[]
 | _+1,_,0=>[]
 | m+1,i,w+1=>if q i=true then i::P5 q m (i+1) w else P5 q m (i+1) (w+1)
theorem Di4 (q:Int→Bool):∀ (m:Nat) (i:Int) (w:Nat),(P5 q m i w).length≤w
 | 0,_,_=>by simp [P5]
 | _+1,_,0=>by simp [P5]
 | m+1,i,w+1=>by
  have h1:=Di4 q m (i+1) w
  have h2:=Di4 q m (i+1) (w+1)
  unfold P5;split<;>simp<;>omega
theorem A13 (q:Int→Bool):∀ (m:Nat) (i:Int) (w:Nat),∀ x ∈ P5 q m i w,i≤x∧x<i+m∧q x=true
 | 0,_,_,x,hx=>by simp [P5] at hx
 | _+1,_,0,x,hx=>by simp [P5] at hx
 | m+1,i,w+1,x,hx=>by
  unfold P5 at hx
  split at hx
  ·rename_i hq
   rcases List.mem_cons.1 hx with rfl|h
   ·exact ⟨by omega,by omega,hq⟩
   ·have:=A13 q m (i+1) w x h
    exact ⟨by omega,by omega,this.2.2⟩
  ·have:=A13 q m (i+1) (w+1) x hx
   exact ⟨by omega,by omega,this.2.2⟩
theorem D62 (pr:HP) (g:FuncId) (cp:List Value) (n:Int) (hn:n≤100) (q:Int→Bool) (hq:∀ j:Int,0≤j∧j<n→Ct A9 g (int j::cp) [pr] fun v own=>v=.bool (q j)∧own [pr]):∀ (m:Nat) (i:Int) (acc:List Int) (w:Nat) (a:Option Addr) (ac:Nat),0≤i→i+m=n→acc.length≤i →
  CtJ I2 Z9 Bf8 [(0,int n),(1,int ((acc.length+w:Nat):Int)),(2,.func (.func g) ⟨[]⟩ ⟨cp⟩),(7,.slice a acc.length ac),(8,int i)] [slC false B5 1 a acc.length ac (acc.map int),pr] fun v own =>
   ∃ a' c',v=.slice a' (acc++P5 q m i w).length c'∧own [slC false B5 1 a' (acc++P5 q m i w).length c' ((acc++P5 q m i w).map int),pr]
 | 0,i,acc,w,a,ac,h0,hi,ha=>by
  refine CtJ.of Dp8 fun h r=>Tr.eq (Dk3 ..) ?_;refine Je ?_
  refine Yb (Yf (by simp;omega) ?_)
  refine Ys fun o=>(?_:Tr _ _ _ _) o;refine Je ?_
  refine Yf rfl ?_
  refine Ys fun o=>?_
  rw [show P5 q 0 i w=[] by unfold P5;rfl,List.append_nil]
  exact ⟨a,ac,rfl,o.sub⟩
 | m+1,i,acc,0,a,ac,h0,hi,ha=>by
  refine CtJ.of Dp8 fun h r=>Tr.eq (Dk3 ..) ?_;refine Je ?_
  refine Yb (Yt (by simp;omega) ?_)
  refine Ys fun o=>(?_:Tr _ _ _ _) o;refine Je ?_
  refine Yf (by simp) ?_
  refine Ys fun o=>?_
  rw [show P5 q (m+1) i 0=[] by unfold P5;rfl,List.append_nil]
  exact ⟨a,ac,rfl,o.sub⟩
 | m+1,i,acc,w+1,a,ac,h0,hi,ha=>by
  have e1:=wI i
  rw [show P5 q (m+1) i (w+1)=if q i=true then i::P5 q m (i+1) w else P5 q m (i+1) (w+1) by rw [P5]]
  refine CtJ.of Dp8 fun h r=>Tr.eq (Dk3 ..) ?_;refine Je ?_
  refine Yb (Yt (by simp;omega) ?_)
  refine Ys fun o=>(?_:Tr _ _ _ _) o;refine Je ?_
  refine Yt (by simp;omega) ?_
  rw [e1]
  refine V7 0 rfl fun hl hc _=>?_
  (refine Ja ?_;intros)
  simp only [List.nil_append,List.singleton_append]
  refine Yc (hq i (by omega)) ?_;rintro _ h ⟨rfl,o⟩<;>refine Jh o ?_
  (refine Ja ?_;intros)
  by_cases h2:q i=true
  ·rw [if_pos h2]
   refine Yt h2 ?_
   (refine Ja ?_;intros)
   refine Tr.xApd (new:=[int i]) ⟨rfl,rfl,by simp only [B1];omega⟩ fun a' c' h=>?_
   have H:=D62 pr g cp n hn q hq m (i+1) (acc++[i]) w a' c' (by omega) (by omega) (by simp;omega)
   rw [show acc++i::P5 q m (i+1) w=acc++[i]++P5 q m (i+1) w by simp,show acc.length+(w+1)=(acc++[i]).length+w by simp;omega]
   refine (?_:Tr (_::pr::slC false B5 1 a' (acc.length+1) c' (acc.map int++[int i])::_) _ _ _)
   rw [show acc.map int++[int i]=(acc++[i]).map int by simp,show acc.length+1=(acc++[i]).length by simp]
   refine Ab2 [2,1] 1 rfl rfl ?_
   exact Yr H fun v h q=>q
  ·rw [if_neg h2]
   refine Yf (by simpa using h2) ?_
   refine Ab2 [1,0] 0 rfl rfl ?_
   exact Yr (D62 pr g cp n hn q hq m (i+1) acc (w+1) a ac (by omega) (by omega) (by omega)) fun v h q=>q
theorem Gg0 (pr:HP) (g:FuncId) (cp:List Value) (n:Nat) (hn:n≤100) (w:Nat) (q:Int→Bool) (hq:∀ j:Int,0≤j∧j<n→Ct A9 g (int j::cp) [pr] fun v own=>v=.bool (q j)∧own [pr]) :
  Ct A9 Z9 [int n,int w,.func (.func g) ⟨[]⟩ ⟨cp⟩] [pr] fun v own=>∃ a' c',v=.slice a' (P5 q n 0 w).length c'∧own [slC false B5 1 a' (P5 q n 0 w).length c' ((P5 q n 0 w).map int),pr]:=by
 refine Ct.of Dp8 rfl fun h r=>Tr.eq (H32 ..) ?_;refine Je ?_
 refine G4 false B5 1 (by omega) ?_
 have J:=D62 pr g cp n (by omega) q hq n 0 [] w none 0 (by omega) (by omega) (by simp)
 simp only [List.nil_append,List.length_nil,List.map_nil,Nat.zero_add] at J
 exact Yr J fun v h q=>q
theorem Ij9 (b:Nat) (p:ProcS) (j:Int) (hj:0≤j∧j<8):Ct A9 Bg2 [int j,P0 b] [pt b (.cells D2 false (E0 p))] fun v own=>v=.bool (p.fds.getD j.toNat 0==0)∧own [pt b (.cells D2 false (E0 p))]:=by
 have hg:=Ey0 p (j:=j.toNat) (by omega)
 refine Ct.of G54 rfl fun h r=>Tr.eq (G70 ..) ?_;refine Je ?_
 (refine Ja ?_;intros)
 refine Ys fun o=>?_
 exact ⟨rfl,o.sub⟩
abbrev Z0 (p:ProcS) (w:Nat):List Int:=P5 (fun j=>p.fds.getD j.toNat 0==0) 8 0 w
theorem Im4 (p:ProcS) (w:Nat):Ct A9 De9 [.agg ⟨E0 p⟩,int w] [] fun v own=>∃ a' c',v=.slice a' (Z0 p w).length c'∧own [slC false B5 1 a' (Z0 p w).length c' ((Z0 p w).map int)]:=by
 refine Ct.of Ho4 rfl fun h r=>Tr.eq (Hr4 ..) ?_;refine Je ?_
 refine Yn fun b1 h=>?_
 refine Yc (Gg0 _ Bg2 [P0 b1] 8 (by omega) w _ fun j hj=>Ij9 b1 p j (by omega)) ?_
 rintro _ h ⟨a',c',rfl,o⟩
 refine Jh o ?_
 (refine Ja ?_;intros)
 refine Ys fun o=>?_
 exact ⟨a',c',rfl,o.sub⟩
def hcC (bh b k:Nat) (F:Fr) (X:CX):HP:=hex fun _:Unit=>sl [pt bh (.cells R0 false [P0 b]),cmC b k F X]
instance {bh b k:Nat} {F:Fr} {X:CX}:Chk (hcC bh b k F X) (fun _:Unit=>[pt bh (.cells R0 false [P0 b]),cmC b k F X]):=⟨rfl⟩
theorem Io2 (bh b k:Nat) (F:Fr) (X:CX) (ok:FrOk F) {nc:Nat} (c:Clean nc X) (j:Int) (hj:0≤j∧j<12):Ct A9 A88 [int j,P0 bh] [hcC bh b k F X] fun v own=>v=.bool ((vF X j).2==0)∧own [hcC bh b k F X]:=by
 refine Ct.of Hk2 rfl fun h r=>Tr.eq (Hn2 ..) ?_;refine Je ?_
 refine B4 (hcC bh b k F X) fun u=>?_;refine Je ?_
 (refine Ja ?_;intros)
 refine Yc (Dx3 b k F X ok j) ?_;rintro _ h ⟨rfl,o⟩<;>refine Jh o ?_
 rw [Bu5 c hj]
 dsimp only
 (refine Jc ?_;intros)
 refine Yn fun b1 h=>?_
 (refine Ja ?_;intros)
 refine B0 (hcC bh b k F X) () ?_;refine Je ?_
 refine Ys fun o=>?_
 exact ⟨rfl,o.sub⟩
theorem Ir1 (bh b k:Nat) (F:Fr) (X:CX) (ok:FrOk F) {nc:Nat} (c:Clean nc X) (j:Int) (hj:0≤j∧j<3+nc):Ct A9 A69 [int j,P0 bh] [hcC bh b k F X] fun v own=>v=.bool ((vP X j).2==0)∧own [hcC bh b k F X]:=by
 refine Ct.of Hm3 rfl fun h r=>Tr.eq (Hg5 ..) ?_;refine Je ?_
 refine B4 (hcC bh b k F X) fun u=>?_;refine Je ?_
 (refine Ja ?_;intros)
 refine Yc (Gk5 b k F X ok j) ?_;rintro _ h ⟨rfl,o⟩<;>refine Jh o ?_
 rw [Ea5 c hj]
 dsimp only
 (refine Jc ?_;intros)
 refine Yn fun b1 h=>?_
 (refine Ja ?_;intros)
 refine B0 (hcC bh b k F X) () ?_;refine Je ?_
 refine Ys fun o=>?_
 exact ⟨rfl,o.sub⟩
def ofV (X:CX) (i fd:Int):(Int × FileS) × Int :=
 if (S9 X i).2≠0 then ((0,.zero),(S9 X i).2)
 else if Ax1 (vS X i).1 fd=false then ((0,.zero),109)
 else if (vF X ((vS X i).1.fds.getD fd.toNat 0-1)).2≠1 then ((0,.zero),105)
 else (((vS X i).1.fds.getD fd.toNat 0-1,(vF X ((vS X i).1.fds.getD fd.toNat 0-1)).1),0)
theorem Ib9 {nc:Nat} {X:CX} (c:Clean nc X) {i:Int} (hi:0≤i∧i<8) (h:(S9 X i).2=0) (j:Nat):0≤(vS X i).1.fds.getD j 0∧(vS X i).1.fds.getD j 0≤12:=by
 obtain ⟨s1,s2,s3,s4⟩:=Bx1 c hi h
 by_cases hj:j<(vS X i).1.fds.length
 ·rw [List.getD_eq_getElem?_getD,List.getElem?_eq_getElem hj];exact E37 s3 _ (List.getElem_mem _)
 ·rw [List.getD_eq_getElem?_getD,List.getElem?_eq_none (by omega)];simp
theorem Iu6 (b k:Nat) (F:Fr) (X:CX) (ok:FrOk F) {nc:Nat} (c:Clean nc X) (i fd:Int) (hi:0≤i∧i<8) :
  Ct A9 Dv3 [P0 b,int i,int fd] [cmC b k F X] fun v own=>v=.tuple ⟨[int (ofV X i fd).1.1,.agg ⟨Aj8 (ofV X i fd).1.2⟩,int (ofV X i fd).2]⟩∧own [cmC b k F X]:=by
 unfold ofV
 refine Ct.of Ir9 rfl fun h r=>Tr.eq (In3 ..) ?_;refine Je ?_
 refine Yn fun b0 h=>?_
 refine Yc (E53 b k F X ok c i hi) ?_;rintro _ h ⟨rfl,o⟩<;>refine Jh o ?_
 (refine Jc ?_;intros)
 refine Yn fun b1 h=>?_
 (refine Jb ?_;intros)
 by_cases h1:(S9 X i).2=0
 case neg =>
  rw [if_pos h1]
  refine Yt (by simpa using h1) ?_
  (refine Ja ?_;intros)
  refine Ys fun o=>?_
  exact ⟨rfl,o.sub⟩
 rw [if_neg (by simpa using h1)]
 refine Yf (by simpa using h1) ?_
 obtain ⟨s1,s2,s3,s4⟩:=Bx1 c hi h1
 have hr:=fun j=>Ib9 c hi h1 j
 rw [s1]
 generalize hp:(vS X i).1=p at s2 s3 hr
 (refine Ja ?_;intros)
 refine Yc (Ip9 p fd) ?_;rintro _ h ⟨rfl,o⟩<;>(refine Jf o ?_;intros)
 by_cases h2:Ax1 p fd=true
 case neg =>
  rw [if_pos (by simpa using h2)]
  refine Yt (by simpa using h2) ?_
  (refine Ja ?_;intros)
  refine Ys fun o=>?_
  exact ⟨rfl,o.sub⟩
 rw [if_neg (by simpa using h2)]
 refine Yf (by simpa using h2) ?_
 simp only [Ax1,Bool.and_eq_true,decide_eq_true_eq] at h2
 have hg:=Ey0 p (j:=fd.toNat) (by omega)
 have hf:=hr fd.toNat
 generalize p.fds.getD fd.toNat 0=f at hg hf h2
 have e1:IntKind.wrap .i64 (f-1)=f-1:=by rw [B6];omega
 (refine Ja ?_;intros)
 rw [e1]
 refine Yc (Dx3 b k F X ok (f-1)) ?_;rintro _ h ⟨rfl,o⟩<;>refine Jh o ?_
 rw [Bu5 c (by omega)]
 dsimp only
 (refine Ja ?_;intros)
 by_cases h3:(vF X (f-1)).2=1
 case neg =>
  rw [if_pos h3]
  refine Yt (by simpa using h3) ?_
  (refine Ja ?_;intros)
  refine Ys fun o=>?_
  exact ⟨rfl,o.sub⟩
 rw [if_neg (by simpa using h3)]
 refine Yf (by simpa using h3) ?_
 (refine Ja ?_;intros)
 rw [e1]
 refine Ys fun o=>?_
 exact ⟨rfl,o.sub⟩
theorem Id8 {p:ProcS} {fd:Int} (h:Ax1 p fd=true):(0≤fd∧fd<8)∧p.fds.getD fd.toNat 0>0:=by
 simp only [Ax1,Bool.and_eq_true,decide_eq_true_eq] at h;exact h
def Be1:PipeS:=⟨0,0,1,1,[0,0,0,0,0,0,0,0,0,0,0,0,0,0,0,0,0,0,0,0,0,0,0,0,0,0,0,0,0,0,0,0],rfl⟩
abbrev Bg6 (X:CX):List Int:=P5 (fun j=>(vF X j).2==0) 12 0 2
abbrev Bp9 (X:CX):List Int:=P5 (fun j=>(vP X j).2==0) 4 0 1
def Bt9 (X:CX) (i d0 d1 f0 f1 r0:Int):CX :=
 Db8 (A43 (A43 (A79 X r0 Be1) f0 ⟨1,r0,1,0⟩) f1 ⟨2,r0,1,0⟩) i (setFd (setFd (vS X i).1 d0.toNat (f0+1)) d1.toNat (f1+1))
def Ds4 (X:CX) (i:Int):List Value × CX :=
 if (S9 X i).2≠0 then (U9 0 (S9 X i).2 false,X)
 else if (Z0 (vS X i).1 2).length<2 then (U9 0 124 false,X)
 else if (Bg6 X).length<2∨(Bp9 X).length=0 then (U9 0 123 false,X)
 else (U9 ((Z0 (vS X i).1 2).getD 0 0+16*(Z0 (vS X i).1 2).getD 1 0) 0 false,Bt9 X i ((Z0 (vS X i).1 2).getD 0 0) ((Z0 (vS X i).1 2).getD 1 0) ((Bg6 X).getD 0 0) ((Bg6 X).getD 1 0) ((Bp9 X).getD 0 0))
theorem Ic1 {l:List Int} (h:l.length≤2) (h2:¬ l.length<2):∃ a b,l=[a,b]:=by
 match l,h,h2 with
 | [a,b],_,_=>exact ⟨a,b,rfl⟩
 | [],_,h2=>simp at h2
 | [_],_,h2=>simp at h2
 | _::_::_::_,h,_=>simp at h
theorem G13 {nc:Nat} {X:CX} (c:Clean nc X) {i:Int} (hi:0≤i∧i<8) (hs:(S9 X i).2=0) {d0 d1 f0 f1 r0:Int} (hd0:0≤d0∧d0<8) (hd1:0≤d1∧d1<8) (hf0:0≤f0∧f0<12) (hf1:0≤f1∧f1<12) (hr:0≤r0∧r0<4) (hn:r0<3+(nc:Int)) :
  Bc2 X r0 Be1=(true,A79 X r0 Be1)∧Bn0 (A79 X r0 Be1) f0 ⟨1,r0,1,0⟩=(true,A43 (A79 X r0 Be1) f0 ⟨1,r0,1,0⟩) ∧
  Bn0 (A43 (A79 X r0 Be1) f0 ⟨1,r0,1,0⟩) f1 ⟨2,r0,1,0⟩=(true,A43 (A43 (A79 X r0 Be1) f0 ⟨1,r0,1,0⟩) f1 ⟨2,r0,1,0⟩) ∧
  A37 (A43 (A43 (A79 X r0 Be1) f0 ⟨1,r0,1,0⟩) f1 ⟨2,r0,1,0⟩) i (setFd (setFd (vS X i).1 d0.toNat (f0+1)) d1.toNat (f1+1))=(true,Bt9 X i d0 d1 f0 f1 r0) ∧
  Clean nc (Bt9 X i d0 d1 f0 f1 r0)∧(∀ j:Int,0≤j∧j<8→vS (Bt9 X i d0 d1 f0 f1 r0) j=if j=i then (setFd (setFd (vS X i).1 d0.toNat (f0+1)) d1.toNat (f1+1),1) else vS X j) ∧
  (∀ j:Int,0≤j∧j<12→vF (Bt9 X i d0 d1 f0 f1 r0) j=if j=f1 then (⟨2,r0,1,0⟩,1) else if j=f0 then (⟨1,r0,1,0⟩,1) else vF X j) ∧
  (∀ j:Int,0≤j∧j<3+nc→vP (Bt9 X i d0 d1 f0 f1 r0) j=if j=r0 then (Be1,1) else vP X j):=by
 obtain ⟨s1,s2,s3,s4⟩:=Bx1 c hi hs
 have hin:=Ee4 (rd X ⟨1,i⟩)
 obtain ⟨a1,a2,a3,a4,a5⟩:=A82 c (i:=r0) (by omega) (p:=Be1) rfl
 obtain ⟨b1,b2,b3,b4,b5⟩:=Au8 a2 hf0 (f:=⟨1,r0,1,0⟩) (by simp [okF];omega)
 obtain ⟨c1,c2,c3,c4,c5⟩:=Au8 b2 hf1 (f:=⟨2,r0,1,0⟩) (by simp [okF];omega)
 have hq:=Gk9 (Gk9 s3 s2 d0.toNat (f:=f0+1) (by omega)) s2 d1.toNat (f:=f1+1) (by omega)
 obtain ⟨e1,e2,e3,e4,e5⟩:=Bp5 c2 hi hq ⟨hin.a,hin.b,hin.c,hin.d⟩
 refine ⟨a1,b1,c1,e1,e2,fun j hj=>?_,fun j hj=>?_,fun j hj=>?_⟩
 ·rw [show Bt9 X i d0 d1 f0 f1 r0=Db8 _ _ _ from rfl,e3 j hj,c3 j hj,b3 j hj,a3 j hj]
 ·rw [show Bt9 X i d0 d1 f0 f1 r0=Db8 _ _ _ from rfl,e4 j hj,c4 j hj,b4 j hj,a4 j hj]
 ·rw [show Bt9 X i d0 d1 f0 f1 r0=Db8 _ _ _ from rfl,e5 j hj,c5 j hj,b5 j hj,a5 j hj]
theorem Is7 (bh b k:Nat) (F:Fr) (X:CX) (ok:FrOk F) {nc:Nat} (c:Clean nc X):Ct A9 Z9 [int 12,int 2,.func (.func A88) ⟨[]⟩ ⟨[P0 bh]⟩] [hcC bh b k F X] fun v own =>
  ∃ a' c',v=.slice a' (Bg6 X).length c'∧own [slC false B5 1 a' (Bg6 X).length c' ((Bg6 X).map int),hcC bh b k F X] :=
 Gg0 _ A88 [P0 bh] 12 (by omega) 2 _ fun j hj=>Io2 bh b k F X ok c j (by omega)
theorem Iq7 (bh b k:Nat) (F:Fr) (X:CX) (ok:FrOk F) {nc:Nat} (c:Clean nc X):Ct A9 Z9 [int 4,int 1,.func (.func A69) ⟨[]⟩ ⟨[P0 bh]⟩] [hcC bh b k F X] fun v own =>
  ∃ a' c',v=.slice a' (Bp9 X).length c'∧own [slC false B5 1 a' (Bp9 X).length c' ((Bp9 X).map int),hcC bh b k F X] :=
 Gg0 _ A69 [P0 bh] 4 (by omega) 1 _ fun j hj=>Ir1 bh b k F X ok c j (by have:=c.pos;omega)
theorem I72 {l:List Int} (h:l.length≤1) (h2:¬ l.length=0):∃ a,l=[a]:=by
 match l,h,h2 with
 | [a],_,_=>exact ⟨a,rfl⟩
 | [],_,h2=>simp at h2
 | _::_::_,h,_=>simp at h
theorem Io6 (b k:Nat) (F:Fr) (X:CX) (ok:FrOk F) {nc:Nat} (c:Clean nc X) (i:Int) (hi:0≤i∧i<8) :
  Ct A9 Do9 [P0 b,int i] [cmC b k F X] fun v own=>v=.agg ⟨(Ds4 X i).1⟩∧own [cmC b k F (Ds4 X i).2]:=by
 unfold Ds4
 refine Ct.of H50 rfl fun h r=>Tr.eq (H06 ..) ?_;refine Je ?_
 refine Yn fun bh h=>?_
 refine Yn fun b0 h=>?_
 (refine Ja ?_;intros)
 refine Yc (E53 b k F X ok c i hi) ?_;rintro _ h ⟨rfl,o⟩<;>refine Jh o ?_
 (refine Jc ?_;intros)
 refine Yn fun b1 h=>?_
 (refine Jb ?_;intros)
 by_cases h1:(S9 X i).2=0
 case neg =>
  rw [if_pos h1]
  refine Yt (by simpa using h1) ?_
  refine Yc (Dz2 (S9 X i).2) ?_;rintro _ h ⟨rfl,o⟩<;>(refine Jf o ?_;intros)
  refine Ys fun o=>?_
  exact ⟨rfl,o.sub⟩
 rw [if_neg (by simpa using h1)]
 refine Yf (by simpa using h1) ?_
 have hM:=fun d0 d1 f0 f1 r0=>G13 c hi h1 (d0:=d0) (d1:=d1) (f0:=f0) (f1:=f1) (r0:=r0)
 obtain ⟨s1,s2,s3,s4⟩:=Bx1 c hi h1
 rw [s1]
 unfold Bt9 at hM ⊢
 generalize (vS X i).1=p at hM
 (refine Ja ?_;intros)
 refine Yc (Im4 p 2) ?_
 rintro _ h ⟨a,ac,rfl,o⟩
 refine Jh o ?_
 have hm:=A13 (fun j=>p.fds.getD j.toNat 0==0) 8 0 2
 have hl:=Di4 (fun j=>p.fds.getD j.toNat 0==0) 8 0 2
 change ∀ x ∈ Z0 p 2,_ at hm
 change (Z0 p 2).length≤2 at hl
 refine (?_:Tr (slC false B5 1 a (Z0 p 2).length ac ((Z0 p 2).map int)::_) _ _ _)
 generalize Z0 p 2=L at hm hl
 by_cases h2:L.length<2
 ·(refine Ja ?_;intros)
  refine Yt (by simp;omega) ?_
  refine Yc (Dz2 124) ?_;rintro _ h ⟨rfl,o⟩<;>(refine Jf o ?_;intros)
  refine Ys fun o=>?_
  rw [if_pos h2]
  exact ⟨rfl,o.sub⟩
 rw [if_neg h2]
 obtain ⟨d0,d1,rfl⟩:=Ic1 hl h2
 have hd0:=hm d0 (by simp)
 have hd1:=hm d1 (by simp)
 (refine Ja ?_;intros)
 refine Yf (by simp) ?_
 refine B0 (hcC bh b k F X) () ?_;refine Je ?_
 refine Yc (Is7 bh b k F X ok c) ?_
 rintro _ h ⟨a2,ac2,rfl,o⟩
 refine Jh o ?_
 have hmF:=A13 (fun j=>(vF X j).2==0) 12 0 2
 have hlF:=Di4 (fun j=>(vF X j).2==0) 12 0 2
 change ∀ x ∈ Bg6 X,_ at hmF
 change (Bg6 X).length≤2 at hlF
 generalize Bg6 X=Fl at hmF hlF
 (refine Ja ?_;intros)
 refine Yc (Iq7 bh b k F X ok c) ?_
 rintro _ h ⟨a3,ac3,rfl,o⟩
 refine Jh o ?_
 have hmR:=A13 (fun j=>(vP X j).2==0) 4 0 1
 have hlR:=Di4 (fun j=>(vP X j).2==0) 4 0 1
 change ∀ x ∈ Bp9 X,_ at hmR
 change (Bp9 X).length≤1 at hlR
 generalize Bp9 X=Rl at hmR hlR
 refine B4 (hcC bh b k F X) fun u=>?_;refine Je ?_
 by_cases h3:Fl.length<2
 ·rw [if_pos (.inl h3)]
  (refine Jb ?_;intros)
  refine Yb (Yt (by simp;omega) ?_)
  refine Ys fun o=>(?_:Tr _ _ _ _) o;refine Je ?_
  refine Yt rfl ?_
  refine Yc (Dz2 123) ?_;rintro _ h ⟨rfl,o⟩<;>(refine Jf o ?_;intros)
  refine Ys fun o=>?_
  exact ⟨rfl,o.sub⟩
 obtain ⟨f0,f1,rfl⟩:=Ic1 hlF h3
 by_cases h4:Rl.length=0
 ·rw [if_pos (.inr h4)]
  (refine Jb ?_;intros)
  refine Yb (Yf rfl ?_)
  refine Ys fun o=>(?_:Tr _ _ _ _) o;refine Je ?_
  refine Yt (by simpa using h4) ?_
  refine Yc (Dz2 123) ?_;rintro _ h ⟨rfl,o⟩<;>(refine Jf o ?_;intros)
  refine Ys fun o=>?_
  exact ⟨rfl,o.sub⟩
 rw [if_neg (fun h=>h.elim h3 h4)]
 obtain ⟨r0,rfl⟩:=I72 hlR h4
 have hf0:=hmF f0 (by simp)
 have hf1:=hmF f1 (by simp)
 have hr0:=hmR r0 (by simp)
 obtain ⟨w1,w2,w3,w4,_⟩:=hM d0 d1 f0 f1 r0 (by omega) (by omega) (by omega) (by omega) (by omega) (by have:=c.pos;omega)
 (refine Jb ?_;intros)
 refine Yb (Yf rfl ?_)
 refine Ys fun o=>(?_:Tr _ _ _ _) o;refine Je ?_
 refine Yf rfl ?_
 (refine Ja ?_;intros;repeat(refine Gw ?_;rintro px rfl;refine Ja ?_;intros))
 refine Yc (Gc5 b k F X ok r0 Be1) ?_;rintro _ h ⟨rfl,o⟩<;>refine Jh o ?_
 rw [w1]
 dsimp only
 (refine Jb ?_;intros)
 refine Yb (Yt rfl ?_)
 (refine Jb ?_;intros;repeat(refine Gw ?_;rintro px rfl;refine Jb ?_;intros))
 refine Yc (D77 b k F (A79 X r0 Be1) ok f0 ⟨1,r0,1,0⟩) ?_;rintro _ h ⟨rfl,o⟩<;>refine Jh o ?_
 rw [w2]
 dsimp only
 (refine Jb ?_;intros)
 refine Ys fun o=>(?_:Tr _ _ _ _) o;refine Je ?_
 refine Yb (Yt rfl ?_)
 (refine Jb ?_;intros;repeat(refine Gw ?_;rintro px rfl;refine Jb ?_;intros))
 refine Yc (D77 b k F (A43 (A79 X r0 Be1) f0 ⟨1,r0,1,0⟩) ok f1 ⟨2,r0,1,0⟩) ?_;rintro _ h ⟨rfl,o⟩<;>refine Jh o ?_
 rw [w3]
 dsimp only
 (refine Jb ?_;intros)
 refine Ys fun o=>(?_:Tr _ _ _ _) o;refine Je ?_
 have hs:Dk9 (E0 p) (8+d0.toNat) (int (IntKind.wrap .i64 (f0+1)))=some (E0 (setFd p d0.toNat (f0+1))):=by
  rw [show IntKind.wrap .i64 (f0+1)=f0+1 by rw [B6];omega];exact G24 p (by omega) _
 have hs2:Dk9 (E0 (setFd p d0.toNat (f0+1))) (8+d1.toNat) (int (IntKind.wrap .i64 (f1+1)))=some (E0 (setFd (setFd p d0.toNat (f0+1)) d1.toNat (f1+1))):=by
  rw [show IntKind.wrap .i64 (f1+1)=f1+1 by rw [B6];omega];exact G24 _ (by omega) _
 have hx:IntKind.wrap .i64 (d0+IntKind.wrap .i64 (16*d1))=d0+16*d1:=by simp only [B6];omega
 simp only [List.getD_cons_zero,List.getD_cons_succ]
 generalize setFd (setFd p d0.toNat (f0+1)) d1.toNat (f1+1)=q at hs2 w4
 (refine Jb ?_;intros;repeat(refine Gw ?_;rintro px rfl;refine Jb ?_;intros))
 rw [hx]
 refine Yb (Yt rfl ?_)
 (refine Jb ?_;intros)
 refine Yc (D80 b k F (A43 (A43 (A79 X r0 Be1) f0 ⟨1,r0,1,0⟩) f1 ⟨2,r0,1,0⟩) ok i q) ?_;rintro _ h ⟨rfl,o⟩<;>refine Jh o ?_
 rw [w4]
 dsimp only
 (refine Jb ?_;intros)
 refine Ys fun o=>(?_:Tr _ _ _ _) o;refine Je ?_
 refine Yc (Is9 true (d0+16*d1)) ?_;rintro _ h ⟨rfl,o⟩<;>refine Jh o ?_
 rw [if_pos trivial]
 (refine Ja ?_;intros)
 refine Ys fun o=>?_
 exact ⟨rfl,o.sub⟩
structure VW where
 S:Int→ProcS × Int
 F:Int→FileS × Int
 P:Int→PipeS × Int
structure See (X:CX) (V:VW):Prop where
 c:Clean 3 X
 s:∀ j:Int,0≤j∧j<8→vS X j=V.S j
 f:∀ j:Int,0≤j∧j<12→vF X j=V.F j
 p:∀ j:Int,0≤j∧j<6→vP X j=V.P j
theorem See.to {X:CX} {V V':VW} (A:See X V) (hs:∀ j:Int,0≤j∧j<8→V.S j=V'.S j) (hf:∀ j:Int,0≤j∧j<12→V.F j=V'.F j) (hp:∀ j:Int,0≤j∧j<6→V.P j=V'.P j):See X V' :=
 ⟨A.c,fun j h=>(A.s j h).trans (hs j h),fun j h=>(A.f j h).trans (hf j h),fun j h=>(A.p j h).trans (hp j h)⟩
def wS (V:VW) (i:Int) (p:ProcS):VW:=⟨fun j=>if j=i then (p,1) else V.S j,V.F,V.P⟩
def wF (V:VW) (i:Int) (x:FileS):VW:=⟨V.S,fun j=>if j=i then (x,1) else V.F j,V.P⟩
def wP (V:VW) (i:Int) (x:PipeS):VW:=⟨V.S,V.F,fun j=>if j=i then (x,1) else V.P j⟩
def oF (V:VW) (i:Int):VW:=⟨V.S,fun j=>if j=i then (.zero,0) else V.F j,V.P⟩
def oP (V:VW) (i:Int):VW:=⟨V.S,V.F,fun j=>if j=i then (.zero,0) else V.P j⟩
section
variable {X:CX} {V:VW} (A:See X V)
include A
theorem See.ws {i:Int} (hi:0≤i∧i<8) {p:ProcS} (ok:okS p=true) (r:InS p):See (Db8 X i p) (wS V i p):=by
 obtain ⟨_,w2,w3,w4,w5⟩:=Bp5 A.c hi ok r
 exact ⟨w2,fun j h=>by rw [w3 j h,A.s j h];rfl,fun j h=>by rw [w4 j h];exact A.f j h,fun j h=>by rw [w5 j (by omega)];exact A.p j h⟩
theorem See.wf {i:Int} (hi:0≤i∧i<12) {x:FileS} (ok:okF x=true):See (A43 X i x) (wF V i x):=by
 obtain ⟨_,w2,w3,w4,w5⟩:=Au8 A.c hi ok
 exact ⟨w2,fun j h=>by rw [w3 j h];exact A.s j h,fun j h=>by rw [w4 j h,A.f j h];rfl,fun j h=>by rw [w5 j (by omega)];exact A.p j h⟩
theorem See.wp {i:Int} (hi:0≤i∧i<6) {x:PipeS} (ok:okP x=true):See (A79 X i x) (wP V i x):=by
 obtain ⟨_,w2,w3,w4,w5⟩:=A82 A.c (i:=i) (by omega) ok
 exact ⟨w2,fun j h=>by rw [w3 j h];exact A.s j h,fun j h=>by rw [w4 j h];exact A.f j h,fun j h=>by rw [w5 j (by omega),A.p j h];rfl⟩
theorem See.of {i:Int} (hi:0≤i∧i<12):See (Gx6 X i) (oF V i):=by
 obtain ⟨_,w2,w3,w4,w5⟩:=Gv5 A.c hi
 exact ⟨w2,fun j h=>by rw [w3 j h];exact A.s j h,fun j h=>by rw [w4 j h,A.f j h];rfl,fun j h=>by rw [w5 j (by omega)];exact A.p j h⟩
theorem See.op {i:Int} (hi:0≤i∧i<6):See (Gx1 X i) (oP V i):=by
 obtain ⟨_,w2,w3,w4,w5⟩:=Gv1 A.c (i:=i) (by omega)
 exact ⟨w2,fun j h=>by rw [w3 j h];exact A.s j h,fun j h=>by rw [w4 j h];exact A.f j h,fun j h=>by rw [w5 j (by omega),A.p j h];rfl⟩
end
def Ao0 (V:VW) (i:Int):ProcS × Int:=if (V.S i).2=1∧(V.S i).1.state=1 then ((V.S i).1,0) else (.zero,105)
theorem See.self {X:CX} {V:VW} (A:See X V) {i:Int} (hi:0≤i∧i<8):S9 X i=Ao0 V i:=by unfold S9 Ao0;rw [A.s i hi]
def ofW (V:VW) (i fd:Int):(Int × FileS) × Int :=
 if (Ao0 V i).2≠0 then ((0,.zero),(Ao0 V i).2)
 else if Ax1 (V.S i).1 fd=false then ((0,.zero),109)
 else if (V.F ((V.S i).1.fds.getD fd.toNat 0-1)).2≠1 then ((0,.zero),105)
 else (((V.S i).1.fds.getD fd.toNat 0-1,(V.F ((V.S i).1.fds.getD fd.toNat 0-1)).1),0)
theorem See.ofv {X:CX} {V:VW} (A:See X V) {i:Int} (hi:0≤i∧i<8) (fd:Int):ofV X i fd=ofW V i fd:=by
 have es:=A.self hi
 have hr:=fun h=>Ib9 A.c (i:=i) hi h fd.toNat
 unfold ofV ofW
 rw [es] at hr ⊢
 rw [A.s i hi] at hr ⊢
 by_cases h1:(Ao0 V i).2≠0
 ·rw [if_pos h1,if_pos h1]
 rw [if_neg h1,if_neg h1]
 by_cases h2:Ax1 (V.S i).1 fd=false
 ·rw [if_pos h2,if_pos h2]
 have hn:=Id8 (show Ax1 (V.S i).1 fd=true by simpa using h2)
 have hr:=hr (by simpa using h1)
 rw [if_neg h2,if_neg h2,A.f _ (by omega)]
def H82 (V:VW) (i fd f:Int):List Value × VW :=
 if (Ao0 V i).2≠0 then (U9 0 (Ao0 V i).2 false,V) else (U9 fd 0 false,wS V i (setFd (V.S i).1 fd.toNat (f+1)))
theorem See.setFd {X:CX} {V:VW} (A:See X V) {i:Int} (hi:0≤i∧i<8) (h:(Ao0 V i).2=0) (j:Nat) {f:Int} (hf:0≤f∧f≤12):See (Db8 X i (EQ.setFd (vS X i).1 j f)) (wS V i (EQ.setFd (V.S i).1 j f)):=by
 have es:=A.self hi
 obtain ⟨s1,s2,s3,s4⟩:=Bx1 A.c hi (by rw [es];exact h)
 have hin:=Ee4 (rd X ⟨1,i⟩)
 have:=A.ws hi (Gk9 s3 s2 j hf) ⟨hin.a,hin.b,hin.c,hin.d⟩
 have e:EQ.setFd (V.S i).1 j f=EQ.setFd (vS X i).1 j f:=by rw [A.s i hi]
 rw [e];exact this
theorem See.name {X:CX} {V:VW} (A:See X V) {i:Int} (hi:0≤i∧i<8) (fd:Int) {f:Int} (hf:0≤f∧f<12):(H55 X i fd f).1=(H82 V i fd f).1∧See (H55 X i fd f).2 (H82 V i fd f).2:=by
 have es:=A.self hi
 unfold H55 H82
 rw [es]
 by_cases h1:(Ao0 V i).2=0
 case neg=>rw [if_pos h1,if_pos h1];exact ⟨rfl,A⟩
 have n1:¬ (Ao0 V i).2≠0:=by simpa using h1
 rw [if_neg n1,if_neg n1]
 exact ⟨rfl,A.setFd hi h1 fd.toNat (by omega)⟩
theorem De5 {q q':Int→Bool}:∀ (m:Nat) (i:Int) (w:Nat),(∀ j:Int,i≤j→j<i+m→q j=q' j)→P5 q m i w=P5 q' m i w
 | 0,_,_,_=>rfl
 | _+1,_,0,_=>rfl
 | m+1,i,w+1,h=>by
  rw [P5,P5,h i (by omega) (by omega),De5 m (i+1) w fun j h1 h2=>h j (by omega) (by omega),De5 m (i+1) (w+1) fun j h1 h2=>h j (by omega) (by omega)]
abbrev Ej7 (V:VW):List Int:=P5 (fun j=>(V.F j).2==0) 12 0 2
abbrev Gv6 (V:VW):List Int:=P5 (fun j=>(V.P j).2==0) 4 0 1
def mkW (V:VW) (i d0 d1 f0 f1 r0:Int):VW:=wS (wF (wF (wP V r0 Be1) f0 ⟨1,r0,1,0⟩) f1 ⟨2,r0,1,0⟩) i (setFd (setFd (V.S i).1 d0.toNat (f0+1)) d1.toNat (f1+1))
def E74 (V:VW) (i:Int):List Value × VW :=
 if (Ao0 V i).2≠0 then (U9 0 (Ao0 V i).2 false,V)
 else if (Z0 (V.S i).1 2).length<2 then (U9 0 124 false,V)
 else if (Ej7 V).length<2∨(Gv6 V).length=0 then (U9 0 123 false,V)
 else (U9 ((Z0 (V.S i).1 2).getD 0 0+16*(Z0 (V.S i).1 2).getD 1 0) 0 false,mkW V i ((Z0 (V.S i).1 2).getD 0 0) ((Z0 (V.S i).1 2).getD 1 0) ((Ej7 V).getD 0 0) ((Ej7 V).getD 1 0) ((Gv6 V).getD 0 0))
theorem Dx6 {l:List Int} {j:Nat} (h:j<l.length):l.getD j 0 ∈ l:=by
 rw [List.getD_eq_getElem?_getD,List.getElem?_eq_getElem h];exact List.getElem_mem _
theorem See.pipe {X:CX} {V:VW} (A:See X V) {i:Int} (hi:0≤i∧i<8):(Ds4 X i).1=(E74 V i).1∧See (Ds4 X i).2 (E74 V i).2:=by
 have es:=A.self hi
 have e1:Bg6 X=Ej7 V:=De5 12 0 2 fun j h1 h2=>by rw [A.f j (by omega)]
 have e2:Bp9 X=Gv6 V:=De5 4 0 1 fun j h1 h2=>by rw [A.p j (by omega)]
 unfold Ds4 E74
 rw [e1,e2,es]
 by_cases h1:(Ao0 V i).2=0
 case neg=>rw [if_pos h1,if_pos h1];exact ⟨rfl,A⟩
 have n1:¬ (Ao0 V i).2≠0:=by simpa using h1
 rw [if_neg n1,if_neg n1,A.s i hi]
 by_cases h2:(Z0 (V.S i).1 2).length<2
 ·rw [if_pos h2,if_pos h2];exact ⟨rfl,A⟩
 rw [if_neg h2,if_neg h2]
 by_cases h3:(Ej7 V).length<2∨(Gv6 V).length=0
 ·rw [if_pos h3,if_pos h3];exact ⟨rfl,A⟩
 rw [if_neg h3,if_neg h3]
 have hm:=A13 (fun j=>(V.S i).1.fds.getD j.toNat 0==0) 8 0 2
 have hd0:=hm _ (Dx6 (l:=Z0 (V.S i).1 2) (j:=0) (by omega))
 have hd1:=hm _ (Dx6 (l:=Z0 (V.S i).1 2) (j:=1) (by omega))
 have hf0:=A13 (fun j=>(V.F j).2==0) 12 0 2 _ (Dx6 (l:=Ej7 V) (j:=0) (by omega))
 have hf1:=A13 (fun j=>(V.F j).2==0) 12 0 2 _ (Dx6 (l:=Ej7 V) (j:=1) (by omega))
 have hr:=A13 (fun j=>(V.P j).2==0) 4 0 1 _ (Dx6 (l:=Gv6 V) (j:=0) (by omega))
 generalize (Z0 (V.S i).1 2).getD 0 0=d0 at hd0 ⊢
 generalize (Z0 (V.S i).1 2).getD 1 0=d1 at hd1 ⊢
 generalize (Ej7 V).getD 0 0=f0 at hf0 ⊢
 generalize (Ej7 V).getD 1 0=f1 at hf1 ⊢
 generalize (Gv6 V).getD 0 0=r0 at hr ⊢
 obtain ⟨_,_,_,_,m1,m2,m3,m4⟩:=G13 A.c hi (by rw [es];exact h1) (d0:=d0) (d1:=d1) (f0:=f0) (f1:=f1) (r0:=r0) (by omega) (by omega) (by omega) (by omega) (by omega) (by omega)
 refine ⟨rfl,m1,fun j hj=>?_,fun j hj=>?_,fun j hj=>?_⟩
 ·rw [m2 j hj,A.s i hi,A.s j hj];rfl
 ·rw [m3 j hj,A.f j hj];rfl
 ·rw [m4 j (by omega),A.p j hj];rfl
def D34 (V:VW):Nat→Int→Int
 | 0,_=>-1
 | m+1,i=>if (V.S i).2=0 then i else D34 V m (i+1)
theorem See.free {X:CX} {V:VW} (A:See X V):∀ (m:Nat) (i:Int),0≤i→i+m=8→Al8 X m i=D34 V m i
 | 0,_,_,_=>rfl
 | m+1,i,h0,hi=>by rw [Al8,D34,A.s i (by omega),A.free m (i+1) (by omega) (by omega)]
def Dj4 (V:VW) (more:List Int):List Int→Int
 | []=>0
 | f::l=>if f=0 then Dj4 V more l else if (V.F (f-1)).2≠1 then 105 else if (V.F (f-1)).1.refs+more.getD (f-1).toNat 0>64 then 123 else Dj4 V more l
theorem See.share {X:CX} {V:VW} (A:See X V) (more:List Int):∀ l:List Int,B32 l→Ae9 X more l=Dj4 V more l
 | [],_=>rfl
 | f::l,h=>by
  have hf:=h f (by simp)
  rw [Ae9,Dj4,A.share more l fun x hx=>h x (by simp [hx])]
  by_cases h0:f=0
  ·rw [if_pos h0,if_pos h0]
  ·rw [if_neg h0,if_neg h0,A.f (f-1) (by omega)]
def I46 (V:VW) (more:List Int):VW:=⟨V.S,fun j=>if more.getD j.toNat 0≠0 then (Ea7 (V.F j).1 (more.getD j.toNat 0),1) else V.F j,V.P⟩
def E63 (V:VW) (i:Int):List Value × VW :=
 if (Ao0 V i).2≠0 then (U9 0 (Ao0 V i).2 false,V)
 else if D34 V 8 0<0 then (U9 0 111 false,V)
 else if Dj4 V (Ao5 (V.S i).1) (V.S i).1.fds≠0 then (U9 0 (Dj4 V (Ao5 (V.S i).1) (V.S i).1.fds) false,V)
 else (U9 (D34 V 8 0) 0 false,wS (I46 V (Ao5 (V.S i).1)) (D34 V 8 0) (Bp8 (V.S i).1 i))
theorem See.fork {X:CX} {V:VW} (A:See X V) {i:Int} (hi:0≤i∧i<8):(Ef3 X i).1=(E63 V i).1∧See (Ef3 X i).2 (E63 V i).2:=by
 have es:=A.self hi
 have ef:=A.free 8 0 (by omega) (by omega)
 unfold Ef3 E63
 rw [ef]
 by_cases h1:(Ao0 V i).2=0
 case neg=>rw [es,if_pos h1,if_pos h1];exact ⟨rfl,A⟩
 have n1:¬ (Ao0 V i).2≠0:=by simpa using h1
 have n2:¬ (S9 X i).2≠0:=by rw [es];exact n1
 rw [if_neg n2,if_neg n1]
 by_cases h2:D34 V 8 0<0
 ·rw [if_pos h2,if_pos h2];exact ⟨rfl,A⟩
 rw [if_neg h2,if_neg h2]
 obtain ⟨s1,s2,s3,s4⟩:=Bx1 A.c hi (by rw [es];exact h1)
 rw [s1]
 have hfd:=E37 s3
 have hin:=Ee4 (rd X ⟨1,i⟩)
 have esh:=A.share (Ao5 (vS X i).1) _ hfd
 have hcl:=Eu9 A.c hfd
 have hno:=fun h=>G23 (X:=X) (p:=(vS X i).1) h
 have hm8:D34 V 8 0<8:=by
  rcases Ev6 (X:=X) 8 0 (by omega) (by omega) with h|h<;>omega
 have e1:(W2 X (vS X i).1).1=Ae9 X (Ao5 (vS X i).1) (vS X i).1.fds:=by
  unfold W2;split
  ·rename_i h;exact h.symm
  ·rfl
 rw [esh] at e1
 have hck:=Ha9 s3 s2 hi
 have hin2:InS (Bp8 (vS X i).1 i):=⟨by simp,hin.b,hin.c,hin.d⟩
 simp only
 rw [e1] at hcl hno ⊢
 rw [A.s i hi] at *
 by_cases h3:Dj4 V (Ao5 (V.S i).1) (V.S i).1.fds=0
 case neg=>rw [if_pos h3,if_pos h3];exact ⟨rfl,A⟩
 have n3:¬ Dj4 V (Ao5 (V.S i).1) (V.S i).1.fds≠0:=by simpa using h3
 rw [if_neg n3,if_neg n3]
 obtain ⟨a1,a2,a3,a4⟩:=hcl h3
 refine ⟨rfl,?_⟩
 have B:See (W2 X (V.S i).1).2 (I46 V (Ao5 (V.S i).1)):=⟨a1,fun j hj=>by rw [a2 j hj];exact A.s j hj,fun j hj=>by rw [a3 j hj,A.f j hj];rfl,fun j hj=>by rw [a4 j (by omega)];exact A.p j hj⟩
 exact B.ws (by omega) hck hin2
def V1:VW:=⟨fun j=>if j=0 then (p0,1) else (.zero,0),fun j=>if j=0 then (f0,1) else (.zero,0),fun j=>if j<4 then (.zero,0) else vP X1 j⟩
theorem Hc1:See X1 V1:=by
 refine ⟨It1,fun j hj=>?_,fun j hj=>?_,fun j hj=>?_⟩
 ·have:j=0∨j=1∨j=2∨j=3∨j=4∨j=5∨j=6∨j=7:=by omega
  rcases this with rfl|rfl|rfl|rfl|rfl|rfl|rfl|rfl<;>(clear hj;show (_:ProcS × Int)=_;kernel_rfl)
 ·have:j=0∨j=1∨j=2∨j=3∨j=4∨j=5∨j=6∨j=7∨j=8∨j=9∨j=10∨j=11:=by omega
  rcases this with rfl|rfl|rfl|rfl|rfl|rfl|rfl|rfl|rfl|rfl|rfl|rfl<;>(clear hj;show (_:FileS × Int)=_;kernel_rfl)
 ·by_cases h4:j<4
  ·have:j=0∨j=1∨j=2∨j=3:=by omega
   rcases this with rfl|rfl|rfl|rfl<;>(clear hj h4;show (_:PipeS × Int)=_;kernel_rfl)
  ·show _=if j<4 then _ else vP X1 j
   rw [if_neg h4]
abbrev rr (r:Int→Int) (v d:Int):Int→Int:=fun k=>if k=v then r k+d else r k
theorem VW.ext' {V V':VW} (h1:∀ j,V.S j=V'.S j) (h2:∀ j,V.F j=V'.F j) (h3:∀ j,V.P j=V'.P j):V=V':=by
 obtain ⟨a,b,c⟩:=V
 obtain ⟨a',b',c'⟩:=V'
 have e1:a=a':=funext h1
 have e2:b=b':=funext h2
 have e3:c=c':=funext h3
 rw [e1,e2,e3]
section
variable {ow:List Int} {h:ow.length=8} {r:Int→Int}
end
end Go.EQ
