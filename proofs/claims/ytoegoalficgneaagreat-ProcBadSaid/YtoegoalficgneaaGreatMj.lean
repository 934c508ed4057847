/- A process whose own record is bad is told EIO whatever it asks, and nobody's record is changed by it. -/
import Derived.Test.YtoegoalficgneaaGreatMi
set_option linter.all false
set_option maxRecDepth 10000
namespace Go.EQ
open Go Go.NN
section
variable {nc:Nat} {X:CX} (c:Clean nc X)
include c
abbrev De5 (X:CX) (i:Int) (p:PipeS):CX:=setR X ⟨3,i⟩ (D3 p)
abbrev G50 (X:CX) (i:Int):CX:=setR X ⟨2,i⟩ (List.replicate 8 0)
abbrev G49 (X:CX) (i:Int):CX:=setR X ⟨3,i⟩ (List.replicate 40 0)
theorem Eg0 {i:Int} (h:0≤i∧i<3+nc) {p:PipeS} (ok:okP p=true) :
  Gp5 X i p=(true,De5 X i p)∧Clean nc (De5 X i p)∧(∀ j:Int,0≤j∧j<8→vS (De5 X i p) j=vS X j)∧(∀ j:Int,0≤j∧j<12→vF (De5 X i p) j=vF X j)∧(∀ j:Int,0≤j∧j<3+nc→vP (De5 X i p) j=if j=i then (p,1) else vP X j):=by
 have hl:(D3 p).length=O6 (3:Int):=by rw [D10 p.len];rfl
 refine ⟨by unfold Gp5;rw [ok];exact B49 c (Bk0 h) _,B36 c (Bk0 h) hl (by show (D7 (D3 p)).2≠2;rw [Hr9 ok];simp),fun j hj=>?_,fun j hj=>?_,fun j hj=>?_⟩
 ·show H2 (rd _ _)=_
  rw [Ad7 c (Bk0 h) (Bj9 hj) hl,if_neg (by simp)]
 ·show J7 (rd _ _)=_
  rw [Ad7 c (Bk0 h) (Bj8 hj) hl,if_neg (by simp)]
 ·show D7 (rd _ _)=_
  rw [Ad7 c (Bk0 h) (Bk0 hj) hl]
  by_cases e:j=i
  ·rw [if_pos (by rw [e]),if_pos e];exact Hr9 ok
  ·rw [if_neg (by simp [e]),if_neg e]
theorem G01 {i:Int} (h:0≤i∧i<12) :
  Ds5 X ⟨2,i⟩=(true,G50 X i)∧Clean nc (G50 X i)∧(∀ j:Int,0≤j∧j<8→vS (G50 X i) j=vS X j)∧(∀ j:Int,0≤j∧j<12→vF (G50 X i) j=if j=i then (.zero,0) else vF X j)∧(∀ j:Int,0≤j∧j<3+nc→vP (G50 X i) j=vP X j):=by
 have hl:(List.replicate 8 (0:UInt8)).length=O6 (2:Int):=rfl
 refine ⟨B49 c (Bj8 h) _,B36 c (Bj8 h) hl (by show (J7 (List.replicate 8 0)).2≠2;rw [show (J7 (List.replicate 8 0))=(.zero,0) from rfl];simp),fun j hj=>?_,fun j hj=>?_,fun j hj=>?_⟩
 ·show H2 (rd _ _)=_
  rw [Ad7 c (Bj8 h) (Bj9 hj) hl,if_neg (by simp)]
 ·show J7 (rd _ _)=_
  rw [Ad7 c (Bj8 h) (Bj8 hj) hl]
  by_cases e:j=i
  ·rw [if_pos (by rw [e]),if_pos e];rfl
  ·rw [if_neg (by simp [e]),if_neg e]
 ·show D7 (rd _ _)=_
  rw [Ad7 c (Bj8 h) (Bk0 hj) hl,if_neg (by simp)]
theorem G62 {i:Int} (h:0≤i∧i<3+nc) :
  Ds5 X ⟨3,i⟩=(true,G49 X i)∧Clean nc (G49 X i)∧(∀ j:Int,0≤j∧j<8→vS (G49 X i) j=vS X j)∧(∀ j:Int,0≤j∧j<12→vF (G49 X i) j=vF X j)∧(∀ j:Int,0≤j∧j<3+nc→vP (G49 X i) j=if j=i then (.zero,0) else vP X j):=by
 have hl:(List.replicate 40 (0:UInt8)).length=O6 (3:Int):=rfl
 refine ⟨B49 c (Bk0 h) _,B36 c (Bk0 h) hl (by show (D7 (List.replicate 40 0)).2≠2;rw [show (D7 (List.replicate 40 0))=(.zero,0) from rfl];simp),fun j hj=>?_,fun j hj=>?_,fun j hj=>?_⟩
 ·show H2 (rd _ _)=_
  rw [Ad7 c (Bk0 h) (Bj9 hj) hl,if_neg (by simp)]
 ·show J7 (rd _ _)=_
  rw [Ad7 c (Bk0 h) (Bj8 hj) hl,if_neg (by simp)]
 ·show D7 (rd _ _)=_
  rw [Ad7 c (Bk0 h) (Bk0 hj) hl]
  by_cases e:j=i
  ·rw [if_pos (by rw [e]),if_pos e];rfl
  ·rw [if_neg (by simp [e]),if_neg e]
end
def SlOk (L:List (Int × ProcS)):Prop:=∀ s ∈ L,(0≤s.1∧s.1<8)∧okS s.2=true∧InS s.2
abbrev setFd (p:ProcS) (j:Nat) (f:Int):ProcS:=⟨p.state,p.parent,p.group,p.code,p.pending,p.mask,p.ignored,p.caught,p.fds.set j f,by rw [List.length_set];exact p.len⟩
theorem Gn5 {p:ProcS} (h:okS p=true) (h1:p.state=1) (j:Nat) {f:Int} (hf:0≤f∧f≤12):okS (setFd p j f)=true:=by
 have hd:=G00 h
 have hd2:B10 (setFd p j f).fds:=fun x hx=>by
  rcases List.mem_or_eq_of_mem_set hx with h2|rfl
  ·exact hd x h2
  ·exact hf
 unfold okS at h ⊢
 rw [if_neg (by rw [h1];decide)] at h
 rw [if_neg (show ¬ (setFd p j f).state=2 by show ¬ p.state=2;rw [h1];decide)]
 simp only [Bool.and_eq_true] at h ⊢
 refine ⟨h.1,h.2.1,?_,h.2.2.2⟩
 rw [Bool.not_eq_true',List.any_eq_false]
 intro x hx
 have:=hd2 x hx
 simp;omega
def H88 (X:CX) (i fd f:Int):List Value × CX :=
 if (O7 X i).2≠0 then (Q5 0 (O7 X i).2 false,X) else (Q5 fd 0 false,Dh4 X i (setFd (vS X i).1 fd.toNat (f+1)))
def Bf7 (q:Int→Bool):Nat→Int→Nat→List Int
 | 0,_,_=>[]
 | _+1,_,0=>[]
 | m+1,i,w+1=>if q i=true then i::Bf7 q m (i+1) w else Bf7 q m (i+1) (w+1)
theorem B50 (q:Int→Bool):∀ (m:Nat) (i:Int) (w:Nat),∀ x ∈ Bf7 q m i w,i≤x∧x<i+m∧q x=true
 | 0,_,_,x,hx=>by simp [Bf7] at hx
 | _+1,_,0,x,hx=>by simp [Bf7] at hx
 | m+1,i,w+1,x,hx=>by
  unfold Bf7 at hx
  split at hx
  ·rename_i hq
   rcases List.mem_cons.1 hx with rfl|h
   ·exact ⟨by omega,by omega,hq⟩
   ·have:=B50 q m (i+1) w x h
    exact ⟨by omega,by omega,this.2.2⟩
  ·have:=B50 q m (i+1) (w+1) x hx
   exact ⟨by omega,by omega,this.2.2⟩
abbrev Aw7 (p:ProcS) (w:Nat):List Int:=Bf7 (fun j=>p.fds.getD j.toNat 0==0) 8 0 w
def hcC (bh b k:Nat) (F:Fr) (X:CX):HP:=hex fun _:Unit=>sl [pt bh (.cells Dd5 false [P0 b]),cmC b k F X]
instance {bh b k:Nat} {F:Fr} {X:CX}:Chk (hcC bh b k F X) (fun _:Unit=>[pt bh (.cells Dd5 false [P0 b]),cmC b k F X]):=⟨rfl⟩
def Dw1:PipeS:=⟨0,0,1,1,[0,0,0,0,0,0,0,0,0,0,0,0,0,0,0,0,0,0,0,0,0,0,0,0,0,0,0,0,0,0,0,0],rfl⟩
abbrev Gd4 (X:CX):List Int:=Bf7 (fun j=>(vF X j).2==0) 12 0 2
abbrev G28 (X:CX):List Int:=Bf7 (fun j=>(vP X j).2==0) 4 0 1
def B88 (X:CX) (i d0 d1 f0 f1 r0:Int):CX :=
 Dh4 (Bk1 (Bk1 (De5 X r0 Dw1) f0 ⟨1,r0,1,0⟩) f1 ⟨2,r0,1,0⟩) i (setFd (setFd (vS X i).1 d0.toNat (f0+1)) d1.toNat (f1+1))
def G25 (X:CX) (i:Int):List Value × CX :=
 if (O7 X i).2≠0 then (Q5 0 (O7 X i).2 false,X)
 else if (Aw7 (vS X i).1 2).length<2 then (Q5 0 124 false,X)
 else if (Gd4 X).length<2∨(G28 X).length=0 then (Q5 0 123 false,X)
 else (Q5 ((Aw7 (vS X i).1 2).getD 0 0+16*(Aw7 (vS X i).1 2).getD 1 0) 0 false,B88 X i ((Aw7 (vS X i).1 2).getD 0 0) ((Aw7 (vS X i).1 2).getD 1 0) ((Gd4 X).getD 0 0) ((Gd4 X).getD 1 0) ((G28 X).getD 0 0))
theorem Il8 {nc:Nat} {X:CX} (c:Clean nc X) {i:Int} (hi:0≤i∧i<8) (hs:(O7 X i).2=0) {d0 d1 f0 f1 r0:Int} (hd0:0≤d0∧d0<8) (hd1:0≤d1∧d1<8) (hf0:0≤f0∧f0<12) (hf1:0≤f1∧f1<12) (hr:0≤r0∧r0<4) (hn:r0<3+(nc:Int)) :
  Gp5 X r0 Dw1=(true,De5 X r0 Dw1)∧Bo8 (De5 X r0 Dw1) f0 ⟨1,r0,1,0⟩=(true,Bk1 (De5 X r0 Dw1) f0 ⟨1,r0,1,0⟩) ∧
  Bo8 (Bk1 (De5 X r0 Dw1) f0 ⟨1,r0,1,0⟩) f1 ⟨2,r0,1,0⟩=(true,Bk1 (Bk1 (De5 X r0 Dw1) f0 ⟨1,r0,1,0⟩) f1 ⟨2,r0,1,0⟩) ∧
  B27 (Bk1 (Bk1 (De5 X r0 Dw1) f0 ⟨1,r0,1,0⟩) f1 ⟨2,r0,1,0⟩) i (setFd (setFd (vS X i).1 d0.toNat (f0+1)) d1.toNat (f1+1))=(true,B88 X i d0 d1 f0 f1 r0) ∧
  Clean nc (B88 X i d0 d1 f0 f1 r0)∧(∀ j:Int,0≤j∧j<8→vS (B88 X i d0 d1 f0 f1 r0) j=if j=i then (setFd (setFd (vS X i).1 d0.toNat (f0+1)) d1.toNat (f1+1),1) else vS X j) ∧
  (∀ j:Int,0≤j∧j<12→vF (B88 X i d0 d1 f0 f1 r0) j=if j=f1 then (⟨2,r0,1,0⟩,1) else if j=f0 then (⟨1,r0,1,0⟩,1) else vF X j) ∧
  (∀ j:Int,0≤j∧j<3+nc→vP (B88 X i d0 d1 f0 f1 r0) j=if j=r0 then (Dw1,1) else vP X j):=by
 obtain ⟨s1,s2,s3,s4⟩:=Ek4 c hi hs
 have hin:=Gc6 (rd X ⟨1,i⟩)
 obtain ⟨a1,a2,a3,a4,a5⟩:=Eg0 c (i:=r0) (by omega) (p:=Dw1) rfl
 obtain ⟨b1,b2,b3,b4,b5⟩:=Aw5 a2 hf0 (f:=⟨1,r0,1,0⟩) (by simp [okF];omega)
 obtain ⟨c1,c2,c3,c4,c5⟩:=Aw5 b2 hf1 (f:=⟨2,r0,1,0⟩) (by simp [okF];omega)
 have hq:=Gn5 (Gn5 s3 s2 d0.toNat (f:=f0+1) (by omega)) s2 d1.toNat (f:=f1+1) (by omega)
 obtain ⟨e1,e2,e3,e4,e5⟩:=Br9 c2 hi hq ⟨hin.a,hin.b,hin.c,hin.d⟩
 refine ⟨a1,b1,c1,e1,e2,fun j hj=>?_,fun j hj=>?_,fun j hj=>?_⟩
 ·rw [show B88 X i d0 d1 f0 f1 r0=Dh4 _ _ _ from rfl,e3 j hj,c3 j hj,b3 j hj,a3 j hj]
 ·rw [show B88 X i d0 d1 f0 f1 r0=Dh4 _ _ _ from rfl,e4 j hj,c4 j hj,b4 j hj,a4 j hj]
 ·rw [show B88 X i d0 d1 f0 f1 r0=Dh4 _ _ _ from rfl,e5 j hj,c5 j hj,b5 j hj,a5 j hj]
structure VW where
 S:Int→ProcS × Int
 F:Int→FileS × Int
 P:Int→PipeS × Int
structure See (X:CX) (V:VW):Prop where
 c:Clean 3 X
 s:∀ j:Int,0≤j∧j<8→vS X j=V.S j
 f:∀ j:Int,0≤j∧j<12→vF X j=V.F j
 p:∀ j:Int,0≤j∧j<6→vP X j=V.P j
theorem See.to {X:CX} {V V':VW} (A:See X V) (hs:∀ j:Int,0≤j∧j<8→V.S j=V'.S j) (hf:∀ j:Int,0≤j∧j<12→V.F j=V'.F j) (hp:∀ j:Int,0≤j∧j<6→V.P j=V'.P j):See X V' :=
 ⟨A.c,fun j h=>(A.s j h).trans (hs j h),fun j h=>(A.f j h).trans (hf j h),fun j h=>(A.p j h).trans (hp j h)⟩
def wS (V:VW) (i:Int) (p:ProcS):VW:=⟨fun j=>if j=i then (p,1) else V.S j,V.F,V.P⟩
def wF (V:VW) (i:Int) (x:FileS):VW:=⟨V.S,fun j=>if j=i then (x,1) else V.F j,V.P⟩
def wP (V:VW) (i:Int) (x:PipeS):VW:=⟨V.S,V.F,fun j=>if j=i then (x,1) else V.P j⟩
def oF (V:VW) (i:Int):VW:=⟨V.S,fun j=>if j=i then (.zero,0) else V.F j,V.P⟩
def oP (V:VW) (i:Int):VW:=⟨V.S,V.F,fun j=>if j=i then (.zero,0) else V.P j⟩
section
variable {X:CX} {V:VW} (A:See X V)
include A
theorem See.ws {i:Int} (hi:0≤i∧i<8) {p:ProcS} (ok:okS p=true) (r:InS p):See (Dh4 X i p) (wS V i p):=by
 obtain ⟨_,w2,w3,w4,w5⟩:=Br9 A.c hi ok r
 exact ⟨w2,fun j h=>by rw [w3 j h,A.s j h];rfl,fun j h=>by rw [w4 j h];exact A.f j h,fun j h=>by rw [w5 j (by omega)];exact A.p j h⟩
theorem See.wf {i:Int} (hi:0≤i∧i<12) {x:FileS} (ok:okF x=true):See (Bk1 X i x) (wF V i x):=by
 obtain ⟨_,w2,w3,w4,w5⟩:=Aw5 A.c hi ok
 exact ⟨w2,fun j h=>by rw [w3 j h];exact A.s j h,fun j h=>by rw [w4 j h,A.f j h];rfl,fun j h=>by rw [w5 j (by omega)];exact A.p j h⟩
theorem See.wp {i:Int} (hi:0≤i∧i<6) {x:PipeS} (ok:okP x=true):See (De5 X i x) (wP V i x):=by
 obtain ⟨_,w2,w3,w4,w5⟩:=Eg0 A.c (i:=i) (by omega) ok
 exact ⟨w2,fun j h=>by rw [w3 j h];exact A.s j h,fun j h=>by rw [w4 j h];exact A.f j h,fun j h=>by rw [w5 j (by omega),A.p j h];rfl⟩
theorem See.of {i:Int} (hi:0≤i∧i<12):See (G50 X i) (oF V i):=by
 obtain ⟨_,w2,w3,w4,w5⟩:=G01 A.c hi
 exact ⟨w2,fun j h=>by rw [w3 j h];exact A.s j h,fun j h=>by rw [w4 j h,A.f j h];rfl,fun j h=>by rw [w5 j (by omega)];exact A.p j h⟩
theorem See.op {i:Int} (hi:0≤i∧i<6):See (G49 X i) (oP V i):=by
 obtain ⟨_,w2,w3,w4,w5⟩:=G62 A.c (i:=i) (by omega)
 exact ⟨w2,fun j h=>by rw [w3 j h];exact A.s j h,fun j h=>by rw [w4 j h];exact A.f j h,fun j h=>by rw [w5 j (by omega),A.p j h];rfl⟩
end
def B58 (V:VW) (i:Int):ProcS × Int:=if (V.S i).2=1∧(V.S i).1.state=1 then ((V.S i).1,0) else (.zero,105)
theorem See.self {X:CX} {V:VW} (A:See X V) {i:Int} (hi:0≤i∧i<8):O7 X i=B58 V i:=by unfold O7 B58;rw [A.s i hi]
def Ic7 (V:VW) (i fd f:Int):List Value × VW :=
 if (B58 V i).2≠0 then (Q5 0 (B58 V i).2 false,V) else (Q5 fd 0 false,wS V i (setFd (V.S i).1 fd.toNat (f+1)))
theorem See.setFd {X:CX} {V:VW} (A:See X V) {i:Int} (hi:0≤i∧i<8) (h:(B58 V i).2=0) (j:Nat) {f:Int} (hf:0≤f∧f≤12):See (Dh4 X i (EQ.setFd (vS X i).1 j f)) (wS V i (EQ.setFd (V.S i).1 j f)):=by
 have es:=A.self hi
 obtain ⟨s1,s2,s3,s4⟩:=Ek4 A.c hi (by rw [es];exact h)
 have hin:=Gc6 (rd X ⟨1,i⟩)
 have:=A.ws hi (Gn5 s3 s2 j hf) ⟨hin.a,hin.b,hin.c,hin.d⟩
 have e:EQ.setFd (V.S i).1 j f=EQ.setFd (vS X i).1 j f:=by rw [A.s i hi]
 rw [e];exact this
theorem See.name {X:CX} {V:VW} (A:See X V) {i:Int} (hi:0≤i∧i<8) (fd:Int) {f:Int} (hf:0≤f∧f<12):(H88 X i fd f).1=(Ic7 V i fd f).1∧See (H88 X i fd f).2 (Ic7 V i fd f).2:=by
 have es:=A.self hi
 unfold H88 Ic7
 rw [es]
 by_cases h1:(B58 V i).2=0
 case neg=>rw [if_pos h1,if_pos h1];exact ⟨rfl,A⟩
 have n1:¬ (B58 V i).2≠0:=by simpa using h1
 rw [if_neg n1,if_neg n1]
 exact ⟨rfl,A.setFd hi h1 fd.toNat (by omega)⟩
theorem Dk0 {q q':Int→Bool}:∀ (m:Nat) (i:Int) (w:Nat),(∀ j:Int,i≤j→j<i+m→q j=q' j)→Bf7 q m i w=Bf7 q' m i w
 | 0,_,_,_=>rfl
 | _+1,_,0,_=>rfl
 | m+1,i,w+1,h=>by
  rw [Bf7,Bf7,h i (by omega) (by omega),Dk0 m (i+1) w fun j h1 h2=>h j (by omega) (by omega),Dk0 m (i+1) (w+1) fun j h1 h2=>h j (by omega) (by omega)]
abbrev El2 (V:VW):List Int:=Bf7 (fun j=>(V.F j).2==0) 12 0 2
abbrev G42 (V:VW):List Int:=Bf7 (fun j=>(V.P j).2==0) 4 0 1
def mkW (V:VW) (i d0 d1 f0 f1 r0:Int):VW:=wS (wF (wF (wP V r0 Dw1) f0 ⟨1,r0,1,0⟩) f1 ⟨2,r0,1,0⟩) i (setFd (setFd (V.S i).1 d0.toNat (f0+1)) d1.toNat (f1+1))
def Id0 (V:VW) (i:Int):List Value × VW :=
 if (B58 V i).2≠0 then (Q5 0 (B58 V i).2 false,V)
 else if (Aw7 (V.S i).1 2).length<2 then (Q5 0 124 false,V)
 else if (El2 V).length<2∨(G42 V).length=0 then (Q5 0 123 false,V)
 else (Q5 ((Aw7 (V.S i).1 2).getD 0 0+16*(Aw7 (V.S i).1 2).getD 1 0) 0 false,mkW V i ((Aw7 (V.S i).1 2).getD 0 0) ((Aw7 (V.S i).1 2).getD 1 0) ((El2 V).getD 0 0) ((El2 V).getD 1 0) ((G42 V).getD 0 0))
theorem Dz8 {l:List Int} {j:Nat} (h:j<l.length):l.getD j 0 ∈ l:=by
 rw [List.getD_eq_getElem?_getD,List.getElem?_eq_getElem h];exact List.getElem_mem _
theorem See.pipe {X:CX} {V:VW} (A:See X V) {i:Int} (hi:0≤i∧i<8):(G25 X i).1=(Id0 V i).1∧See (G25 X i).2 (Id0 V i).2:=by
 have es:=A.self hi
 have e1:Gd4 X=El2 V:=Dk0 12 0 2 fun j h1 h2=>by rw [A.f j (by omega)]
 have e2:G28 X=G42 V:=Dk0 4 0 1 fun j h1 h2=>by rw [A.p j (by omega)]
 unfold G25 Id0
 rw [e1,e2,es]
 by_cases h1:(B58 V i).2=0
 case neg=>rw [if_pos h1,if_pos h1];exact ⟨rfl,A⟩
 have n1:¬ (B58 V i).2≠0:=by simpa using h1
 rw [if_neg n1,if_neg n1,A.s i hi]
 by_cases h2:(Aw7 (V.S i).1 2).length<2
 ·rw [if_pos h2,if_pos h2];exact ⟨rfl,A⟩
 rw [if_neg h2,if_neg h2]
 by_cases h3:(El2 V).length<2∨(G42 V).length=0
 ·rw [if_pos h3,if_pos h3];exact ⟨rfl,A⟩
 rw [if_neg h3,if_neg h3]
 have hm:=B50 (fun j=>(V.S i).1.fds.getD j.toNat 0==0) 8 0 2
 have hd0:=hm _ (Dz8 (l:=Aw7 (V.S i).1 2) (j:=0) (by omega))
 have hd1:=hm _ (Dz8 (l:=Aw7 (V.S i).1 2) (j:=1) (by omega))
 have hf0:=B50 (fun j=>(V.F j).2==0) 12 0 2 _ (Dz8 (l:=El2 V) (j:=0) (by omega))
 have hf1:=B50 (fun j=>(V.F j).2==0) 12 0 2 _ (Dz8 (l:=El2 V) (j:=1) (by omega))
 have hr:=B50 (fun j=>(V.P j).2==0) 4 0 1 _ (Dz8 (l:=G42 V) (j:=0) (by omega))
 generalize (Aw7 (V.S i).1 2).getD 0 0=d0 at hd0 ⊢
 generalize (Aw7 (V.S i).1 2).getD 1 0=d1 at hd1 ⊢
 generalize (El2 V).getD 0 0=f0 at hf0 ⊢
 generalize (El2 V).getD 1 0=f1 at hf1 ⊢
 generalize (G42 V).getD 0 0=r0 at hr ⊢
 obtain ⟨_,_,_,_,m1,m2,m3,m4⟩:=Il8 A.c hi (by rw [es];exact h1) (d0:=d0) (d1:=d1) (f0:=f0) (f1:=f1) (r0:=r0) (by omega) (by omega) (by omega) (by omega) (by omega) (by omega)
 refine ⟨rfl,m1,fun j hj=>?_,fun j hj=>?_,fun j hj=>?_⟩
 ·rw [m2 j hj,A.s i hi,A.s j hj];rfl
 ·rw [m3 j hj,A.f j hj];rfl
 ·rw [m4 j (by omega),A.p j hj];rfl
def Gr3 (V:VW) (more:List Int):List Int→Int
 | []=>0
 | f::l=>if f=0 then Gr3 V more l else if (V.F (f-1)).2≠1 then 105 else if (V.F (f-1)).1.refs+more.getD (f-1).toNat 0>64 then 123 else Gr3 V more l
theorem See.share {X:CX} {V:VW} (A:See X V) (more:List Int):∀ l:List Int,B10 l→Ag7 X more l=Gr3 V more l
 | [],_=>rfl
 | f::l,h=>by
  have hf:=h f (by simp)
  rw [Ag7,Gr3,A.share more l fun x hx=>h x (by simp [hx])]
  by_cases h0:f=0
  ·rw [if_pos h0,if_pos h0]
  ·rw [if_neg h0,if_neg h0,A.f (f-1) (by omega)]
abbrev rr (r:Int→Int) (v d:Int):Int→Int:=fun k=>if k=v then r k+d else r k
theorem VW.ext' {V V':VW} (h1:∀ j,V.S j=V'.S j) (h2:∀ j,V.F j=V'.F j) (h3:∀ j,V.P j=V'.P j):V=V':=by
 obtain ⟨a,b,c⟩:=V
 obtain ⟨a',b',c'⟩:=V'
 have e1:a=a':=funext h1
 have e2:b=b':=funext h2
 have e3:c=c':=funext h3
 rw [e1,e2,e3]
section
variable {ow:List Int} {h:ow.length=8} {r:Int→Int}
end
abbrev I05:List Value:=[int 0,int 0,int 0,int 0,int 0,int 0,int 0,int 0,int 0,int 0,int 0,int 0,int 0,int 0,int 0,int 0]
def Gv5 (V:VW) (q:Int→ProcS→Bool):Nat→Int→List (Int × ProcS)
 | 0,_=>[]
 | m+1,i=>if (V.S i).2=1∧q i (V.S i).1=true then (i,(V.S i).1)::Gv5 V q m (i+1) else Gv5 V q m (i+1)
theorem See.slots {X V} (A:See X V) (q:Int→ProcS→Bool):∀ (m:Nat) (i:Int),0≤i→i+m≤8→V5 X q m i=Gv5 V q m i
 | 0,_,_,_=>rfl
 | m+1,i,h0,hm=>by rw [V5,Gv5,A.slots q m (i+1) (by omega) (by omega),A.s i (by omega)]
instance {j:Int} {p:ProcS}:PartC (int j::B6 p) 1 16 (B6 p):=⟨by
 unfold Di5
 rw [Nat.ble_eq_true_of_le (by rw [Bb6];omega),List.drop_succ_cons,List.drop_zero,List.take_of_length_le (by rw [Av7];omega)];rfl⟩
structure NoS (X X':CX) (i:Int):Prop where
 look:D68 X=X'
 none:Dj7 X' i=((.zero,2),X')
theorem Ix7 {nc:Nat} {i:Int} (h:¬ (0≤i∧i<8)):E3 nc ⟨1,i⟩=none:=by
 unfold E3;rw [if_pos (by simp [I1];omega)]
theorem NoS.out {nc:Nat} {X:CX} (c:Clean nc X) {i:Int} (h:¬ (0≤i∧i<8)):NoS X X i :=
 ⟨Gy1 c,by show M0 H2 _ _ _=_;unfold M0 rdX;rw [Ix7 h]⟩
section
variable (b k:Nat) (F:Fr) (ok:FrOk F) {X X':CX} {i:Int} (N:NoS X X' i)
include ok N
theorem Dw4:Ct A3 Ac2 [P0 b,int i] [cmC b k F X] fun v own=>v=.tuple ⟨[.agg ⟨I05⟩,int 105]⟩∧own [cmC b k F X']:=by
 refine Ct.of Gg4 rfl fun h r=>Tr.eq (Gh0 ..) ?_;refine Je ?_
 (refine Jc ?_;intros)
 refine Yn fun b0 h=>?_
 refine Yc (H47 b k F X ok) ?_;rintro _ h ⟨rfl,o⟩<;>refine Jh o ?_
 rw [N.look]
 (refine Ja ?_;intros)
 refine Yc (D03 b k F X' ok i) ?_;rintro _ h ⟨rfl,o⟩<;>refine Jh o ?_
 rw [N.none]
 dsimp only
 (refine Jc ?_;intros)
 refine Yn fun b1 h=>?_
 (refine Jb ?_;intros)
 refine Tr.orG (c:=true) (fun hb=>?_) ?_
 ·exact Jz
 refine Yt (by simp) ?_
 (refine Ja ?_;intros)
 refine Ys fun o=>?_
 exact ⟨rfl,o.sub⟩
theorem Hj1:Ct A3 A53 [P0 b,int i] [cmC b k F X] fun v own=>v=.agg ⟨Q5 0 105 false⟩∧own [cmC b k F X']:=by
 refine Ct.of Gj6 rfl fun h r=>Tr.eq (Gi8 ..) ?_;refine Je ?_
 refine Yn fun b0 h=>?_
 refine Yc (Dw4 b k F ok N) ?_;rintro _ h ⟨rfl,o⟩<;>refine Jh o ?_
 (refine Jc ?_;intros)
 refine Yn fun b1 h=>?_
 (refine Ja ?_;intros)
 refine Yt rfl ?_
 refine Yc (Bi9 105) ?_;rintro _ h ⟨rfl,o⟩<;>(refine Jf o ?_;intros)
 refine Ys fun o=>?_
 exact ⟨rfl,o.sub⟩
theorem Ir8 (code:Int):Ct A3 Dj1 [P0 b,int i,int code] [cmC b k F X] fun v own=>v=.agg ⟨Q5 0 105 false⟩∧own [cmC b k F X']:=by
 refine Ct.of Hy4 rfl fun h r=>Tr.eq (H17 ..) ?_;refine Je ?_
 refine Yn fun b0 h=>?_
 refine Yc (Dw4 b k F ok N) ?_;rintro _ h ⟨rfl,o⟩<;>refine Jh o ?_
 (refine Jc ?_;intros)
 refine Yn fun b1 h=>?_
 (refine Jb ?_;intros)
 refine Yt rfl ?_
 refine Yc (Bi9 105) ?_;rintro _ h ⟨rfl,o⟩<;>(refine Jf o ?_;intros)
 refine Ys fun o=>?_
 exact ⟨rfl,o.sub⟩
theorem Iu2:Ct A3 Ab8 [P0 b,int i] [cmC b k F X] fun v own=>v=.agg ⟨Q5 0 105 false⟩∧own [cmC b k F X']:=by
 refine Ct.of Dk1 rfl fun h r=>Tr.eq (Gg6 ..) ?_;refine Je ?_
 refine Yn fun b0 h=>?_
 refine Yn fun b4 h=>?_
 (refine Ja ?_;intros)
 refine Yc (Dw4 b k F ok N) ?_;rintro _ h ⟨rfl,o⟩<;>refine Jh o ?_
 (refine Jc ?_;intros)
 refine Yn fun b1 h=>?_
 (refine Jb ?_;intros)
 refine Yt rfl ?_
 refine Yc (Bi9 105) ?_;rintro _ h ⟨rfl,o⟩<;>(refine Jf o ?_;intros)
 refine Ys fun o=>?_
 exact ⟨rfl,o.sub⟩
theorem Ir1 (t n:Int):Ct A3 Bx2 [P0 b,int i,int t,int n] [cmC b k F X] fun v own=>v=.agg ⟨Q5 0 105 false⟩∧own [cmC b k F X']:=by
 refine Ct.of Hw4 rfl fun h r=>Tr.eq (H24 ..) ?_;refine Je ?_
 refine Yn fun b0 h=>?_
 refine Yc (Dw4 b k F ok N) ?_;rintro _ h ⟨rfl,o⟩<;>refine Jh o ?_
 (refine Jc ?_;intros)
 refine Yn fun b1 h=>?_
 (refine Jb ?_;intros)
 refine Yt rfl ?_
 refine Yc (Bi9 105) ?_;rintro _ h ⟨rfl,o⟩<;>(refine Jf o ?_;intros)
 refine Ys fun o=>?_
 exact ⟨rfl,o.sub⟩
end
end Go.EQ
