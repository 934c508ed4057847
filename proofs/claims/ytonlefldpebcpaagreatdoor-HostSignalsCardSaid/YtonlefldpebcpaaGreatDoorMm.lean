/- A blocked call ends when a signal that is caught comes, and tells so; one that ends the process ends it with that code; one that is ignored, or kept off, does nothing. -/
import Derived.Test.YtonlefldpebcpaaGreatDoorMl
import Derived.MakeChecks
import Derived.Test.YtonlefldpebcpaaGreatDoorCards
import Derived.Test.YtonlefldpebcpaaGreatDoorTie
import Derived.LaidMore
import Derived.OpenShut
import Derived.Stop.Joined
import Derived.ProofKit
import Derived.SevenTiedAt
set_option linter.all false
set_option maxRecDepth 10000
namespace Go.EQ
open Go Go.NN Go.Proofs
def pH (n how:Int):ProcS:=if how=3 then Iz3 pC (M0 n) else H06 pC n how
def VH (n how:Int):VW:=wS VQ 1 (pH n how)
def pR (n how:Int):ProcS:=Bg9 (pH n how) n
def VR (n how:Int):VW:=wS (VH n how) 1 (pR n how)
structure HsOk (n how:Int):Prop where
 ok:okS (pH n how)=true
 i:InS (pH n how)
 s:(pH n how).state=1
 z:(pH n how).pending=0
 o:ofW (VH n how) 1 1=((1,⟨1,0,2,0⟩),0)
 rs:(pR n how).state=1
 ro:ofW (VR n how) 1 1=((1,⟨1,0,2,0⟩),0)
 m:D5 .i64 (M0 n) 16896=0∧0≤M0 n∧M0 n≤65535
theorem Ge9 {P:Int→Prop} {n:Int} (h:1≤n∧n≤8) (h1:P 1) (h2:P 2) (h3:P 3) (h4:P 4) (h5:P 5) (h6:P 6) (h7:P 7) (h8:P 8):P n:=by
 have:n=1∨n=2∨n=3∨n=4∨n=5∨n=6∨n=7∨n=8:=by omega
 rcases this with rfl|rfl|rfl|rfl|rfl|rfl|rfl|rfl<;>assumption
theorem Ka4 {n how:Int} (hn:1≤n∧n≤8) (hh:0≤how∧how≤3):HsOk n how:=by
 obtain rfl|rfl|rfl|rfl:how=0∨how=1∨how=2∨how=3:=by omega
 ·exact Ge9 (P:=fun n=>HsOk n 0) hn (by constructor<;>first|kernel_rfl|decide|(constructor<;>decide)) (by constructor<;>first|kernel_rfl|decide|(constructor<;>decide)) (by constructor<;>first|kernel_rfl|decide|(constructor<;>decide)) (by constructor<;>first|kernel_rfl|decide|(constructor<;>decide)) (by constructor<;>first|kernel_rfl|decide|(constructor<;>decide)) (by constructor<;>first|kernel_rfl|decide|(constructor<;>decide)) (by constructor<;>first|kernel_rfl|decide|(constructor<;>decide)) (by constructor<;>first|kernel_rfl|decide|(constructor<;>decide))
 ·exact Ge9 (P:=fun n=>HsOk n 1) hn (by constructor<;>first|kernel_rfl|decide|(constructor<;>decide)) (by constructor<;>first|kernel_rfl|decide|(constructor<;>decide)) (by constructor<;>first|kernel_rfl|decide|(constructor<;>decide)) (by constructor<;>first|kernel_rfl|decide|(constructor<;>decide)) (by constructor<;>first|kernel_rfl|decide|(constructor<;>decide)) (by constructor<;>first|kernel_rfl|decide|(constructor<;>decide)) (by constructor<;>first|kernel_rfl|decide|(constructor<;>decide)) (by constructor<;>first|kernel_rfl|decide|(constructor<;>decide))
 ·exact Ge9 (P:=fun n=>HsOk n 2) hn (by constructor<;>first|kernel_rfl|decide|(constructor<;>decide)) (by constructor<;>first|kernel_rfl|decide|(constructor<;>decide)) (by constructor<;>first|kernel_rfl|decide|(constructor<;>decide)) (by constructor<;>first|kernel_rfl|decide|(constructor<;>decide)) (by constructor<;>first|kernel_rfl|decide|(constructor<;>decide)) (by constructor<;>first|kernel_rfl|decide|(constructor<;>decide)) (by constructor<;>first|kernel_rfl|decide|(constructor<;>decide)) (by constructor<;>first|kernel_rfl|decide|(constructor<;>decide))
 ·exact Ge9 (P:=fun n=>HsOk n 3) hn (by constructor<;>first|kernel_rfl|decide|(constructor<;>decide)) (by constructor<;>first|kernel_rfl|decide|(constructor<;>decide)) (by constructor<;>first|kernel_rfl|decide|(constructor<;>decide)) (by constructor<;>first|kernel_rfl|decide|(constructor<;>decide)) (by constructor<;>first|kernel_rfl|decide|(constructor<;>decide)) (by constructor<;>first|kernel_rfl|decide|(constructor<;>decide)) (by constructor<;>first|kernel_rfl|decide|(constructor<;>decide)) (by constructor<;>first|kernel_rfl|decide|(constructor<;>decide))
theorem Kb3 {n:Int} (hn:1≤n∧n≤8):SigT n:=⟨by omega⟩
theorem J89 {n how:Int} (hn:1≤n∧n≤8) (hh:how=1∨how=3):Bs3 (pR n how)=0:=by
 rcases hh with rfl|rfl
 ·exact Ge9 (P:=fun n=>Bs3 (pR n 1)=0) hn (by kernel_rfl) (by kernel_rfl) (by kernel_rfl) (by kernel_rfl) (by kernel_rfl) (by kernel_rfl) (by kernel_rfl) (by kernel_rfl)
 ·exact Ge9 (P:=fun n=>Bs3 (pR n 3)=0) hn (by kernel_rfl) (by kernel_rfl) (by kernel_rfl) (by kernel_rfl) (by kernel_rfl) (by kernel_rfl) (by kernel_rfl) (by kernel_rfl)
def pD (n:Int):ProcS:=Bo4 (pR n 0) (pR n 0).state (H05 (pR n 0) n)
def VX (n:Int):VW:=(Gt1 (wS (VR n 0) 1 (pD n)) 1 (128+n)).2
def VY (n:Int):VW:=(Gs8 (VX n) 0).2
structure HsD (n:Int):Prop where
 o:Bs3 (pR n 0)=M0 n
 w:E10 (pR n 0) n=4
 k:okS (pD n)=true
 i:InS (pD n)
 x:(VX n).S 0=(pB,1)
 y:Gs8 (VX n) 0=(I2 (384+n) 0 false,VY n)
 z:(VY n).S 0=(pB,1)
theorem Kb6 {n:Int} (hn:1≤n∧n≤8):HsD n:=by
 refine Ge9 (P:=HsD) hn ?_ ?_ ?_ ?_ ?_ ?_ ?_ ?_
 all_goals exact ⟨by kernel_rfl,by kernel_rfl,by kernel_rfl,by constructor<;>decide,by kernel_rfl,Prod.ext (by kernel_rfl) rfl,by kernel_rfl⟩
def pK (n:Int):ProcS:=Bo4 (pR n 2) (pR n 2).state (H05 (pR n 2) n)
structure HsC (n:Int):Prop where
 o:Bs3 (pR n 2)=M0 n
 w:E10 (pR n 2) n=2
 q:Bs3 (pK n)=0
 k:okS (pK n)=true
 i:InS (pK n)
theorem Ka9 {n:Int} (hn:1≤n∧n≤8):HsC n:=by
 refine Ge9 (P:=HsC) hn ?_ ?_ ?_ ?_ ?_ ?_ ?_ ?_
 all_goals exact ⟨by kernel_rfl,by kernel_rfl,by kernel_rfl,by kernel_rfl,by constructor<;>decide⟩
theorem Jt8:VQ.P 0=(Bb3,1):=by kernel_rfl
theorem J91 {n how:Int} (H:HsOk n how):∀ (c k:Nat) (F:Fr) (X:CX),FrOk F→See X (VH n how)→DoJ c k F X (VH n how) 1 10 1 5 [] 0 0 [] true:=fun c k F X ok A=>by
 have e:=J00 (V:=VH n how) (j:=0) (q:=Bb3) Jt8;have r1:=J25 (q:=Bb3) H.o (n:=5) (by omega);have r2:=J56 (q:=Bb3) H.o;have r3:=Ka1 (q:=Bb3) 5 H.o (by omega);rw [e] at r1 r2 r3;exact H75 ok A (by omega) (I49 ok A (by omega) 1 5 [] r2 r3 (r1.trans rfl))
theorem z5b:(D0 Z5 0 0).1.1=6∧W6 (D0 Z5 0 0).2 0 6=true:=⟨by kernel_rfl,by kernel_rfl⟩
end Go.EQ

set_option maxRecDepth 10000
namespace Go.EQ
open Go Go.NN Go.Proofs
section
variable (k hb q0 q1 q2 q3:Nat) (a:Option Addr) (ac:Nat) {n how:Int} (hn:1≤n∧n≤8)
abbrev hgV (n how:Int):List (Nat × Value):=[(0,int n),(1,int how),(6,P0 hb),(9,.func (.func D4) ⟨[]⟩ ⟨[P0 hb]⟩)]
include hn
theorem Ju6 (hh:0≤how∧how≤3) (H:HsOk n how) (y0 y1:HoS) (p0:y0.phase=0) (p1:y1.phase=0) (X:CX) (A:See X (VH n how)) :
  CtJ H0 D8 Aq9 (hgV hb n how) [pt hb (.cells Q4 false [.slice a 4 ac]),slC false J9 1 a 4 ac [P0 q0,P0 q1,P0 q2,P0 q3],hoC q0 k 0 y0,hoC q1 k 1 y1,kmC S3 k Z3 0 X.m,gC] fun v own=>v=.bool true:=by
 have qH:Qt (VH n how) 1 (pH n how):=⟨rfl,H.s,H.z⟩
 have qA:Qt (VH n how) 0 pB:=⟨Eb3.v,Eb3.s,Eb3.z⟩
 have qR:Qt (VR n how) 0 pB:=⟨Eb3.v,Eb3.s,Eb3.z⟩
 have hT:=Kb3 hn;refine Cj Do1 (fun _=>Er1 ..) fun h r=>?_;refine Yc (Jk6 k hb q0 q1 q2 q3 a ac 6 y1 Z3 0 zk3 (by omega) A qH p1 10 1 5 (by decide) 4 (by omega) z4 (fun F X ok A=>J91 H _ _ F X ok A)) ?_;rintro _ h ⟨X4,A4,rfl,o⟩<;>refine Jh o ?_;rw [show E2 (D0 Z3 1 0).2 1 4=Z4 from rfl];refine Jc ?_;unhygienic intros;refine Yn fun b1 h=>?_;refine Jb ?_;unhygienic intros;refine Yb (Yf rfl ?_);(refine Ja ?_;unhygienic intros;repeat(refine Gw ?_;rintro px rfl;refine Ja ?_;unhygienic intros));refine Yd (Em8 q1 k 1 ⟨y1.c,3,4,10,1,5,[]⟩) fun h=>?_;refine Jb ?_;unhygienic intros;refine Yv ?_;refine Yf rfl ?_;refine Yc (Gs2 k hb q0 q1 q2 q3 (some px) ac 8 y0 Z4 0 zk4 (by omega) A4 qA p0 5 1 n (by decide) 5 (by omega) z5 qR (fun F X ok A=>J22 (q:=pH n how) ok A (by omega) qA.v qA.s (t:=1) (s:=n) (by omega) rfl ⟨by omega,.inl H.s⟩ [])) ?_;rintro _ h ⟨da2,dc2,x2,cap2,X5,A5,rfl,o⟩<;>refine Jh o ?_;rw [show E2 (D0 Z4 0 0).2 0 5=Z5 from rfl];replace A5:See X5 (VR n how):=A5;refine Jc ?_;unhygienic intros;refine Yn fun b2 h=>?_;refine Jb ?_;unhygienic intros;refine Yb (Yf rfl ?_);refine Jb ?_;unhygienic intros;refine Yv ?_;refine Yf rfl ?_;(refine Ja ?_;unhygienic intros;repeat(refine Gw ?_;rintro px rfl;refine Ja ?_;unhygienic intros));obtain h1|rfl|rfl:(how=1∨how=3)∨how=0∨how=2:=by omega
 ·refine Yd (Jc9 Ar4 q1 k 10 (j:=1) (by omega) ⟨y1.c,3,4,10,1,5,[]⟩ Z5 0 zk5 A5 (p:=pR n how) rfl H.rs (J89 hn h1) rfl rfl H.ro (by omega) Jt8) fun h=>?_;rw [show (if Hl4 Bb3 then (1:Int) else 3)=3 from rfl];refine Jc ?_;unhygienic intros;refine Yn fun b3 h=>?_;refine Jb ?_;unhygienic intros;refine Yf (beq_eq_false_iff_ne.2 (by omega)) ?_;refine Yf (beq_eq_false_iff_ne.2 (by omega)) ?_;refine Yb (Yt rfl ?_);(refine Ja ?_;unhygienic intros;repeat(refine Gw ?_;rintro px rfl;refine Ja ?_;unhygienic intros));refine Yd (Em8 q1 k 1 ⟨y1.c,3,4,10,1,5,[]⟩) fun h=>?_;refine Jb ?_;unhygienic intros;refine Yv ?_;refine Yb (Yt rfl ?_);refine Yd E77 fun h=>?_;refine Jb ?_;unhygienic intros;refine Yv ?_;refine Ys fun o=>?_
  rfl
 ·have D:=Kb6 hn;have J:H38 (pR n 0) (pD n) [] n:=Jz0 (Ik1 (pR n 0) hT H.rs D.o D.w (pD n) rfl);have E:Hm3 S3 q1 k 10 1 ⟨y1.c,0,4,10,1,5,[]⟩ Z5 0 (VR n 0) (VX n) [] n:=Jk4 Ar4 q1 k 10 (j:=1) (by omega) ⟨y1.c,0,4,10,1,5,[]⟩ Z5 0 zk5 rfl H.rs (by omega) J D.k D.i (show Gt1 (wS (VR n 0) 1 (pD n)) 1 (128+n)=(_,VX n) from rfl)
  have W:Ct B0 Ar1 [.agg ⟨B5 (pR n 0)⟩] [gC] fun v own=>v=.bool true∧own [gC]:=by
   have h:=Hs4 (pR n 0) hT H.rs D.o;rw [D.w] at h;exact h
  refine Yc (Hc6 Ar4 q1 k 10 (j:=1) (by omega) ⟨y1.c,3,4,10,1,5,[]⟩ Z5 0 zk5 A5 (p:=pR n 0) rfl H.rs rfl W E) ?_;rintro _ h ⟨da3,dc3,X6,sx,sc,A6,rfl,o⟩<;>refine Jh o ?_;refine Jc ?_;unhygienic intros;refine Yn fun b3 h=>?_;refine Jc ?_;unhygienic intros;refine Yt rfl ?_;refine Yc (Gs2 k hb q0 q1 q2 q3 (some px) ac 10 ⟨y0.c,0,5,5,1,n,[]⟩ Z5 0 zk5 (by omega) A6 (p:=pB) ⟨D.x,Eb3.s,Eb3.z⟩ rfl 4 0 0 (by decide) 6 (by omega) z5b ⟨D.z,Eb3.s,Eb3.z⟩ (fun F X ok A=>Jy2 ok A (by omega) [] D.y)) ?_;rintro _ h ⟨da4,dc4,x4,cap4,X7,A7,rfl,o⟩<;>refine Jh o ?_;refine Jc ?_;unhygienic intros;refine Yn fun b4 h=>?_;refine Jb ?_;unhygienic intros;refine Yb (Yt rfl ?_);refine Jb ?_;unhygienic intros;refine Yv ?_;refine Yb (Yt rfl ?_);refine Jb ?_;unhygienic intros;refine Yv ?_;refine Yb (Yt rfl ?_);refine Jb ?_;unhygienic intros;refine Yv ?_;refine Yb (Yt (by rw [beq_self_eq_true]) ?_);refine Jb ?_;unhygienic intros;refine Yv ?_;refine Yb (Yt rfl ?_);refine Jb ?_;unhygienic intros;refine Yv ?_;refine Yb (Yt (by rw [show IntKind.wrap .i64 (384+n)=384+n by rw [B8];omega,beq_self_eq_true]) ?_);refine Yd E77 fun h=>?_;refine Jb ?_;unhygienic intros;refine Yv ?_;refine Ys fun o=>?_
  rfl
 ·have D:=Ka9 hn;have J:H38 (pR n 2) (pK n) [n] 0:=Ip6 (pR n 2) hT H.rs D.o D.w (pK n) rfl D.q;have E:Hm3 S3 q1 k 10 1 ⟨y1.c,0,4,10,1,5,[]⟩ Z5 0 (VR n 2) (wS (VR n 2) 1 (pK n)) [n] 0:=Jr7 Ar4 q1 k 10 (j:=1) (by omega) ⟨y1.c,0,4,10,1,5,[]⟩ Z5 0 zk5 rfl H.rs J D.k D.i
  have W:Ct B0 Ar1 [.agg ⟨B5 (pR n 2)⟩] [gC] fun v own=>v=.bool true∧own [gC]:=by
   have h:=Hs4 (pR n 2) hT H.rs D.o;rw [D.w] at h;exact h
  refine Yc (Hc6 Ar4 q1 k 10 (j:=1) (by omega) ⟨y1.c,3,4,10,1,5,[]⟩ Z5 0 zk5 A5 (p:=pR n 2) rfl H.rs rfl W E) ?_;rintro _ h ⟨da3,dc3,X6,sx,sc,A6,rfl,o⟩<;>refine Jh o ?_;refine Jc ?_;unhygienic intros;refine Yn fun b3 h=>?_;refine Jc ?_;unhygienic intros;simp only [List.length_cons,List.length_nil,List.map_cons,List.map_nil,Nat.zero_add];refine Yf rfl ?_;refine Yt rfl ?_;refine Yb (Yt rfl ?_);refine Jb ?_;unhygienic intros;refine Yv ?_;refine Yb (Yt rfl ?_);refine Jb ?_;unhygienic intros;refine Yv ?_;refine Yb (Yt rfl ?_);refine Jb ?_;unhygienic intros;refine Yv ?_;refine Yb (Yt rfl ?_);refine Jb ?_;unhygienic intros;refine Yv ?_;refine Yb (Yt rfl ?_);(refine Ja ?_;unhygienic intros;repeat(refine Gw ?_;rintro px rfl;refine Ja ?_;unhygienic intros));refine Yv ?_;refine Yb (Yt (by rw [beq_self_eq_true]) ?_);(refine Ja ?_;unhygienic intros;repeat(refine Gw ?_;rintro px rfl;refine Ja ?_;unhygienic intros));refine Yd (Em8 q1 k 1 ⟨y1.c,0,4,10,1,5,[]⟩) fun h=>?_;refine Jb ?_;unhygienic intros;refine Yv ?_;refine Yb (Yt rfl ?_);refine Yd E77 fun h=>?_;refine Jb ?_;unhygienic intros;refine Yv ?_;refine Ys fun o=>?_
  rfl
end
end Go.EQ

set_option maxRecDepth 10000
namespace Go.EQ
open Go Go.NN Go.Proofs
theorem Hm6 (n how:Int):Ct B0 D8 [int n,int how] [gC] fun v own=>v=.bool true:=by
 have hn:1≤D5 .i64 n 7+1∧D5 .i64 n 7+1≤8:=by rw [J83];omega
 have hh:0≤D5 .i64 how 3∧D5 .i64 how 3≤3:=by rw [J39];omega
 have en:IntKind.wrap .i64 (D5 .i64 n 7+1)=D5 .i64 n 7+1:=by rw [B8];omega
 refine Co Do1 (fun _=>Ge0 ..) fun h r=>?_;rw [en];generalize D5 .i64 n 7+1=n at *;generalize D5 .i64 how 3=how at *;have H:=Ka4 hn hh;obtain ⟨e1,e2⟩:=Gt5 (n:=n) (by omega);have e3:IntKind.wrap .u64 n=n:=by rw [show IntKind.wrap .u64 n=n%18446744073709551616 from rfl];omega
 refine Yc Hv3 ?_;rintro _ h ⟨k,w,a,ac,a2,ac2,q0,q1,q2,q3,c0,c1,rfl,o⟩;refine (?_:Tr _ _ _ _) o;refine Je ?_;refine Jc ?_;unhygienic intros;refine Yn fun hb h=>?_;refine Jb ?_;unhygienic intros;simp only [List.set_cons_zero];refine Yc (Gs2 k hb q0 q1 q2 q3 a ac 0 ⟨c0,0,0,0,0,0,[]⟩ T0 0 E84 (by omega) Ie4 qt1 rfl 9 0 0 (by decide) 1 (by omega) s1 J58 (fun F X ok A=>H75 ok A (by omega) (Iy4 ok A (by omega) Kb8 0 0 []))) ?_;rintro _ h ⟨da,dc,x,cap,X1,A1,rfl,o⟩<;>refine Jh o ?_;rw [show E2 (D0 T0 0 0).2 0 1=T1 from rfl];refine Jc ?_;unhygienic intros;refine Yc (Gs2 k hb q0 q1 q2 q3 a ac 2 ⟨c0,0,1,9,0,0,[]⟩ T1 0 tk1 (by omega) A1 J58 rfl 2 0 0 (by decide) 2 (by omega) s2 Eb3 (fun F X ok A=>Jz4 ok A (by omega) 0 0 [] Ka5)) ?_;rintro _ h ⟨da2,dc2,x2,cap2,X2,A2,rfl,o⟩<;>refine Jh o ?_;rw [show E2 (D0 T1 0 0).2 0 2=T2 from rfl];(refine Ja ?_;unhygienic intros;repeat(refine Gw ?_;rintro px rfl;refine Ja ?_;unhygienic intros));refine Yc (Jb1 Ar4 k 4 (j:=1) (by omega) T2 0 tk2 X2.m q1 ⟨c1,0,0,0,0,0,[]⟩ rfl) ?_;rintro _ h ⟨d1,rfl,o⟩<;>refine Jh o ?_;refine Jc ?_;unhygienic intros;by_cases h3:how<3
 ·have hp:pH n how=H06 pC n how:=by unfold pH;rw [if_neg (by omega)]
  have J:=Jd5 pC (n:=n) (how:=how) (by omega) H.m.1 (by omega);rw [← hp] at J;refine Yt (decide_eq_true h3) ?_;refine Yc (It6 k hb q0 q1 q2 q3 (some px) ac 4 ⟨d1,0,0,0,0,0,[]⟩ T2 0 tk2 (by omega) A2 Ho0 rfl 7 n how (by decide) 3 (by omega) z3 (V':=VH n how) ⟨rfl,H.s,H.z⟩ (fun F X ok A=>J30 ok A (by omega) Ho0.v Ho0.s J H.ok H.i [])) ?_;rintro _ h ⟨da3,dc3,x3,cap3,X3,A3,rfl,o⟩<;>refine Jh o ?_;rw [show E2 (D0 T2 1 0).2 1 3=Z3 from rfl];refine Jc ?_;unhygienic intros;refine Yr (Ju6 k hb q0 q1 q2 q3 (some px) ac hn hh H ⟨c0,0,2,2,0,0,[]⟩ ⟨d1,0,3,7,n,how,[]⟩ rfl rfl X3 A3) ?_;rintro _ h rfl
  rfl
 ·obtain rfl:how=3:=by omega
  have J:=Ju7 pC (m:=M0 n) H.m.2;refine Yf (decide_eq_false h3) ?_;refine Tr.ck (by omega) ?_;rw [← e3,e1,e3];refine Yc (It6 k hb q0 q1 q2 q3 (some px) ac 4 ⟨d1,0,0,0,0,0,[]⟩ T2 0 tk2 (by omega) A2 Ho0 rfl 6 (M0 n) 0 (by decide) 3 (by omega) z3 (V':=VH n 3) ⟨rfl,H.s,H.z⟩ (fun F X ok A=>Jz1 ok A (by omega) Ho0.v Ho0.s J H.ok H.i 0 [])) ?_;rintro _ h ⟨da3,dc3,x3,cap3,X3,A3,rfl,o⟩<;>refine Jh o ?_;rw [show E2 (D0 T2 1 0).2 1 3=Z3 from rfl];refine Jc ?_;unhygienic intros;refine Yr (Ju6 k hb q0 q1 q2 q3 (some px) ac hn hh H ⟨c0,0,2,2,0,0,[]⟩ ⟨d1,0,3,6,M0 n,0,[]⟩ rfl rfl X3 A3) ?_;rintro _ h rfl
  rfl
end Go.EQ

namespace Go.NN
open Go.ChangeShapes Go.WideShapes Go.RowKit
section
variable {P:Program} {W:World} {t e:TypeId}
end
end Go.NN

namespace Go.NN
open Go.ChangeShapes Go.WideShapes Go.RowKit
theorem Je8 {P:Program} {W:World} {t e:TypeId} {H:Type} {enc:TypeId × Value→H} {base fuel n:Nat} {spare:Nat→Bool} {held:Bool} {cs:List Value} {x:DataW H × List MemPlace} (ht:P.underlying t=some (.array n e)) (h:DataW.trod enc P W base spare held fuel t cs=some x) :
  ∃ m xs,cs.length=P.cellsOf t∧(List.range n).mapM (fun i=>DataW.trod enc P W base spare held m e ((cs.drop (i*P.cellsOf e)).take (P.cellsOf e)))=some xs∧x.1=.agg (xs.map (·.1)):=by
 cases fuel with
 | zero=>simp [DataW.trod] at h
 | succ m =>
  unfold DataW.trod at h;rw [ht] at h
  split at h<;>simp_all
  obtain ⟨hl,xs,hp,hd⟩:=h;refine ⟨m,xs,hp,?_⟩;rw [← hd]
theorem Jn4 {P:Program} {W:World} {t e:TypeId} {H:Type} {enc:TypeId × Value→H} {base fuel n:Nat} {spare:Nat→Bool} {held:Bool} {cs:List Value} {k:IntKind} {l:List Int} {p:List MemPlace}
  (ht:P.underlying t=some (.array n e)) (he:P.underlying e=some (.int k)) (hc:P.cellsOf e=1) (hn:P.cellsOf t=n)
  (h:DataW.trod enc P W base spare held fuel t cs=some (.agg (l.map fun n=>.lit (.int k n)),p)):cs=l.map (Value.int k):=by
 obtain ⟨m,xs,hl,hp,hx⟩:=Je8 ht h;have hx2:(l.map fun n=>(DataW.lit (.int k n):DataW H))=xs.map (·.1):=by injection hx
 have hlen:=mapM_some_length hp
 have hll:l.length=n:=by
  have:=congrArg List.length hx2;simp only [List.length_map] at this;simp at hlen;omega
 refine List.ext_getElem? fun i=>?_;by_cases hi:i<n
 ·have g:=mapM_some_get hp i i (by simpa using List.getElem?_range hi);have hlt:i<xs.length:=by simp at hlen;omega
  rw [List.getElem?_eq_getElem hlt] at g;obtain ⟨z,h1,h2,_⟩:=DataW.trod_int he g;rw [hc,Nat.mul_one] at h1
  have e1:cs[i]?=some (.int k z):=by
   have:=congrArg (·[0]?) h1;simpa using this
  have e2:xs[i]?.map (·.1)=some (DataW.lit (.int k z)):=by rw [List.getElem?_eq_getElem hlt,h2];rfl
  have e3:=congrArg (·[i]?) hx2;simp only [List.getElem?_map] at e3;rw [e2] at e3;rw [e1,List.getElem?_map]
  cases hq:l[i]? with
  | none=>rw [hq] at e3;cases e3
  | some y =>
   rw [hq] at e3;simp only [Option.map_some,Option.some.injEq] at e3;injection e3 with e4
   injection e4 with e5 e6
   rw [Option.map_some,e6]
 ·rw [List.getElem?_eq_none (by omega),List.getElem?_eq_none (by rw [List.length_map];omega)]
theorem Jh5 (P:Program) (W:World) {g:Nat} (hg:g<P.globals.size) {c':Array Value} {t e:TypeId} (hw:W.heap[g]?=some (.cells c' t (0,0))) {k:IntKind} {l:List Int} (hc:c'.toList=l.map (Value.int k)) :
  ∃ μ h,St P W μ h [pt g (.cells e true (l.map (Value.int k)))]:=by
 have hlt:g<W.heap.size:=(Array.getElem?_eq_some_iff.1 hw).1;refine ⟨fun b=>if b=g then some (g,0) else none,⟨fun b=>if b<P.globals.size then (if b=g then some (.cells e true (l.map (Value.int k))) else some .dead) else none,P.globals.size⟩,⟨?_,?_,?_,?_,?_,?_,?_⟩,?_,?_⟩
 ·intro b hb;by_cases h:b=g
  ·left;simp [h]
  ·right;simp [hb,h]
 ·intro b hb;show (if b<P.globals.size then _ else _)=_;rw [if_neg (by have:P.globals.size≤b:=hb;omega)]
 ·intro b x hx;by_cases h:b=g
  ·subst h;exact hg
  ·rw [if_neg h] at hx;cases hx
 ·intro b g' δ hx;by_cases h:b=g
  ·rw [if_pos h] at hx;cases hx;exact hlt
  ·rw [if_neg h] at hx;cases hx
 ·intro b g' δ e' ro c hx hb;by_cases h:b=g
  ·rw [if_pos h] at hx;subst h;have hb:(if b<P.globals.size then (if b=b then some (Blk.cells e true (l.map (Value.int k))) else some .dead) else none)=some (.cells e' ro c):=hb
   cases hx
   rw [if_pos hg,if_pos rfl] at hb
   cases hb
   refine ⟨c',(0,0),⟨t,(fun hh=>by cases hh),hw⟩,?_,fun i v hi=>?_,fun hh=>by cases hh⟩
   ·rw [Nat.zero_add,← hc];simp
   ·have:c'.toList[i]?=some v:=by rw [hc];exact hi
    refine ⟨v,by rw [Nat.zero_add];simpa using this,?_⟩;rw [List.getElem?_map] at hi
    cases hq:l[i]? with
    | none=>rw [hq] at hi;cases hi
    | some y=>rw [hq] at hi;cases hi;exact .int _ _
  ·rw [if_neg h] at hx;cases hx
 ·intro b g' δ es cl hx hb;by_cases h:b=g
  ·subst h;have hb:(if b<P.globals.size then (if b=b then some (Blk.cells e true (l.map (Value.int k))) else some .dead) else none)=some (.map es cl):=hb;rw [if_pos hg,if_pos rfl] at hb
   cases hb
  ·rw [if_neg h] at hx;cases hx
 ·intro b b' g' δ δ' hx hx' _ _;by_cases h:b=g
  ·by_cases h':b'=g
   ·rw [h,h']
   ·rw [if_neg h'] at hx';cases hx'
  ·rw [if_neg h] at hx;cases hx
 ·intro b hb;have hb:(match (if b<P.globals.size then (if b=g then some (Blk.cells e true (l.map (Value.int k))) else some .dead) else none) with|some (.cells _ ro _)=>ro=false|some (.map _ _)=>True|_=>False):=hb;by_cases h1:b<P.globals.size
  ·by_cases h:b=g
   ·rw [if_pos h1,if_pos h] at hb;cases hb
   ·rw [if_pos h1,if_neg h] at hb;exact hb
  ·rw [if_neg h1] at hb;exact hb
 ·refine ⟨fun b hb=>?_,fun b=>if b=g then some (.cells e true (l.map (Value.int k))) else none,fun _=>none,fun i=>.inr rfl,fun i x hx=>?_,fun i x hx=>?_,?_,trivial⟩
  ·show (if b<P.globals.size then _ else _)=_;rw [if_neg (by have:P.globals.size≤b:=hb;omega)]
  ·have hx:(if i=g then some (Blk.cells e true (l.map (Value.int k))) else none)=some x:=hx;by_cases h:i=g
   ·subst h;rw [if_pos rfl] at hx;show (if i<P.globals.size then (if i=i then _ else _) else _)=_;rw [if_pos hg,if_pos rfl];exact hx
   ·rw [if_neg h] at hx;cases hx
  ·cases hx
  ·show (if g=g then _ else _)=_;rw [if_pos rfl]
theorem Imp.runG {P:Program} {W:World} {cutsOf:FuncId→Cuts} (hm:P.follows .mixedOrders=true) (hng:∀ f,(cutsOf f).globs≤P.globals.size) {f:FuncId} {args:List Value} {φ:List Value→List HP→Prop} (i:Imp P W args φ)
  {g:Nat} (hg:g<P.globals.size) {c':Array Value} {t:TypeId} (e:TypeId) (hw:W.heap[g]?=some (.cells c' t (0,0))) {k:IntKind} {l:List Int} (hcc:c'.toList=l.map (Value.int k))
  (hc:∀ vs ps,φ vs ps→∀ h r,Own h (ps++(pt g (.cells e true (l.map (Value.int k)))::r))→∃ h',Call P cutsOf f vs h=some (.bool true,h')):Calls P f ⟨args⟩ W fun e w=>e=.returned (.bool true)∧Below W.heap.size W w:=by
 obtain ⟨μ0,h0,s0⟩:=Jh5 P W (e:=e) hg hw hcc;obtain ⟨μ,h,vs,ps,s,_,hv,hφ⟩:=i μ0 h0 _ s0;obtain ⟨h',e⟩:=hc vs ps hφ h [] s.own;refine ((Hf5 hm hng f vs h _ _ e).2 μ W args s.rel hv).mono fun ex w ⟨u,he,μ1,x,r,hu⟩=>?_;obtain rfl:=hu.bool_inv;exact ⟨he,x.os,x.tape,x.output,x.size,fun k hk=>x.old k hk fun b δ _=>s.ro b⟩
theorem Hp3 (n:Nat):∀ (l:List (Nat × Cuts)),l.all (fun p=>Nat.ble p.2.globs n)=true→∀ f,(Hc3 l f).globs≤n
 | [],_,_=>Nat.zero_le _
 | (k,c)::l,h,f=>by
  simp only [List.all_cons,Bool.and_eq_true] at h;show (bif Nat.beq k f then c else Hc3 l f).globs≤n
  cases Nat.beq k f
  ·exact Hp3 n l h.2 f
  ·exact Nat.le_of_ble_eq_true h.1
theorem Jq7 {P:Program} {W:World} {laid:List (String × DataW Unit)} (h:laidMet P laid W) {nm:String} {k:IntKind} {l:List Int} (hx:(nm,DataW.agg (l.map fun n=>.lit (.int k n))) ∈ laid) {g n:Nat} {t e:TypeId}
  (hg:P.globalNamed nm=some g) (hgt:(P.globals[g]?).map (·.type)=some t) (ht:P.underlying t=some (.array n e)) (he:P.underlying e=some (.int k)) (hc:P.cellsOf e=1) (hn:P.cellsOf t=n) (h0:0<l.length) :
  ∃ c' t',W.heap[g]?=some (.cells c' t' (0,0))∧c'.toList=l.map (Value.int k):=by
 obtain ⟨ps,hl,_,hp⟩:=h
 have key:∀ (laid:List (String × DataW Unit)) (ps:List MemPlace),DataW.LaidVars P W laid ps→(nm,DataW.agg (l.map fun n=>.lit (.int k n))) ∈ laid→∃ cs,W.var? P nm=some cs∧cs.toList=l.map (Value.int k)∧MemPlace.cell g 0 ∈ ps:=by
  intro laid
  induction laid with
  | nil=>intro ps _ hm;cases hm
  | cons a r ih =>
   intro ps hl hm;obtain ⟨n1,d1⟩:=a;obtain ⟨g1,t1,cs,fuel,p,q,h1,h2,h3,h4,h5,rfl⟩:=hl;rcases List.mem_cons.1 hm with hm|hm
   ·cases hm
    rw [hg] at h1;cases h1
    rw [hgt] at h2;cases h2
    have hcs:=Jn4 ht he hc hn h4;refine ⟨cs,h3,hcs,?_⟩;apply List.mem_append_left;apply List.mem_append_left;unfold MemPlace.row;rw [List.mem_map];have:cs.size=l.length:=by rw [← Array.length_toList,hcs,List.length_map]
    exact ⟨0,by rw [List.mem_range];omega,rfl⟩
   ·obtain ⟨cs,a1,a2,a3⟩:=ih q h5 hm;exact ⟨cs,a1,a2,List.mem_append_right _ a3⟩
 obtain ⟨cs,h1,h2,h3⟩:=key laid ps hl hx;obtain ⟨⟨c,t',h4⟩,_⟩:=hp g 0 h3;unfold World.var? at h1;rw [hg] at h1;simp only [Option.bind_some,h4] at h1
 cases h1
 exact ⟨_,t',h4,h2⟩
end Go.NN

set_option maxRecDepth 100000
namespace Go.EQ
open Go Go.NN Go.Proofs Go.Proofs.YtonlefldpebcpaaGreatDoor Go.ChangeShapes Go.WideShapes Go.RowKit
theorem J20:∀ f,(cutsOf f).globs≤PR.globals.size:=fun f=>Nat.le_trans (Hp3 2 Js8 (by kernel_rfl) f) (show 2≤PR.globals.size by decide +kernel)
theorem Jy3:PR.follows .mixedOrders=true:=by kernel_rfl
theorem J84:laidOutB PR=true:=by kernel_rfl
theorem J88:ownKnob PR.godebug=none:=by kernel_rfl
abbrev Gr4 {H : Type} : List (String × DataW H) := [("math/bits.deBruijn32tab", Rows.laid_math_bits_deBruijn32tab), ("math/bits.deBruijn64tab", Rows.laid_math_bits_deBruijn64tab)]
theorem Jv7 {H:Type} {enc:TypeId × Value→H} {W:World} {v0 v1:Value} {d0 d1:DataW H} {p0 p1:List MemPlace} {b0:Nat} (k0:Value.okWide PR W .any b0 B9 v0) (k1:Value.okWide PR W .any b0 B9 v1)
  (h0:DataW.Trod enc PR W 0 (fun _=>true) true B9 v0 d0 p0) (h1:DataW.Trod enc PR W 0 (fun _=>true) true B9 v1 d1 p1) (hL:laidMetH Tryz.prog Gr4 W) :
  Calls PR D8 #[v0,v1] W fun e W'=>e=.returned (.bool true)∧Below W.heap.size W W':=by
 obtain ⟨x0,_,i0⟩:=Av6.argInt Ju2 k0 h0;obtain ⟨x1,_,i1⟩:=Av6.argInt Ju2 k1 h1;have hm:laidMet PR Gr4 W:=by rw [← MakeChecks.laidMetH_plain PR _ W (by kernel_rfl)];exact hL
 obtain ⟨c', t', hw, hc⟩ := Jq7 hm (nm := "math/bits.deBruijn64tab") (k := .u8) (l := Iz6) (List.mem_cons_of_mem _ (List.mem_singleton.2 (Prod.ext rfl (show _ = Rows.laid_math_bits_deBruijn64tab by rfl)))) (g := 1) (n := 64) (t := I36) (e := A9) (by kernel_rfl) (by kernel_rfl) (by kernel_rfl) Jy5 (by kernel_rfl) (by kernel_rfl) (by decide)
 refine (i0.app i1).runG Jy3 J20 (g:=1) (by decide +kernel) A9 hw hc fun vs ps J hh r o=>?_;obtain ⟨_,_,_,_,rfl,rfl,⟨rfl,rfl⟩,J⟩:=J;obtain ⟨rfl,rfl⟩:=J;simp only [List.nil_append,List.append_nil,List.cons_append] at o ⊢;obtain ⟨v,h',e,rfl⟩:=Hm6 x0 x1 hh r o;exact ⟨h',e⟩
theorem Jp1 (os:Os) (args:Array Value):laidMetH Tryz.prog Gr4 ((World.doorLaid Tryz.prog 400 os).forCall (fun _ _=>0) ⟨#[],args,[]⟩).memory :=
 laidMetH_of_parts3 (fuel:=8) (laidMet_of_run' 8 (by kernel_rfl) (by kernel_rfl)) (by kernel_rfl) (by kernel_rfl)
theorem Jl1 (os:Os) (started:os.Started) (H:Type) (enc:TypeId × Value→H) :
  ReturnsInHanded {} Tryz.checked os D8 .any (fun w args=>(Rows.hostSignalsSpec.pre enc Tryz.prog Tryz.f4 [] false w args∧laidMetH Tryz.prog Gr4 w)∧sizedMet enc Tryz.prog Tryz.f4 (OpenSpec.ofChange Rows.hostSignalsSpec) false w args)
   (Rows.hostSignalsSpec.post enc Tryz.prog Tryz.f4 false true false false):=by
 refine returnsInHanded_of_change_and (C:=Tryz.checked) (X:=fun w _=>laidMetH Tryz.prog Gr4 w) (fun _ _ _ hh h=>h.of_heap hh) J88 started (by kernel_rfl) Tryz.func4
  (ChangeSpec.witness_shaped (enc:=enc) (C:=Tryz.checked) (os:=os) (X:=fun w _=>laidMetH Tryz.prog Gr4 w) false (World.doorLaid Tryz.prog 400 os) #[.int .i64 0,.int .i64 0] 8 rfl (World.shaped_of_RefB (by kernel_rfl) (by kernel_rfl)) (by kernel_rfl) (by kernel_rfl) (by kernel_rfl) (Jp1 os _)) ?_
 intro W base args ds gs before hval hW _ _ hL _;have hW':=hW;obtain ⟨p,q,hA,hV,rfl,hfz,hnd⟩:=hW;rw [Tryz.params4] at hA hval;obtain ⟨v0,v1,d0,d1,p0,p1,rfl,rfl,rfl,h0,h1⟩:=trodAll_two hA;refine (Jv7 (hval 0 _ v0 rfl rfl) (hval 1 _ v1 rfl rfl) h0 h1 hL).mono fun e W' ⟨he,hb⟩=>?_;subst he;refine ⟨_,rfl,Jb8 J84 ?_ rfl J31 rfl (fun ds gs hl=>?_) hW' hb⟩
 ·rw [Tryz.params4];intro t ht;simp at ht;rcases ht with rfl<;>skip
  all_goals exact ⟨by kernel_rfl,of_decide_eq_true (by kernel_rfl)⟩
 ·replace hl:ds.length=2:=hl
  cases gs with
  | cons _ _=>exact .inr (by simp)
  | nil=>match ds,hl with|[_,_],_=>exact .inl rfl
theorem J49:Tryz.pinned.checked.prog.funcNamed Rows.hostSignalsRow.func=some D8:=by kernel_rfl
theorem B7 {a b:Bool} (x:(a && b)=true):a=true:=by cases a<;>simp_all
theorem Ba8 {a b:Bool} (x:(a && b)=true):b=true:=by cases a<;>simp_all
theorem A38 {a b:Bool} (x:a=true) (y:b=true):(a && b)=true:=by rw [x,y];rfl
theorem Kb2:(Rows.hostSignalsRow.wf (OpenSpec.ofChange Rows.hostSignalsSpec) && laidOutB Tryz.pinned.checked.prog && mapsRowed Tryz.pinned.checked.prog && Tryz.f4.params.all (Tryz.pinned.checked.prog.readableRec ·) && namedTie Tryz.pinned.checked.prog Rows.hostSignalsRow.named Rows.hostSignalsSpec.vars && (Rows.hostSignalsRow.stops==[]) && (Tryz.pinned.checked.prog.stops==[]) && (Rows.hostSignalsRow.knobs==[]) && (Tryz.pinned.checked.prog.stopKnobs==[]))=true:=by kernel_rfl
theorem Iy5:((Rows.hostSignalsRow.inPlace==Tryz.pinned.checked.prog.inPlace D8) && (Rows.hostSignalsRow.unfollowed==Tryz.pinned.checked.prog.unfollowed D8) && (Rows.hostSignalsRow.recurses==Tryz.pinned.checked.prog.recurses D8) && (Rows.hostSignalsRow.named==Tryz.pinned.checked.prog.varsNamed D8))=true:=by kernel_rfl
theorem Bk4:((Rows.hostSignalsRow.maps==(Tryz.f4.params.toList++Rows.hostSignalsSpec.plain.varTypes Tryz.pinned.checked.prog).any (Tryz.pinned.checked.prog.mapsRec ·)) && (Rows.hostSignalsRow.ifaces==(Tryz.f4.params.toList++Rows.hostSignalsSpec.plain.varTypes Tryz.pinned.checked.prog).any (Tryz.pinned.checked.prog.ifacesRec ·)) && (Rows.hostSignalsRow.mapsOut==Tryz.pinned.checked.prog.mapsAmong Tryz.f4.resultTypes.toList) && (Rows.hostSignalsRow.loops==(Tryz.f4.params.toList++Rows.hostSignalsSpec.plain.varTypes Tryz.pinned.checked.prog).any (Tryz.pinned.checked.prog.loopsFrom ·)) && (Rows.hostSignalsRow.wideKeys==(Tryz.f4.params.toList++Rows.hostSignalsSpec.plain.varTypes Tryz.pinned.checked.prog++Tryz.f4.resultTypes.toList).any (Tryz.pinned.checked.prog.wideKeysFrom ·)) && Rows.hostSignalsSpec.vars.all (Tryz.pinned.checked.prog.varReadable ·) && Tryz.f4.resultTypes.all (fun t=>Tryz.pinned.checked.prog.readableRec t && decide (t<Tryz.pinned.checked.prog.types.size)) && (Rows.hostSignalsRow.ifacesOut==Tryz.f4.resultTypes.toList.any (Tryz.pinned.checked.prog.ifacesRec ·)) && (Rows.hostSignalsRow.loopsOut==Tryz.f4.resultTypes.toList.any (Tryz.pinned.checked.prog.loopsFrom ·)) && (Rows.hostSignalsRow.plainKeys==Tryz.pinned.checked.prog.plainKeys) && Rows.hostSignalsRow.shortTexts.isNone && Tryz.pinned.checked.prog.stopsHeard && Tryz.pinned.checked.prog.mayEnter && (Rows.hostSignalsRow.lifted==Tryz.pinned.checked.prog.liftsFinal) && (Tryz.pinned.checked.prog.make==some Rows.hostSignalsRow.make) && (Rows.hostSignalsRow.kinds==(if Rows.hostSignalsRow.domain.isEmpty then [] else Tryz.f4.params.toList.map fun t=>match Tryz.pinned.checked.prog.underlying t with|some (.int k)=>some k|_=>none)) && (Rows.hostSignalsRow.pinned==Rows.hostSignalsRow.pinnedBy) && (Rows.hostSignalsRow.veiled==(Tryz.f4.params.toList++Rows.hostSignalsSpec.plain.varTypes Tryz.pinned.checked.prog++Tryz.f4.resultTypes.toList).any (Tryz.pinned.checked.prog.veiledRec ·)) && Rows.hostSignalsRow.veiledFits Tryz.pinned.checked.prog Tryz.f4.params.toList (Tryz.f4.params.toList++Rows.hostSignalsSpec.plain.varTypes Tryz.pinned.checked.prog++Tryz.f4.resultTypes.toList))=true:=by kernel_rfl
theorem Jn0:joinedFacts Tryz.pinned.checked.prog D8 Tryz.f4 Rows.hostSignalsSpec Rows.hostSignalsRow=true:=by
 unfold joinedFacts;exact (A38 (A38 (A38 (A38 (A38 (A38 (A38 (A38 (A38 (A38 (A38 (A38 (A38 (A38 (A38 (A38 (A38 (A38 (A38 (A38 (A38 (A38 (A38 Kb2 (B7 (B7 (B7 Iy5)))) (Ba8 (B7 (B7 Iy5)))) (Ba8 (B7 Iy5))) (Ba8 Iy5)) (B7 (B7 (B7 (B7 (B7 (B7 (B7 (B7 (B7 (B7 (B7 (B7 (B7 (B7 (B7 (B7 (B7 (B7 Bk4))))))))))))))))))) (Ba8 (B7 (B7 (B7 (B7 (B7 (B7 (B7 (B7 (B7 (B7 (B7 (B7 (B7 (B7 (B7 (B7 (B7 Bk4))))))))))))))))))) (Ba8 (B7 (B7 (B7 (B7 (B7 (B7 (B7 (B7 (B7 (B7 (B7 (B7 (B7 (B7 (B7 (B7 Bk4)))))))))))))))))) (Ba8 (B7 (B7 (B7 (B7 (B7 (B7 (B7 (B7 (B7 (B7 (B7 (B7 (B7 (B7 (B7 Bk4))))))))))))))))) (Ba8 (B7 (B7 (B7 (B7 (B7 (B7 (B7 (B7 (B7 (B7 (B7 (B7 (B7 (B7 Bk4)))))))))))))))) (Ba8 (B7 (B7 (B7 (B7 (B7 (B7 (B7 (B7 (B7 (B7 (B7 (B7 (B7 Bk4))))))))))))))) (Ba8 (B7 (B7 (B7 (B7 (B7 (B7 (B7 (B7 (B7 (B7 (B7 (B7 Bk4)))))))))))))) (Ba8 (B7 (B7 (B7 (B7 (B7 (B7 (B7 (B7 (B7 (B7 (B7 Bk4))))))))))))) (Ba8 (B7 (B7 (B7 (B7 (B7 (B7 (B7 (B7 (B7 (B7 Bk4)))))))))))) (Ba8 (B7 (B7 (B7 (B7 (B7 (B7 (B7 (B7 (B7 Bk4))))))))))) (Ba8 (B7 (B7 (B7 (B7 (B7 (B7 (B7 (B7 Bk4)))))))))) (Ba8 (B7 (B7 (B7 (B7 (B7 (B7 (B7 Bk4))))))))) (Ba8 (B7 (B7 (B7 (B7 (B7 (B7 Bk4)))))))) (Ba8 (B7 (B7 (B7 (B7 (B7 Bk4))))))) (Ba8 (B7 (B7 (B7 (B7 Bk4)))))) (Ba8 (B7 (B7 (B7 Bk4))))) (Ba8 (B7 (B7 Bk4)))) (Ba8 (B7 Bk4))) (Ba8 Bk4))
theorem J34:Tryz.f4.isInstance Tryz.pinned.checked.prog Rows.hostSignalsRow.origin Rows.hostSignalsRow.targs:=of_decide_eq_true (by kernel_rfl)
theorem J63:Tryz.f4.isWrapper Tryz.pinned.checked.prog Rows.hostSignalsRow.wrapper Rows.hostSignalsRow.mainSum:=by unfold Func.isWrapper;first|(rw [if_pos (by decide +kernel)];kernel_rfl)|(rw [if_neg (by decide +kernel)];exact ⟨rfl,rfl⟩)
theorem J99:Rows.HostSignalsSaid :=
 OpenClaim.holds_of_wide D8 Tryz.f4 rfl rfl rfl rfl rfl rfl rfl ⟨rfl,rfl,rfl,rfl,rfl⟩ rfl rfl rfl rfl rfl J49 Tryz.func4 Jn0 J34 J63
  (fun os started H enc _=>Jl1 os started H enc)
theorem HostSignals_holds:Rows.HostSignalsCardSaid :=
 Claim7.holds_tied_plain_at .later [] [.data, .data] true (true, "6abb6189450580e97e10011ec0d2f79ddb92c782cabbe0c99113948bcd4fa8b9") false
  J99 (fun _ h=>by cases h) (by kernel_rfl) (fun _ h=>by cases h) hostSignals_row_tie rfl ⟨rfl,rfl⟩ (by kernel_rfl) rfl
  (fun f fn hf hfn=>by
   obtain rfl : f = D8 := Option.some.inj ((show Tryz.prog.funcNamed "commonage/commonagelaw21.HostSignals" = some D8 by kernel_rfl).symm.trans hf) |>.symm
   obtain rfl:fn=Tryz.f4:=(Option.some.inj (Tryz.func4.symm.trans hfn)).symm
   exact ⟨by kernel_rfl,fun j t ht=>by
    rw [Tryz.params4] at ht;have hm:t ∈ [B9,B9]:=by simpa using Array.mem_of_getElem? ht
    have hall:([B9,B9].all fun u=>!Tryz.prog.wantsStandIn u)=true:=by kernel_rfl
    exact (show Tryz.prog.wantsStandIn t=false by simpa using List.all_eq_true.1 hall t hm)⟩)
  (by kernel_rfl)
end Go.EQ
