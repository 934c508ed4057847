/- One that is stopped does nothing till it goes on, and holds nobody up; then its call is done. -/
import Derived.Test.YtonlefldpebcpaaGreatDoorMl
import Derived.MakeChecks
import Derived.Test.YtonlefldpebcpaaGreatDoorCards
import Derived.Test.YtonlefldpebcpaaGreatDoorTie
import Derived.LaidMore
import Derived.OpenShut
import Derived.Stop.Joined
import Derived.ProofKit
import Derived.SevenTiedAt
set_option linter.all false
set_option maxRecDepth 10000
namespace Go.EQ
open Go Go.NN Go.Proofs
section
variable {S:KS} (B:Base S) (hb k N:Nat) (a:Option Addr) (ac:Nat) (Q:List Nat) (i q:Nat) (hi:i<4) (hq:Q[i]?=some q) (y:HoS) (T:SectS) (t:Int) (ok:TOk N T t) (hN:N+4<1000000000) {X:CX} {V V':VW} (A:See X V) {p p':ProcS} (hp:Qt V i p)
include B hi hq ok hN A hp
theorem Iy4 (h0:y.phase=0) (op sa sb:Int) (h3:op≠3) (st:Int) (hst:(B9 T i t).1.1=st) (h1:st>0) (hh:Ao9 (B9 T i t).2 i st=true) (hp':Qt V' i p') {n e:Int} {bs:List UInt8}
  (hJ:∀ (F:Fr) (X:CX),FrOk F→See X V→DoJ y.c k F X V' (i:Nat) op sa sb [] n e bs false) :
  Ct A6 E7 [int (i:Nat),.agg ⟨[int op,int sa,int sb,.slice none 0 0]⟩,P0 hb] [pt hb (.cells Ao8 false [.slice a 4 ac]),slC false P2 1 a 4 ac (Q.map P0),hoC q k (i:Nat) y,kmC S k T t X.m] fun v own=>∃ da dc x cap X',See X' V'∧v=.tuple ⟨[.agg ⟨Ei3 0 (i:Nat) op sa sb da 0 dc n e x bs.length cap true⟩,.bool true]⟩ ∧
   own [pt hb (.cells Ao8 false [.slice a 4 ac]),slC false P2 1 a 4 ac (Q.map P0),hoC q k (i:Nat) ⟨y.c,0,st,op,sa,sb,[]⟩,kmC S k (J0 (B9 T i t).2 i st) t X'.m,dC x cap bs]:=by
 have hlt:=(List.getElem?_eq_some_iff.1 hq).1
 have hg:(Q.map P0)[((i:Nat):Int).toNat]?=some (.pointer (some ⟨q,0,none⟩)):=by rw [Int.toNat_natCast,List.getElem?_map,hq];rfl
 have ok2:=ok.enter hN i
 have hj:0≤(i:Int)∧(i:Int)<4:=by omega
 refine Ct.of Ee0 rfl fun h r=>Tr.eq (Eb8 ..) ?_;refine Je ?_
 refine Tr.nw fun b1 h=>?_
 refine Tr.nw fun b2 h=>?_
 (refine Ja ?_;unhygienic intros;repeat(refine Gw ?_;rintro px rfl;refine Ja ?_;unhygienic intros))
 refine Bp9 ?_
 refine Tr.xCall (Gy0 B q k N hj y T t ok A hp h0 op sa sb (dC none 0 []) none false 0 [] (by simp [A8])) ?_;rintro _ h ⟨rfl,o⟩<;>refine Jh o ?_
 (refine Jc ?_;unhygienic intros)
 refine Tr.xCall (Gz8 B q k N hj { y with phase:=1,op:=op,a:=sa,b:=sb,d:=[] } T t ok A hp rfl) ?_;rintro _ h ⟨rfl,o⟩<;>refine Jh o ?_
 rw [hst,show Eg7 { y with phase:=1,op:=op,a:=sa,b:=sb,d:=[] } st=⟨y.c,2,st,op,sa,sb,[]⟩ from if_pos h1]
 (refine Jc ?_;unhygienic intros)
 refine Tr.xCall (Gn9 B q k (N+2) hj ⟨y.c,2,st,op,sa,sb,[]⟩ (B9 T i t).2 t ok2 A hp rfl hh (hJ _ _ (Ax6 B ok2 (Dm0 hj)) A) h3 (ok2.leave i st) hp') ?_;rintro _ h ⟨da,dc,x,cap,X',A',rfl,o⟩<;>refine Jh o ?_
 (refine Jc ?_;unhygienic intros)
 refine Tr.some fun o=>?_
 exact ⟨da,dc,x,cap,X',A',rfl,o.sub⟩
end
theorem E49 (hb k N q0 q1 q2 q3:Nat) (a:Option Addr) (ac:Nat) (y:HoS) (T:SectS) (t:Int) (ok:TOk N T t) (hN:N+4<1000000000) {X:CX} {V V':VW} (A:See X V) {p p':ProcS} (hp:Qt V 0 p) (h0:y.phase=0) (op sa sb:Int) (h3:op≠3) (st:Int) (h1:st>0) (hs:(B9 T 0 t).1.1=st∧Ao9 (B9 T 0 t).2 0 st=true) (hp':Qt V' 0 p') {n e:Int} {bs:List UInt8}
  (hJ:∀ (F:Fr) (X:CX),FrOk F→See X V→DoJ y.c k F X V' 0 op sa sb [] n e bs false) :
  Ct A6 E7 [int 0,.agg ⟨[int op,int sa,int sb,.slice none 0 0]⟩,P0 hb] [pt hb (.cells Ao8 false [.slice a 4 ac]),slC false P2 1 a 4 ac [P0 q0,P0 q1,P0 q2,P0 q3],hoC q0 k 0 y,kmC S3 k T t X.m] fun v own=>∃ da dc x cap X',See X' V'∧v=.tuple ⟨[.agg ⟨Ei3 0 0 op sa sb da 0 dc n e x bs.length cap true⟩,.bool true]⟩ ∧
   own [pt hb (.cells Ao8 false [.slice a 4 ac]),slC false P2 1 a 4 ac [P0 q0,P0 q1,P0 q2,P0 q3],hoC q0 k 0 ⟨y.c,0,st,op,sa,sb,[]⟩,kmC S3 k (J0 (B9 T 0 t).2 0 st) t X'.m,dC x cap bs] :=
 Iy4 Ai2 hb k N a ac [q0,q1,q2,q3] 0 q0 (by omega) rfl y T t ok hN A hp h0 op sa sb h3 st hs.1 h1 hs.2 hp' hJ
def VF:VW:=(E47 V1 0).2
theorem I45:E47 V1 0=(Aa0 1 0 false,VF):=Prod.ext (by kernel_rfl) rfl
def fA:ProcS:=(VF.S 0).1
def fB:ProcS:=(VF.S 1).1
def fR:ProcS:=A32 fB 14
def fS:ProcS:=Bg0 fR 3 (G67 fR 14)
def fG:ProcS:=A32 fS 15
def fE:ProcS:=Bg0 fG fG.state (G67 fG 15)
def VK:VW:=wS VF 1 fR
def VS:VW:=wS VK 1 fS
def VG:VW:=wS VS 1 fG
theorem Dc8:Qt VF 0 fA:=⟨Prod.ext rfl (by kernel_rfl),by kernel_rfl,by kernel_rfl⟩
theorem I52:VF.S 1=(fB,1):=Prod.ext rfl (by kernel_rfl)
theorem I53:SigT 14:=⟨by omega⟩
theorem I58:SigT 15:=⟨by omega⟩
theorem I30:H17 fR fS [] 0:=Hv4 (Ho9 fR I53 (by kernel_rfl) (by kernel_rfl) (by kernel_rfl) fS rfl)
theorem I40:H17 fG fE [] 0:=Hv4 (Hr6 fG I58 (by kernel_rfl) (by kernel_rfl) (by kernel_rfl) fE rfl (by kernel_rfl))
theorem I04:okS fS=true:=by kernel_rfl
theorem I41:okS fE=true:=by kernel_rfl
theorem I14:InS fS:=by
 constructor<;>decide
theorem I54:InS fE:=by
 constructor<;>decide
abbrev U0:SectS:=I1 5
def U1:SectS:=J0 (B9 U0 0 0).2 0 1
def U2:SectS:=J0 (B9 U1 0 0).2 0 2
def U3:SectS:=J0 (B9 U2 0 0).2 0 3
def U4:SectS:=J0 (B9 U3 0 0).2 0 4
theorem u1:(B9 U0 0 0).1.1=1∧Ao9 (B9 U0 0 0).2 0 1=true:=⟨by kernel_rfl,by kernel_rfl⟩
theorem u2:(B9 U1 0 0).1.1=2∧Ao9 (B9 U1 0 0).2 0 2=true:=⟨by kernel_rfl,by kernel_rfl⟩
theorem u3:(B9 U2 0 0).1.1=3∧Ao9 (B9 U2 0 0).2 0 3=true:=⟨by kernel_rfl,by kernel_rfl⟩
theorem u4:(B9 U3 0 0).1.1=4∧Ao9 (B9 U3 0 0).2 0 4=true:=⟨by kernel_rfl,by kernel_rfl⟩
theorem u5:(B9 U4 1 0).1.1=5∧Ao9 (B9 U4 1 0).2 1 5=true:=⟨by kernel_rfl,by kernel_rfl⟩
theorem uk1:TOk 2 U1 0:=(El2.enter (by omega) 0).leave 0 1
theorem uk2:TOk 4 U2 0:=(uk1.enter (by omega) 0).leave 0 2
theorem uk3:TOk 6 U3 0:=(uk2.enter (by omega) 0).leave 0 3
theorem uk4:TOk 8 U4 0:=(uk3.enter (by omega) 0).leave 0 4
end Go.EQ

set_option maxRecDepth 10000
namespace Go.EQ
open Go Go.NN Go.Proofs
section
variable (k hb q0 q1 q2 q3:Nat) (a:Option Addr) (ac:Nat) (n:Int)
abbrev hkG (i:Int):List (Nat × Value):=[(0,int n),(4,P0 hb),(7,.func (.func E7) ⟨[]⟩ ⟨[P0 hb]⟩),(12,int i)]
abbrev hkF (c0 c1:Nat) (X:CX):List HP:=[pt hb (.cells Ao8 false [.slice a 4 ac]),slC false P2 1 a 4 ac [P0 q0,P0 q1,P0 q2,P0 q3],hoC q0 k 0 ⟨c0,0,2,5,1,14,[]⟩,hoC q1 k 1 ⟨c1,1,0,1,0,0,[]⟩,kmC S3 k U2 0 X.m,gC]
theorem If0 (c0 c1:Nat) (X:CX) (A:See X VS) (i:Int) (hi:¬ i<D2 .i64 n 7):CtJ I4 D0 Ac5 (hkG hb n i) (hkF k hb q0 q1 q2 q3 a ac c0 c1 X) fun v own=>v=.bool true:=by
 have qA:Qt VS 0 fA:=⟨Dc8.v,Dc8.s,Dc8.z⟩
 have qG:Qt VG 0 fA:=⟨Dc8.v,Dc8.s,Dc8.z⟩
 have uk5:=uk4.enter (by omega) 1
 refine CtJ.of Bh7 fun h r=>Tr.eq (Bu8 ..) ?_;refine Je ?_
 refine Tr.condF (decide_eq_false hi) ?_
 refine Tr.xCall (E49 hb k 4 q0 q1 q2 q3 a ac ⟨c0,0,2,5,1,14,[]⟩ U2 0 uk2 (by omega) A qA rfl 17 0 0 (by decide) 3 (by omega) u3 qA (fun F X ok A=>H79 (n:=-1) ok A (by omega) qA.v qA.s (by kernel_rfl) 0 0 [])) ?_;rintro _ h ⟨da,dc,x,cap,X1,A1,rfl,o⟩<;>refine Jh o ?_
 rw [show J0 (B9 U2 0 0).2 0 3=U3 from rfl]
 (refine Jc ?_;unhygienic intros)
 refine Tr.nw fun b1 h=>?_
 (refine Jb ?_;unhygienic intros)
 refine Tr.bnd (Tr.condF rfl ?_)
 (refine Jb ?_;unhygienic intros)
 refine Tr.some fun o=>(?_:Tr _ _ _ _) o;refine Je ?_
 refine Tr.condF rfl ?_
 refine Tr.xCall (E49 hb k 6 q0 q1 q2 q3 a ac ⟨c0,0,3,17,0,0,[]⟩ U3 0 uk3 (by omega) A1 qA rfl 5 1 15 (by decide) 4 (by omega) u4 qG (fun F X ok A=>Hu4 (q:=fS) ok A (by omega) qA.v qA.s (t:=1) (s:=15) (by omega) rfl ⟨by omega,.inr (by kernel_rfl)⟩ [])) ?_;rintro _ h ⟨da2,dc2,x2,cap2,X2,A2,rfl,o⟩<;>refine Jh o ?_
 rw [show J0 (B9 U3 0 0).2 0 4=U4 from rfl]
 replace A2:See X2 VG:=A2
 (refine Jc ?_;unhygienic intros)
 refine Tr.nw fun b2 h=>?_
 (refine Jb ?_;unhygienic intros)
 refine Tr.bnd (Tr.condF rfl ?_)
 (refine Jb ?_;unhygienic intros)
 refine Tr.some fun o=>(?_:Tr _ _ _ _) o;refine Je ?_
 refine Tr.condF rfl ?_
 (refine Ja ?_;unhygienic intros;repeat(refine Gw ?_;rintro px rfl;refine Ja ?_;unhygienic intros))
 refine Tr.xCall (H46 Ai2 q1 k 8 (j:=1) (by omega) ⟨c1,1,0,1,0,0,[]⟩ U4 0 uk4 A2 (p:=fG) rfl (by kernel_rfl) rfl) ?_;rintro _ h ⟨rfl,o⟩<;>refine Jh o ?_
 rw [u5.1,show Eg7 ⟨c1,1,0,1,0,0,[]⟩ 5=⟨c1,2,5,1,0,0,[]⟩ from rfl]
 (refine Jc ?_;unhygienic intros)
 have E:=Hl7 Ai2 q1 k 10 (j:=1) (by omega) ⟨c1,0,5,1,0,0,[]⟩ (J0 (B9 U4 1 0).2 1 5) 0 (uk5.leave 1 5) (V:=VG) (p:=fG) rfl (by kernel_rfl) I40 I41 I54
 refine Tr.xCall (H53 Ai2 q1 k 10 (j:=1) (by omega) ⟨c1,2,5,1,0,0,[]⟩ _ 0 uk5 A2 (p:=fG) rfl (by kernel_rfl) rfl u5.2 (Iu9 (Ax6 Ai2 uk5 Il4) A2 (by omega) (p:=fG) rfl (by kernel_rfl) 0 0 []) (show (1:Int)≠3 by decide) E) ?_;rintro _ h ⟨da3,dc3,x3,cap3,X3,sx,sc,A3,rfl,o⟩<;>refine Jh o ?_
 (refine Jc ?_;unhygienic intros)
 refine Tr.nw fun b3 h=>?_
 (refine Jb ?_;unhygienic intros)
 refine Tr.bnd (Tr.condT rfl ?_)
 (refine Jb ?_;unhygienic intros)
 refine Tr.some fun o=>(?_:Tr _ _ _ _) o;refine Je ?_
 refine Tr.bnd (Tr.condT rfl ?_)
 (refine Jb ?_;unhygienic intros)
 refine Tr.some fun o=>(?_:Tr _ _ _ _) o;refine Je ?_
 refine Tr.bnd (Tr.condT rfl ?_)
 (refine Jb ?_;unhygienic intros)
 refine Tr.xCall (Ew3 q1 k 1 ⟨c1,0,5,1,0,0,[]⟩) ?_;rintro _ h ⟨rfl,o⟩<;>refine Jh o ?_
 (refine Jb ?_;unhygienic intros)
 refine Tr.some fun o=>(?_:Tr _ _ _ _) o;refine Je ?_
 refine Tr.bnd (Tr.condT rfl ?_)
 refine Tr.xCall (Hz1) ?_;rintro _ h ⟨rfl,o⟩<;>refine Jh o ?_
 (refine Jb ?_;unhygienic intros)
 refine Tr.some fun o=>(?_:Tr _ _ _ _) o;refine Je ?_
 refine Tr.some fun o=>?_
 rfl
theorem Hv8 (c0 c1:Nat) (X:CX) (A:See X VS):∀ (m:Nat) (i:Nat),D2 .i64 n 7≤(i:Int)+m→D2 .i64 n 7≤7→CtJ I4 D0 Ac5 (hkG hb n i) (hkF k hb q0 q1 q2 q3 a ac c0 c1 X) fun v own=>v=.bool true
 | 0,i,hi,_=>If0 k hb q0 q1 q2 q3 a ac n c0 c1 X A i (by omega)
 | m+1,i,hi,h7=>by
  by_cases hlt:(i:Int)<D2 .i64 n 7
  case neg=>exact If0 k hb q0 q1 q2 q3 a ac n c0 c1 X A i hlt
  have ih:=Hv8 c0 c1 X A m (i+1) (by omega) h7
  have e1:=wN i
  refine CtJ.of Bh7 fun h r=>Tr.eq (Bu8 ..) ?_;refine Je ?_
  refine Tr.condT (decide_eq_true hlt) ?_
  (refine Ja ?_;unhygienic intros;repeat(refine Gw ?_;rintro px rfl;refine Ja ?_;unhygienic intros))
  refine Tr.xCall (H72 Ai2 q1 k 4 (j:=1) (by omega) ⟨c1,1,0,1,0,0,[]⟩ U2 0 uk2 A (p:=fS) rfl (by kernel_rfl) (show (1:Int)≠2 by decide)) ?_;rintro _ h ⟨rfl,o⟩<;>refine Jh o ?_
  (refine Jc ?_;unhygienic intros)
  refine Tr.nw fun b1 h=>?_
  (refine Jb ?_;unhygienic intros)
  refine Tr.bnd (Tr.condF rfl ?_)
  (refine Ja ?_;unhygienic intros;repeat(refine Gw ?_;rintro px rfl;refine Ja ?_;unhygienic intros))
  refine Tr.xCall (Ew3 q1 k 1 ⟨c1,1,0,1,0,0,[]⟩) ?_;rintro _ h ⟨rfl,o⟩<;>refine Jh o ?_
  (refine Jb ?_;unhygienic intros)
  refine Tr.some fun o=>(?_:Tr _ _ _ _) o;refine Je ?_
  refine Tr.condF rfl ?_
  rw [e1]
  refine Tr.xRun (ih) ?_;rintro _ h rfl
  rfl
end
end Go.EQ

set_option maxRecDepth 10000
namespace Go.EQ
open Go Go.NN Go.Proofs
theorem Gr5 (n:Int):Ct A6 D0 [int n] [gC] fun v own=>v=.bool true:=by
 have qA:Qt VK 0 fA:=⟨Dc8.v,Dc8.s,Dc8.z⟩
 refine Ct.of Bh7 rfl fun h r=>Tr.eq (Er9 ..) ?_;refine Je ?_
 refine Tr.xCall G19 ?_
 rintro _ h ⟨k,w,a,ac,a2,ac2,q0,q1,q2,q3,c0,c1,rfl,o⟩
 refine (?_:Tr _ _ _ _) o
 refine Je ?_
 (refine Jc ?_;unhygienic intros)
 refine Tr.nw fun hb h=>?_
 (refine Jb ?_;unhygienic intros)
 simp only [List.set_cons_zero]
 refine Tr.xCall (E49 hb k 0 q0 q1 q2 q3 a ac ⟨c0,0,0,0,0,0,[]⟩ U0 0 El2 (by omega) Hd9 qt1 rfl 2 0 0 (by decide) 1 (by omega) u1 Dc8 (fun F X ok A=>Is2 ok A (by omega) 0 0 [] I45)) ?_;rintro _ h ⟨da,dc,x,cap,X1,A1,rfl,o⟩<;>refine Jh o ?_
 rw [show J0 (B9 U0 0 0).2 0 1=U1 from rfl]
 (refine Ja ?_;unhygienic intros;repeat(refine Gw ?_;rintro px rfl;refine Ja ?_;unhygienic intros))
 refine Tr.xCall (Ic8 Ai2 k 2 (j:=1) (by omega) U1 0 uk1 X1.m q1 ⟨c1,0,0,0,0,0,[]⟩ rfl) ?_;rintro _ h ⟨d1,rfl,o⟩<;>refine Jh o ?_
 (refine Jc ?_;unhygienic intros)
 refine Tr.xCall (E49 hb k 2 q0 q1 q2 q3 (some px) ac ⟨c0,0,1,2,0,0,[]⟩ U1 0 uk1 (by omega) A1 Dc8 rfl 5 1 14 (by decide) 2 (by omega) u2 qA (fun F X ok A=>Hu4 (q:=fB) ok A (by omega) Dc8.v Dc8.s (t:=1) (s:=14) (by omega) I52 ⟨by omega,.inl (by kernel_rfl)⟩ [])) ?_;rintro _ h ⟨da2,dc2,x2,cap2,X2,A2,rfl,o⟩<;>refine Jh o ?_
 rw [show J0 (B9 U1 0 0).2 0 2=U2 from rfl]
 replace A2:See X2 VK:=A2
 (refine Ja ?_;unhygienic intros;repeat(refine Gw ?_;rintro px rfl;refine Ja ?_;unhygienic intros))
 have E:=Hl7 Ai2 q1 k 4 (j:=1) (by omega) ⟨d1,0,0,0,0,0,[]⟩ U2 0 uk2 (V:=VK) (p:=fR) rfl (by kernel_rfl) I30 I04 I14
 refine Tr.xCall (H68 Ai2 q1 k 4 (j:=1) (by omega) ⟨d1,0,0,0,0,0,[]⟩ U2 0 uk2 A2 (p:=fR) rfl (by kernel_rfl) rfl E) ?_;rintro _ h ⟨X3,A3,rfl,o⟩<;>refine Jh o ?_
 replace A3:See X3 VS:=A3
 (refine Jc ?_;unhygienic intros)
 refine Tr.nw fun b1 h=>?_
 (refine Jc ?_;unhygienic intros)
 refine Tr.xCall (E91 q1 k 1 ⟨d1,0,0,0,0,0,[]⟩) ?_;rintro _ h ⟨rfl,o⟩<;>refine Jh o ?_
 (refine Jc ?_;unhygienic intros)
 refine Tr.xCall (E91 q1 k 1 ⟨d1,0,0,0,0,0,[]⟩) ?_;rintro _ h ⟨rfl,o⟩<;>refine Jh o ?_
 (refine Jc ?_;unhygienic intros)
 have fo:=Ax6 Ai2 uk2 Il4
 refine A9 (hoC q1 k 1 ⟨d1,0,0,0,0,0,[]⟩) fun ⟨ha,hc⟩=>?_;refine Je ?_
 refine Bi5 S3 d1 k 4 U2 0 1 X3.m ?_
 rw [A3.eX]
 refine Tr.xCall (Z5 d1 k (frH S3 U2 0 4 1) X3 fo 1) ?_;rintro _ h ⟨rfl,o⟩<;>refine Jh o ?_
 rw [N9 A3.c (by omega),A3.s 1 (by omega),show VS.S 1=(fS,1) from rfl]
 dsimp only
 refine Be4 S3 d1 k 4 U2 0 1 X3 A3.c.bad ?_
 refine A7 (hoC q1 k 1 ⟨d1,0,0,0,0,0,[]⟩) (ha,hc) ?_;refine Je ?_
 (refine Jc ?_;unhygienic intros)
 refine Tr.nw fun b2 h=>?_
 (refine Jb ?_;unhygienic intros)
 refine Tr.bnd (Tr.condF rfl ?_)
 (refine Jb ?_;unhygienic intros)
 refine Tr.some fun o=>(?_:Tr _ _ _ _) o;refine Je ?_
 refine Tr.bnd (Tr.condF (by rw [show fS.state=3 from rfl];rfl) ?_)
 (refine Jb ?_;unhygienic intros)
 refine Tr.xCall (H19 fS I14.w) ?_;rintro _ h ⟨rfl,o⟩<;>refine Jh o ?_
 rw [I04]
 (refine Jb ?_;unhygienic intros)
 refine Tr.some fun o=>(?_:Tr _ _ _ _) o;refine Je ?_
 refine Tr.condF rfl ?_
 (refine Ja ?_;unhygienic intros;repeat(refine Gw ?_;rintro px rfl;refine Ja ?_;unhygienic intros))
 refine Bp9 ?_
 refine Tr.xCall (H24 Ai2 q1 k 4 (j:=1) (by omega) ⟨d1,0,0,0,0,0,[]⟩ U2 0 uk2 A3 (p:=fS) rfl (by rw [show fS.state=3 from rfl];decide) rfl 1 0 0 (dC none 0 []) none false 0 [] (by simp [A8])) ?_;rintro _ h ⟨rfl,o⟩<;>refine Jh o ?_
 (refine Jc ?_;unhygienic intros)
 have h7:0≤D2 .i64 n 7∧D2 .i64 n 7≤7:=by rw [I25];omega
 have L:=Hv8 k hb q0 q1 q2 q3 (some px) ac n c0 d1 X3 A3 7 0 (by omega) (by omega)
 rw [show ((0:Nat):Int)=0 from rfl] at L
 refine Tr.xRun (L) ?_;rintro _ h rfl
 rfl
end Go.EQ

namespace Go.NN
open Go.ChangeShapes Go.WideShapes Go.RowKit
section
variable {P:Program} {W:World} {t e:TypeId}
end
end Go.NN

namespace Go.NN
open Go.ChangeShapes Go.WideShapes Go.RowKit
theorem If7 {P:Program} {W:World} {t e:TypeId} {H:Type} {enc:TypeId × Value→H} {base fuel n:Nat} {spare:Nat→Bool} {held:Bool} {cs:List Value} {x:DataW H × List MemPlace} (ht:P.underlying t=some (.array n e)) (h:DataW.trod enc P W base spare held fuel t cs=some x) :
  ∃ m xs,cs.length=P.cellsOf t∧(List.range n).mapM (fun i=>DataW.trod enc P W base spare held m e ((cs.drop (i*P.cellsOf e)).take (P.cellsOf e)))=some xs∧x.1=.agg (xs.map (·.1)):=by
 cases fuel with
 | zero=>simp [DataW.trod] at h
 | succ m =>
  unfold DataW.trod at h
  rw [ht] at h
  split at h<;>simp_all
  obtain ⟨hl,xs,hp,hd⟩:=h
  refine ⟨m,xs,hp,?_⟩
  rw [← hd]
theorem Im9 {P:Program} {W:World} {t e:TypeId} {H:Type} {enc:TypeId × Value→H} {base fuel n:Nat} {spare:Nat→Bool} {held:Bool} {cs:List Value} {k:IntKind} {l:List Int} {p:List MemPlace}
  (ht:P.underlying t=some (.array n e)) (he:P.underlying e=some (.int k)) (hc:P.cellsOf e=1) (hn:P.cellsOf t=n)
  (h:DataW.trod enc P W base spare held fuel t cs=some (.agg (l.map fun n=>.lit (.int k n)),p)):cs=l.map (Value.int k):=by
 obtain ⟨m,xs,hl,hp,hx⟩:=If7 ht h
 have hx2:(l.map fun n=>(DataW.lit (.int k n):DataW H))=xs.map (·.1):=by injection hx
 have hlen:=mapM_some_length hp
 have hll:l.length=n:=by
  have:=congrArg List.length hx2
  simp only [List.length_map] at this
  simp at hlen;omega
 refine List.ext_getElem? fun i=>?_
 by_cases hi:i<n
 ·have g:=mapM_some_get hp i i (by simpa using List.getElem?_range hi)
  have hlt:i<xs.length:=by simp at hlen;omega
  rw [List.getElem?_eq_getElem hlt] at g
  obtain ⟨z,h1,h2,_⟩:=DataW.trod_int he g
  rw [hc,Nat.mul_one] at h1
  have e1:cs[i]?=some (.int k z):=by
   have:=congrArg (·[0]?) h1
   simpa using this
  have e2:xs[i]?.map (·.1)=some (DataW.lit (.int k z)):=by rw [List.getElem?_eq_getElem hlt,h2];rfl
  have e3:=congrArg (·[i]?) hx2
  simp only [List.getElem?_map] at e3
  rw [e2] at e3
  rw [e1,List.getElem?_map]
  cases hq:l[i]? with
  | none=>rw [hq] at e3;cases e3
  | some y =>
   rw [hq] at e3
   simp only [Option.map_some,Option.some.injEq] at e3
   injection e3 with e4
   injection e4 with e5 e6
   rw [Option.map_some,e6]
 ·rw [List.getElem?_eq_none (by omega),List.getElem?_eq_none (by rw [List.length_map];omega)]
theorem If8 (P:Program) (W:World) {g:Nat} (hg:g<P.globals.size) {c':Array Value} {t e:TypeId} (hw:W.heap[g]?=some (.cells c' t (0,0))) {k:IntKind} {l:List Int} (hc:c'.toList=l.map (Value.int k)) :
  ∃ μ h,St P W μ h [pt g (.cells e true (l.map (Value.int k)))]:=by
 have hlt:g<W.heap.size:=(Array.getElem?_eq_some_iff.1 hw).1
 refine ⟨fun b=>if b=g then some (g,0) else none,⟨fun b=>if b<P.globals.size then (if b=g then some (.cells e true (l.map (Value.int k))) else some .dead) else none,P.globals.size⟩,⟨?_,?_,?_,?_,?_,?_,?_⟩,?_,?_⟩
 ·intro b hb
  by_cases h:b=g
  ·left;simp [h]
  ·right;simp [hb,h]
 ·intro b hb
  show (if b<P.globals.size then _ else _)=_
  rw [if_neg (by have:P.globals.size≤b:=hb;omega)]
 ·intro b x hx
  by_cases h:b=g
  ·subst h;exact hg
  ·rw [if_neg h] at hx;cases hx
 ·intro b g' δ hx
  by_cases h:b=g
  ·rw [if_pos h] at hx;cases hx;exact hlt
  ·rw [if_neg h] at hx;cases hx
 ·intro b g' δ e' ro c hx hb
  by_cases h:b=g
  ·rw [if_pos h] at hx
   subst h
   have hb:(if b<P.globals.size then (if b=b then some (Blk.cells e true (l.map (Value.int k))) else some .dead) else none)=some (.cells e' ro c):=hb
   cases hx
   rw [if_pos hg,if_pos rfl] at hb
   cases hb
   refine ⟨c',(0,0),⟨t,(fun hh=>by cases hh),hw⟩,?_,fun i v hi=>?_,fun hh=>by cases hh⟩
   ·rw [Nat.zero_add,← hc];simp
   ·have:c'.toList[i]?=some v:=by rw [hc];exact hi
    refine ⟨v,by rw [Nat.zero_add];simpa using this,?_⟩
    rw [List.getElem?_map] at hi
    cases hq:l[i]? with
    | none=>rw [hq] at hi;cases hi
    | some y=>rw [hq] at hi;cases hi;exact .int _ _
  ·rw [if_neg h] at hx;cases hx
 ·intro b g' δ es cl hx hb
  by_cases h:b=g
  ·subst h
   have hb:(if b<P.globals.size then (if b=b then some (Blk.cells e true (l.map (Value.int k))) else some .dead) else none)=some (.map es cl):=hb
   rw [if_pos hg,if_pos rfl] at hb
   cases hb
  ·rw [if_neg h] at hx;cases hx
 ·intro b b' g' δ δ' hx hx' _ _
  by_cases h:b=g
  ·by_cases h':b'=g
   ·rw [h,h']
   ·rw [if_neg h'] at hx';cases hx'
  ·rw [if_neg h] at hx;cases hx
 ·intro b hb
  have hb:(match (if b<P.globals.size then (if b=g then some (Blk.cells e true (l.map (Value.int k))) else some .dead) else none) with|some (.cells _ ro _)=>ro=false|some (.map _ _)=>True|_=>False):=hb
  by_cases h1:b<P.globals.size
  ·by_cases h:b=g
   ·rw [if_pos h1,if_pos h] at hb;cases hb
   ·rw [if_pos h1,if_neg h] at hb;exact hb
  ·rw [if_neg h1] at hb;exact hb
 ·refine ⟨fun b hb=>?_,fun b=>if b=g then some (.cells e true (l.map (Value.int k))) else none,fun _=>none,fun i=>.inr rfl,fun i x hx=>?_,fun i x hx=>?_,?_,trivial⟩
  ·show (if b<P.globals.size then _ else _)=_
   rw [if_neg (by have:P.globals.size≤b:=hb;omega)]
  ·have hx:(if i=g then some (Blk.cells e true (l.map (Value.int k))) else none)=some x:=hx
   by_cases h:i=g
   ·subst h
    rw [if_pos rfl] at hx
    show (if i<P.globals.size then (if i=i then _ else _) else _)=_
    rw [if_pos hg,if_pos rfl];exact hx
   ·rw [if_neg h] at hx;cases hx
  ·cases hx
  ·show (if g=g then _ else _)=_
   rw [if_pos rfl]
theorem Imp.runG {P:Program} {W:World} {cutsOf:FuncId→Cuts} (hm:P.follows .mixedOrders=true) (hng:∀ f,(cutsOf f).globs≤P.globals.size) {f:FuncId} {args:List Value} {φ:List Value→List HP→Prop} (i:Imp P W args φ)
  {g:Nat} (hg:g<P.globals.size) {c':Array Value} {t:TypeId} (e:TypeId) (hw:W.heap[g]?=some (.cells c' t (0,0))) {k:IntKind} {l:List Int} (hcc:c'.toList=l.map (Value.int k))
  (hc:∀ vs ps,φ vs ps→∀ h r,Own h (ps++(pt g (.cells e true (l.map (Value.int k)))::r))→∃ h',Call P cutsOf f vs h=some (.bool true,h')):Calls P f ⟨args⟩ W fun e w=>e=.returned (.bool true)∧Below W.heap.size W w:=by
 obtain ⟨μ0,h0,s0⟩:=If8 P W (e:=e) hg hw hcc
 obtain ⟨μ,h,vs,ps,s,_,hv,hφ⟩:=i μ0 h0 _ s0
 obtain ⟨h',e⟩:=hc vs ps hφ h [] s.own
 refine ((Gk4 hm hng f vs h _ _ e).2 μ W args s.rel hv).mono fun ex w ⟨u,he,μ1,x,r,hu⟩=>?_
 obtain rfl:=hu.bool_inv
 exact ⟨he,x.os,x.tape,x.output,x.size,fun k hk=>x.old k hk fun b δ _=>s.ro b⟩
theorem Gy8 (n:Nat):∀ (l:List (Nat × Cuts)),l.all (fun p=>Nat.ble p.2.globs n)=true→∀ f,(Gp7 l f).globs≤n
 | [],_,_=>Nat.zero_le _
 | (k,c)::l,h,f=>by
  simp only [List.all_cons,Bool.and_eq_true] at h
  show (bif Nat.beq k f then c else Gp7 l f).globs≤n
  cases Nat.beq k f
  ·exact Gy8 n l h.2 f
  ·exact Nat.le_of_ble_eq_true h.1
theorem Io0 {P:Program} {W:World} {laid:List (String × DataW Unit)} (h:laidMet P laid W) {nm:String} {k:IntKind} {l:List Int} (hx:(nm,DataW.agg (l.map fun n=>.lit (.int k n))) ∈ laid) {g n:Nat} {t e:TypeId}
  (hg:P.globalNamed nm=some g) (hgt:(P.globals[g]?).map (·.type)=some t) (ht:P.underlying t=some (.array n e)) (he:P.underlying e=some (.int k)) (hc:P.cellsOf e=1) (hn:P.cellsOf t=n) (h0:0<l.length) :
  ∃ c' t',W.heap[g]?=some (.cells c' t' (0,0))∧c'.toList=l.map (Value.int k):=by
 obtain ⟨ps,hl,_,hp⟩:=h
 have key:∀ (laid:List (String × DataW Unit)) (ps:List MemPlace),DataW.LaidVars P W laid ps→(nm,DataW.agg (l.map fun n=>.lit (.int k n))) ∈ laid→∃ cs,W.var? P nm=some cs∧cs.toList=l.map (Value.int k)∧MemPlace.cell g 0 ∈ ps:=by
  intro laid
  induction laid with
  | nil=>intro ps _ hm;cases hm
  | cons a r ih =>
   intro ps hl hm
   obtain ⟨n1,d1⟩:=a
   obtain ⟨g1,t1,cs,fuel,p,q,h1,h2,h3,h4,h5,rfl⟩:=hl
   rcases List.mem_cons.1 hm with hm|hm
   ·cases hm
    rw [hg] at h1;cases h1
    rw [hgt] at h2;cases h2
    have hcs:=Im9 ht he hc hn h4
    refine ⟨cs,h3,hcs,?_⟩
    apply List.mem_append_left
    apply List.mem_append_left
    unfold MemPlace.row
    rw [List.mem_map]
    have:cs.size=l.length:=by rw [← Array.length_toList,hcs,List.length_map]
    exact ⟨0,by rw [List.mem_range];omega,rfl⟩
   ·obtain ⟨cs,a1,a2,a3⟩:=ih q h5 hm
    exact ⟨cs,a1,a2,List.mem_append_right _ a3⟩
 obtain ⟨cs,h1,h2,h3⟩:=key laid ps hl hx
 obtain ⟨⟨c,t',h4⟩,_⟩:=hp g 0 h3
 unfold World.var? at h1
 rw [hg] at h1
 simp only [Option.bind_some,h4] at h1
 cases h1
 exact ⟨_,t',h4,h2⟩
end Go.NN

set_option maxRecDepth 100000
namespace Go.EQ
open Go Go.NN Go.Proofs Go.Proofs.YtonlefldpebcpaaGreatDoor Go.ChangeShapes Go.WideShapes Go.RowKit
theorem It2:∀ f,(cutsOf f).globs≤PR.globals.size:=fun f=>Nat.le_trans (Gy8 2 Ir1 (by kernel_rfl) f) (show 2≤PR.globals.size by decide +kernel)
theorem Iv2:PR.follows .mixedOrders=true:=by kernel_rfl
theorem I10:laidOutB PR=true:=by kernel_rfl
theorem I34:ownKnob PR.godebug=none:=by kernel_rfl
abbrev E20 {H : Type} : List (String × DataW H) := [("math/bits.deBruijn32tab", Rows.laid_math_bits_deBruijn32tab), ("math/bits.deBruijn64tab", Rows.laid_math_bits_deBruijn64tab)]
theorem Iw4 {H:Type} {enc:TypeId × Value→H} {W:World} {v0:Value} {d0:DataW H} {p0:List MemPlace} {b0:Nat} (k0:Value.okWide PR W .any b0 B3 v0)
  (h0:DataW.Trod enc PR W 0 (fun _=>true) true B3 v0 d0 p0) (hL:laidMetH Tryz.prog E20 W) :
  Calls PR D0 #[v0] W fun e W'=>e=.returned (.bool true)∧Below W.heap.size W W':=by
 obtain ⟨x0,_,i0⟩:=At3.argInt I29 k0 h0
 have hm:laidMet PR E20 W:=by rw [← MakeChecks.laidMetH_plain PR _ W (by kernel_rfl)];exact hL
 obtain ⟨c', t', hw, hc⟩ := Io0 hm (nm := "math/bits.deBruijn64tab") (k := .u8) (l := H48) (List.mem_cons_of_mem _ (List.mem_singleton.2 (Prod.ext rfl (show _ = Rows.laid_math_bits_deBruijn64tab by rfl)))) (g := 1) (n := 64) (t := H57) (e := A4) (by kernel_rfl) (by kernel_rfl) (by kernel_rfl) It3 (by kernel_rfl) (by kernel_rfl) (by decide)
 refine i0.runG Iv2 It2 (g:=1) (by decide +kernel) A4 hw hc fun vs ps J hh r o=>?_
 obtain ⟨rfl,rfl⟩:=J
 simp only [List.nil_append,List.append_nil,List.cons_append] at o ⊢
 obtain ⟨v,h',e,rfl⟩:=Gr5 x0 hh r o
 exact ⟨h',e⟩
theorem Im3 (os:Os) (args:Array Value):laidMetH Tryz.prog E20 ((World.doorLaid Tryz.prog 400 os).forCall (fun _ _=>0) ⟨#[],args,[]⟩).memory :=
 laidMetH_of_parts3 (fuel:=8) (laidMet_of_run' 8 (by kernel_rfl) (by kernel_rfl)) (by kernel_rfl) (by kernel_rfl)
theorem Ik7 (os:Os) (started:os.Started) (H:Type) (enc:TypeId × Value→H) :
  ReturnsInHanded {} Tryz.checked os D0 .any (fun w args=>(Rows.hostStoppedSpec.pre enc Tryz.prog Tryz.f3 [] false w args∧laidMetH Tryz.prog E20 w)∧sizedMet enc Tryz.prog Tryz.f3 (OpenSpec.ofChange Rows.hostStoppedSpec) false w args)
   (Rows.hostStoppedSpec.post enc Tryz.prog Tryz.f3 false true false false):=by
 refine returnsInHanded_of_change_and (C:=Tryz.checked) (X:=fun w _=>laidMetH Tryz.prog E20 w) (fun _ _ _ hh h=>h.of_heap hh) I34 started (by kernel_rfl) Tryz.func3
  (ChangeSpec.witness_shaped (enc:=enc) (C:=Tryz.checked) (os:=os) (X:=fun w _=>laidMetH Tryz.prog E20 w) false (World.doorLaid Tryz.prog 400 os) #[.int .i64 0] 8 rfl (World.shaped_of_RefB (by kernel_rfl) (by kernel_rfl)) (by kernel_rfl) (by kernel_rfl) (by kernel_rfl) (Im3 os _)) ?_
 intro W base args ds gs before hval hW _ _ hL _
 have hW':=hW
 obtain ⟨p,q,hA,hV,rfl,hfz,hnd⟩:=hW
 rw [Tryz.params3] at hA hval
 obtain ⟨v0,d0,rfl,rfl,h0⟩:=trodAll_one hA
 refine (Iw4 (hval 0 _ v0 rfl rfl) h0 hL).mono fun e W' ⟨he,hb⟩=>?_
 subst he
 refine ⟨_,rfl,H90 I10 ?_ rfl I02 rfl (fun ds gs hl=>?_) hW' hb⟩
 ·rw [Tryz.params3];intro t ht;simp at ht;subst ht
  all_goals exact ⟨by kernel_rfl,of_decide_eq_true (by kernel_rfl)⟩
 ·replace hl:ds.length=1:=hl
  cases gs with
  | cons _ _=>exact .inr (by simp)
  | nil=>match ds,hl with|[_],_=>exact .inl rfl
theorem Iy6:Tryz.pinned.checked.prog.funcNamed Rows.hostStoppedRow.func=some D0:=by kernel_rfl
theorem B0 {a b:Bool} (x:(a && b)=true):a=true:=by cases a<;>simp_all
theorem A47 {a b:Bool} (x:(a && b)=true):b=true:=by cases a<;>simp_all
theorem Ax8 {a b:Bool} (x:a=true) (y:b=true):(a && b)=true:=by rw [x,y];rfl
theorem I46:(Rows.hostStoppedRow.wf (OpenSpec.ofChange Rows.hostStoppedSpec) && laidOutB Tryz.pinned.checked.prog && mapsRowed Tryz.pinned.checked.prog && Tryz.f3.params.all (Tryz.pinned.checked.prog.readableRec ·) && namedTie Tryz.pinned.checked.prog Rows.hostStoppedRow.named Rows.hostStoppedSpec.vars && (Rows.hostStoppedRow.stops==[]) && (Tryz.pinned.checked.prog.stops==[]) && (Rows.hostStoppedRow.knobs==[]) && (Tryz.pinned.checked.prog.stopKnobs==[]))=true:=by kernel_rfl
theorem Hz5:((Rows.hostStoppedRow.inPlace==Tryz.pinned.checked.prog.inPlace D0) && (Rows.hostStoppedRow.unfollowed==Tryz.pinned.checked.prog.unfollowed D0) && (Rows.hostStoppedRow.recurses==Tryz.pinned.checked.prog.recurses D0) && (Rows.hostStoppedRow.named==Tryz.pinned.checked.prog.varsNamed D0))=true:=by kernel_rfl
theorem Bc0:((Rows.hostStoppedRow.maps==(Tryz.f3.params.toList++Rows.hostStoppedSpec.plain.varTypes Tryz.pinned.checked.prog).any (Tryz.pinned.checked.prog.mapsRec ·)) && (Rows.hostStoppedRow.ifaces==(Tryz.f3.params.toList++Rows.hostStoppedSpec.plain.varTypes Tryz.pinned.checked.prog).any (Tryz.pinned.checked.prog.ifacesRec ·)) && (Rows.hostStoppedRow.mapsOut==Tryz.pinned.checked.prog.mapsAmong Tryz.f3.resultTypes.toList) && (Rows.hostStoppedRow.loops==(Tryz.f3.params.toList++Rows.hostStoppedSpec.plain.varTypes Tryz.pinned.checked.prog).any (Tryz.pinned.checked.prog.loopsFrom ·)) && (Rows.hostStoppedRow.wideKeys==(Tryz.f3.params.toList++Rows.hostStoppedSpec.plain.varTypes Tryz.pinned.checked.prog++Tryz.f3.resultTypes.toList).any (Tryz.pinned.checked.prog.wideKeysFrom ·)) && Rows.hostStoppedSpec.vars.all (Tryz.pinned.checked.prog.varReadable ·) && Tryz.f3.resultTypes.all (fun t=>Tryz.pinned.checked.prog.readableRec t && decide (t<Tryz.pinned.checked.prog.types.size)) && (Rows.hostStoppedRow.ifacesOut==Tryz.f3.resultTypes.toList.any (Tryz.pinned.checked.prog.ifacesRec ·)) && (Rows.hostStoppedRow.loopsOut==Tryz.f3.resultTypes.toList.any (Tryz.pinned.checked.prog.loopsFrom ·)) && (Rows.hostStoppedRow.plainKeys==Tryz.pinned.checked.prog.plainKeys) && Rows.hostStoppedRow.shortTexts.isNone && Tryz.pinned.checked.prog.stopsHeard && Tryz.pinned.checked.prog.mayEnter && (Rows.hostStoppedRow.lifted==Tryz.pinned.checked.prog.liftsFinal) && (Tryz.pinned.checked.prog.make==some Rows.hostStoppedRow.make) && (Rows.hostStoppedRow.kinds==(if Rows.hostStoppedRow.domain.isEmpty then [] else Tryz.f3.params.toList.map fun t=>match Tryz.pinned.checked.prog.underlying t with|some (.int k)=>some k|_=>none)) && (Rows.hostStoppedRow.pinned==Rows.hostStoppedRow.pinnedBy) && (Rows.hostStoppedRow.veiled==(Tryz.f3.params.toList++Rows.hostStoppedSpec.plain.varTypes Tryz.pinned.checked.prog++Tryz.f3.resultTypes.toList).any (Tryz.pinned.checked.prog.veiledRec ·)) && Rows.hostStoppedRow.veiledFits Tryz.pinned.checked.prog Tryz.f3.params.toList (Tryz.f3.params.toList++Rows.hostStoppedSpec.plain.varTypes Tryz.pinned.checked.prog++Tryz.f3.resultTypes.toList))=true:=by kernel_rfl
theorem In8:joinedFacts Tryz.pinned.checked.prog D0 Tryz.f3 Rows.hostStoppedSpec Rows.hostStoppedRow=true:=by
 unfold joinedFacts
 exact (Ax8 (Ax8 (Ax8 (Ax8 (Ax8 (Ax8 (Ax8 (Ax8 (Ax8 (Ax8 (Ax8 (Ax8 (Ax8 (Ax8 (Ax8 (Ax8 (Ax8 (Ax8 (Ax8 (Ax8 (Ax8 (Ax8 (Ax8 I46 (B0 (B0 (B0 Hz5)))) (A47 (B0 (B0 Hz5)))) (A47 (B0 Hz5))) (A47 Hz5)) (B0 (B0 (B0 (B0 (B0 (B0 (B0 (B0 (B0 (B0 (B0 (B0 (B0 (B0 (B0 (B0 (B0 (B0 Bc0))))))))))))))))))) (A47 (B0 (B0 (B0 (B0 (B0 (B0 (B0 (B0 (B0 (B0 (B0 (B0 (B0 (B0 (B0 (B0 (B0 Bc0))))))))))))))))))) (A47 (B0 (B0 (B0 (B0 (B0 (B0 (B0 (B0 (B0 (B0 (B0 (B0 (B0 (B0 (B0 (B0 Bc0)))))))))))))))))) (A47 (B0 (B0 (B0 (B0 (B0 (B0 (B0 (B0 (B0 (B0 (B0 (B0 (B0 (B0 (B0 Bc0))))))))))))))))) (A47 (B0 (B0 (B0 (B0 (B0 (B0 (B0 (B0 (B0 (B0 (B0 (B0 (B0 (B0 Bc0)))))))))))))))) (A47 (B0 (B0 (B0 (B0 (B0 (B0 (B0 (B0 (B0 (B0 (B0 (B0 (B0 Bc0))))))))))))))) (A47 (B0 (B0 (B0 (B0 (B0 (B0 (B0 (B0 (B0 (B0 (B0 (B0 Bc0)))))))))))))) (A47 (B0 (B0 (B0 (B0 (B0 (B0 (B0 (B0 (B0 (B0 (B0 Bc0))))))))))))) (A47 (B0 (B0 (B0 (B0 (B0 (B0 (B0 (B0 (B0 (B0 Bc0)))))))))))) (A47 (B0 (B0 (B0 (B0 (B0 (B0 (B0 (B0 (B0 Bc0))))))))))) (A47 (B0 (B0 (B0 (B0 (B0 (B0 (B0 (B0 Bc0)))))))))) (A47 (B0 (B0 (B0 (B0 (B0 (B0 (B0 Bc0))))))))) (A47 (B0 (B0 (B0 (B0 (B0 (B0 Bc0)))))))) (A47 (B0 (B0 (B0 (B0 (B0 Bc0))))))) (A47 (B0 (B0 (B0 (B0 Bc0)))))) (A47 (B0 (B0 (B0 Bc0))))) (A47 (B0 (B0 Bc0)))) (A47 (B0 Bc0))) (A47 Bc0))
theorem Iz8:Tryz.f3.isInstance Tryz.pinned.checked.prog Rows.hostStoppedRow.origin Rows.hostStoppedRow.targs:=of_decide_eq_true (by kernel_rfl)
theorem Iy2:Tryz.f3.isWrapper Tryz.pinned.checked.prog Rows.hostStoppedRow.wrapper Rows.hostStoppedRow.mainSum:=by unfold Func.isWrapper;first|(rw [if_pos (by decide +kernel)];kernel_rfl)|(rw [if_neg (by decide +kernel)];exact ⟨rfl,rfl⟩)
theorem I32:Rows.HostStoppedSaid :=
 OpenClaim.holds_of_wide D0 Tryz.f3 rfl rfl rfl rfl rfl rfl rfl ⟨rfl,rfl,rfl,rfl,rfl⟩ rfl rfl rfl rfl rfl Iy6 Tryz.func3 In8 Iz8 Iy2
  (fun os started H enc _=>Ik7 os started H enc)
theorem HostStopped_holds:Rows.HostStoppedCardSaid :=
 Claim7.holds_tied_plain_at .later [] [.data, .data] true (true, "6abb6189450580e97e10011ec0d2f79ddb92c782cabbe0c99113948bcd4fa8b9") false
  I32 (fun _ h=>by cases h) (by kernel_rfl) (fun _ h=>by cases h) hostStopped_row_tie rfl ⟨rfl,rfl⟩ (by kernel_rfl) rfl
  (fun f fn hf hfn=>by
   obtain rfl : f = D0 := Option.some.inj ((show Tryz.prog.funcNamed "commonage/commonagelaw21.HostStopped" = some D0 by kernel_rfl).symm.trans hf) |>.symm
   obtain rfl:fn=Tryz.f3:=(Option.some.inj (Tryz.func3.symm.trans hfn)).symm
   exact ⟨by kernel_rfl,fun j t ht=>by
    rw [Tryz.params3] at ht
    have hm:t ∈ [B3]:=by simpa using Array.mem_of_getElem? ht
    have hall:([B3].all fun u=>!Tryz.prog.wantsStandIn u)=true:=by kernel_rfl
    exact (show Tryz.prog.wantsStandIn t=false by simpa using List.all_eq_true.1 hall t hm)⟩)
  (by kernel_rfl)
end Go.EQ
