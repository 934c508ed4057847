/- One that is in and never picked again holds the others up for no longer than the lease; picked later it begins anew, and does its call once. -/
import Derived.Test.YtonlefldpebcpaaGreatDoorMj
set_option linter.all false
set_option maxRecDepth 10000
namespace Go.EQ
open Go Go.NN
def cnt (v:Int):List Int→Int
 | []=>0
 | x::l=>(if x=v then 1 else 0)+cnt v l
theorem Gy7 (v:Int):∀ l:List Int,0≤cnt v l∧cnt v l≤l.length
 | []=>by simp [cnt]
 | x::l=>by
  have:=Gy7 v l
  unfold cnt;rw [List.length_cons];split<;>omega
theorem Hy7 (v:Int):∀ (l:List Int) (j:Nat),j<l.length→l.getD j 0=v→1≤cnt v l
 | [],j,h,_=>by simp at h
 | x::l,0,_,e=>by
  have:=Gy7 v l
  rw [List.getD_cons_zero] at e
  unfold cnt;rw [if_pos e];omega
 | x::l,j+1,h,e=>by
  rw [List.getD_cons_succ] at e
  have:=Hy7 v l j (by simpa using h) e
  unfold cnt;split<;>omega
theorem Hz8 (v w:Int):∀ (l:List Int) (j:Nat),j<l.length→cnt v (l.set j w)=cnt v l-(if l.getD j 0=v then 1 else 0)+(if w=v then 1 else 0)
 | [],j,h=>by simp at h
 | x::l,0,_=>by
  rw [List.set_cons_zero,List.getD_cons_zero,cnt,cnt];omega
 | x::l,j+1,h=>by
  have:=Hz8 v w l j (by simpa using h)
  rw [List.set_cons_succ,List.getD_cons_succ,cnt,cnt,this];omega
theorem Ij6 (l:List Int) (j n:Nat) (w:Int) (h:j<l.length):(l.set j w).getD n 0=if n=j then w else l.getD n 0:=by
 rw [List.getD_eq_getElem?_getD,List.getD_eq_getElem?_getD,List.getElem?_set]
 by_cases hj:j=n
 ·subst hj;simp [h]
 ·rw [if_neg hj,if_neg (fun e=>hj e.symm)]
structure Own8 (ow:List Int) (r:Int→Int):Prop where
 len:ow.length=8
 rng:∀ j:Nat,0≤ow.getD j 0∧ow.getD j 0≤3
 ct:∀ v:Int,1≤v→v≤3→r v=cnt v ow
theorem Own8.pos {ow:List Int} {r:Int→Int} (I:Own8 ow r) {j:Nat} (hj:j<8) (h:ow.getD j 0>0):1≤r (ow.getD j 0):=by
 rw [I.ct _ (by omega) (I.rng j).2];exact Hy7 _ _ j (by rw [I.len];exact hj) rfl
theorem Own8.nn {ow:List Int} {r:Int→Int} (I:Own8 ow r) {v:Int} (h:1≤v∧v≤3):0≤r v∧r v≤8:=by
 rw [I.ct v h.1 h.2];have:=Gy7 v ow;have:=I.len;omega
theorem Own8.set {ow:List Int} {r:Int→Int} (I:Own8 ow r) {j:Nat} (hj:j<8) {w:Int} (hw:0≤w∧w≤3) {r':Int→Int} (hr:∀ v:Int,1≤v→v≤3→r' v=r v-(if ow.getD j 0=v then 1 else 0)+(if w=v then 1 else 0)):Own8 (ow.set j w) r':=by
 refine ⟨by rw [List.length_set];exact I.len,fun n=>?_,fun v h1 h2=>?_⟩
 ·rw [Ij6 _ _ _ _ (by rw [I.len];exact hj)]
  split
  ·exact hw
  ·exact I.rng n
 ·rw [hr v h1 h2,Hz8 _ _ _ _ (by rw [I.len];exact hj),I.ct v h1 h2]
section
variable {ow:List Int} {h:ow.length=8} {r:Int→Int} (I:Own8 ow r)
include I
def r2 (r:Int→Int) (w v:Int):Int→Int:=rr (if w>0 then rr r w (-1) else r) v 1
end
theorem I88 {h:H} {ro:Bool} {e:TypeId} {sz:Nat} {a:Option Addr} {n c:Nat} {cs:List Value} {r:List HP} (m:Nat) (hm:m≤n) (o:Own h (slC ro e sz a n c cs::r)):Own h (slC ro e sz a m c (cs.take (m*sz))::r):=by
 cases a with
 | none =>
  obtain ⟨rfl,rfl,rfl,hs⟩:=o.slNone
  obtain rfl:m=0:=by omega
  simpa using o
 | some x =>
  obtain ⟨b,o',sp⟩:=x
  obtain ⟨pre,post,o2,h1,h2,h3,h4,h5,h6,h7⟩:=o.slOpen
  have hl:m*sz≤cs.length:=by rw [← h1];exact Nat.mul_le_mul_right _ hm
  have e1:pre++cs++post=pre++cs.take (m*sz)++(cs.drop (m*sz)++post):=by rw [List.append_assoc pre cs,List.append_assoc pre,← List.append_assoc (cs.take _),List.take_append_drop]
  rw [e1] at o2
  refine Own.slShut (b:=b) (o:=o') (sp:=sp) o2 ⟨by rw [List.length_take];omega,by omega,?_,h4,h5,h6,h7⟩
  rw [List.length_append,List.length_drop,← h1]
  have:(c-m)*sz=(c-n)*sz+(n*sz-m*sz):=by rw [← Nat.sub_mul,← Nat.add_mul];congr 1;omega
  omega
theorem I66 {h:H} {e:TypeId} {sz:Nat} {a:Option Addr} {n c:Nat} {cs:List Value} {r:List HP} (o:Own h (slC false e sz a n c cs::r)):Own h (slC false e sz (B78 a) n n cs::r):=by
 cases a with
 | none=>obtain ⟨rfl,rfl,rfl,hs⟩:=o.slNone;exact o
 | some x =>
  obtain ⟨b,o',sp⟩:=x
  obtain ⟨pre,post,o2,h1,h2,h3,h4,h5,h6,h7⟩:=o.slOpen
  refine Own.slShut (b:=b) (o:=o') (sp:=none) o2 ⟨h1,by omega,by simp,fun h=>h4 (by omega),fun h=>absurd rfl h,h6,fun h=>?_⟩
  rcases Nat.eq_zero_or_pos c with hc|hc
  ·exact h7 hc
  ·have:=h4 hc;omega
theorem Ik5 {l:List HP} {h:H} {α:Type} {Q:α→H→Prop} {ro:Bool} {e:TypeId} {sz:Nat} {a:Option Addr} {n c:Nat} {cs:List Value} {z:Option (α × H)} (i:Nat) (hi:l[i]?=some (slC ro e sz a n c cs)) (m:Nat) (cs':List Value) (hm:m≤n) (hc:cs.take (m*sz)=cs')
  (k:Tr (l.set i (slC ro e sz a m c cs')) h z Q):Tr l h z Q:=fun o=>by
 subst hc;exact k (Own.back (h:=h) hi (I88 m hm (o.front hi)))
theorem Hx3 (a:Option Addr) (n c:Nat) (cs:List Value):Ct A9 W4 [.slice a n c] [slC false A7 1 a n c cs] fun v own=>v=.slice (B78 a) n n∧own [slC false A7 1 (B78 a) n n cs]:=by
 refine Ct.of Dn6 rfl fun h r=>Tr.eq (Dr9 ..) ?_;refine Je ?_
 refine V7 0 rfl fun hl hc _=>?_
 simp only [Int.toNat_natCast]
 (refine Ja ?_;unhygienic intros)
 refine Ys fun o=>?_
 refine ⟨?_,I66 o⟩
 simp
abbrev bytesN (p:PipeS) (i:Nat):List UInt8:=(List.range i).map fun (j:Nat)=>p.data.getD (((p.head+j)%32).toNat) 0
abbrev N9 (p:PipeS):List UInt8:=bytesN p p.count.toNat
theorem Ao1 {p:PipeS} (h:okP p=true):(0≤p.head∧p.head≤31)∧(0≤p.count∧p.count≤32)∧(0≤p.readers∧p.readers≤8)∧(0≤p.writers∧p.writers≤8):=by
 simp only [okP,Bool.and_eq_true,decide_eq_true_eq] at h;omega
theorem Hy0 {l:List UInt8} {j:Nat} (h:j<l.length):(A0 l)[j]?=some (.int .u8 (l.getD j 0).toNat):=by
 unfold A0
 rw [List.getElem?_map,List.getElem?_eq_getElem h,List.getD_eq_getElem?_getD,List.getElem?_eq_getElem h];rfl
theorem Ij0 (p:PipeS) {j:Nat} (h:j<32):(G1 p)[4+j]?=some (.int .u8 (p.data.getD j 0).toNat):=by
 rw [show 4+j=j+4 by omega]
 exact Hy0 (by rw [p.len];exact h)
theorem Ev3 (b:Nat) (p:PipeS) (hp:okP p=true):∀ (m i:Nat) (a:Option Addr) (ac:Nat),(i:Int)+m=p.count→CtJ I2 An4 Bi9 [(1,P0 b),(3,.slice a i ac),(9,int p.count),(10,int i)] [pt b (.cells D3 false (G1 p)),slC false A7 1 a i ac (A0 (bytesN p i))] fun v own =>
  ∃ a' c',v=.slice a' p.count.toNat c'∧own [slC false A7 1 a' p.count.toNat c' (A0 (N9 p))]
 | 0,i,a,ac,hi=>by
  obtain rfl:i=p.count.toNat:=by omega
  refine CtJ.of Du9 fun h r=>Tr.eq (D12 ..) ?_;refine Je ?_
  refine Yf (by simp;omega) ?_
  refine Ys fun o=>?_
  exact ⟨a,ac,rfl,o.sub⟩
 | m+1,i,a,ac,hi=>by
  obtain ⟨r1,r2,r3,r4⟩:=Ao1 hp
  have e1:=wN i
  have e2:IntKind.wrap .i64 (p.head+i)=p.head+i:=by rw [B6];omega
  have hg:=Ij0 p (j:=((p.head+i)%32).toNat) (by omega)
  refine CtJ.of Du9 fun h r=>Tr.eq (D12 ..) ?_;refine Je ?_
  refine Yt (by simp;omega) ?_
  rw [e1]
  (refine Ja ?_;unhygienic intros)
  rw [e2,Ia7 (show 0≤p.head+(i:Int) by omega)]
  (refine Ja ?_;unhygienic intros)
  refine V7 2 rfl fun hl hc _=>?_
  refine Tr.xApd (new:=A0 [p.data.getD (((p.head+i)%32).toNat) 0]) ⟨rfl,rfl,by simp only [B1];omega⟩ fun a2 c2 h=>?_
  have H:=Ev3 b p hp m (i+1) a2 c2 (by omega)
  refine (?_:Tr (pt b_1 _::pt b _::slC false A7 1 a2 (i+1) c2 (A0 (bytesN p i)++A0 [p.data.getD (((p.head+i)%32).toNat) 0])::_) _ _ _)
  rw [← I63,show bytesN p i++[p.data.getD (((p.head+i)%32).toNat) 0]=bytesN p (i+1) by unfold bytesN;rw [List.range_succ,List.map_append];rfl]
  refine Ab2 [1,1] 1 rfl rfl ?_
  exact Yr H fun v h q=>q
theorem Ek9 (p:PipeS):(N9 p).length=p.count.toNat:=by simp [N9]
theorem Ih5 (p:PipeS) (hp:okP p=true):Ct A9 An4 [.agg ⟨G1 p⟩] [] fun v own=>∃ a c,v=.slice a p.count.toNat c∧own [slC false A7 1 a p.count.toNat c (A0 (N9 p))]:=by
 refine Ct.of Du9 rfl fun h r=>Tr.eq (Hk3 ..) ?_;refine Je ?_
 (refine Ja ?_;unhygienic intros)
 refine Yc (Hj9 p) ?_;rintro _ h ⟨rfl,o⟩<;>refine Jh o ?_
 rw [hp]
 (refine Ja ?_;unhygienic intros)
 refine G4 false A7 1 (by omega) ?_
 have H:=fun b=>Ev3 b p hp p.count.toNat 0 none 0 (by have:=Ao1 hp;omega)
 refine (?_:Tr (slC false A7 1 none 0 0 (A0 (bytesN p 0))::_) _ _ _)
 exact Yr (H _) fun v h q=>q
abbrev Bb8 (p:PipeS) (m:Nat):PipeS:=if 0<m then ⟨(p.head+m)%32,p.count-m,p.readers,p.writers,p.data,p.len⟩ else p
theorem It5 (p:PipeS) (hp:okP p=true) (n:Int) (hn:0≤n∧n≤32):Ct A9 Df6 [.agg ⟨G1 p⟩,int n] [] fun v own=>∃ a c,v=.tuple ⟨[.agg ⟨G1 (Bb8 p (min n.toNat p.count.toNat))⟩,.slice a (min n.toNat p.count.toNat) c]⟩∧own [slC false A7 1 a (min n.toNat p.count.toNat) c (A0 ((N9 p).take (min n.toNat p.count.toNat)))]:=by
 obtain ⟨r1,r2,r3,r4⟩:=Ao1 hp
 refine Ct.of Hp5 rfl fun h r=>Tr.eq (Ht6 ..) ?_;refine Je ?_
 (refine Ja ?_;unhygienic intros)
 refine Yc (Ih5 p hp) ?_
 rintro _ h ⟨a,c,rfl,o⟩
 refine Jh o ?_
 refine Tr.dx ?_
 simp only [Aa1,W9]
 have e:min (max n 0) ((p.count.toNat:Nat):Int)=((min n.toNat p.count.toNat:Nat):Int):=by omega
 have hle:min n.toNat p.count.toNat≤p.count.toNat:=by omega
 rw [e]
 simp only [Int.toNat_natCast]
 generalize min n.toNat p.count.toNat=m at hle
 refine V7 0 rfl fun hl hc _=>?_
 (refine Ja ?_;unhygienic intros)
 refine Ik5 0 rfl m (A0 ((N9 p).take m)) hle (by rw [Nat.mul_one,Ix0]) ?_
 refine (?_:Tr (slC false A7 1 a m c (A0 ((N9 p).take m))::_::_::_) _ _ _)
 by_cases hm:0<m
 ·rw [show Bb8 p m=⟨(p.head+m)%32,p.count-m,p.readers,p.writers,p.data,p.len⟩ from if_pos hm]
  refine Yt (by simpa using hm) ?_
  (refine Ja ?_;unhygienic intros)
  rw [show Int.tmod (IntKind.wrap .i64 (p.head+m)) 32=(p.head+m)%32 by rw [show IntKind.wrap .i64 (p.head+m)=p.head+m by rw [B6];omega,Ia7 (show 0≤p.head+(m:Int) by omega)],show IntKind.wrap .i64 (p.count-m)=p.count-m by rw [B6];omega]
  refine (?_:Tr (_::_::pt _ (.cells D3 false (G1 ⟨(p.head+m)%32,p.count-m,p.readers,p.writers,p.data,p.len⟩))::_) _ _ _)
  generalize (⟨(p.head+m)%32,p.count-m,p.readers,p.writers,p.data,p.len⟩:PipeS)=q
  (refine Ja ?_;unhygienic intros)
  refine Yc (Hx3 a m c (A0 ((N9 p).take m))) ?_;rintro _ h ⟨rfl,o⟩<;>refine Jh o ?_
  (refine Ja ?_;unhygienic intros)
  refine Ys fun o=>?_
  exact ⟨B78 a,m,rfl,o.sub⟩
 ·rw [show Bb8 p m=p from if_neg hm]
  refine Yf (by simpa using hm) ?_
  (refine Ja ?_;unhygienic intros)
  refine Yc (Hx3 a m c (A0 ((N9 p).take m))) ?_;rintro _ h ⟨rfl,o⟩<;>refine Jh o ?_
  (refine Ja ?_;unhygienic intros)
  refine Ys fun o=>?_
  exact ⟨B78 a,m,rfl,o.sub⟩
theorem If8 (p:PipeS) {j:Nat} (h:j<32) (x:UInt8):Dk9 (G1 p) (4+j) (.int .u8 x.toNat)=some (G1 ⟨p.head,p.count,p.readers,p.writers,p.data.set j x,by rw [List.length_set];exact p.len⟩):=by
 have e:Nat.blt (4+j) (G1 p).length=true:=by rw [Ae6 p.len];exact Nat.ble_eq_true_of_le (by omega)
 unfold Dk9
 rw [e,show 4+j=j+4 by omega]
 show some ((G1 p).set (j+4) _)=_
 simp only [G1,List.set_cons_succ,A0,List.map_set]
abbrev Ax7 (p:PipeS) (b:UInt8):PipeS:=⟨p.head,p.count+1,p.readers,p.writers,p.data.set (((p.head+p.count)%32).toNat) b,by rw [List.length_set];exact p.len⟩
def N3:PipeS→List UInt8→PipeS × Int
 | p,[]=>(p,0)
 | p,b::l=>if p.count=32 then (p,0) else ((N3 (Ax7 p b) l).1,(N3 (Ax7 p b) l).2+1)
theorem G17:∀ (l:List UInt8) (p:PipeS),0≤(N3 p l).2∧(N3 p l).2≤l.length
 | [],p=>by simp [N3]
 | b::l,p=>by
  have:=G17 l (Ax7 p b)
  unfold N3;split<;>simp<;>omega
theorem Gh7 {p:PipeS} (h:okP p=true) (hc:p.count≠32) (b:UInt8):okP (Ax7 p b)=true:=by
 have:=Ao1 h
 simp only [okP,Bool.and_eq_true,decide_eq_true_eq] at h ⊢;omega
theorem Gq7 (b1 b2:Nat) (pb:HP) (a:Option Addr) (ro:Bool) (cc:Nat) (l:List UInt8) (hl:l.length≤1000) [ks:IsSl pb a ro A7 1 l.length cc (A0 l)] (z:PipeS):∀ (m i:Nat) (n:Int) (p:PipeS),okP p=true→i+m=l.length→0≤n→n≤i →
  CtJ I2 A03 Bv9 [(2,P0 b1),(4,P0 b2),(6,int n),(13,.slice a l.length cc),(14,int l.length),(15,int i)] [pt b1 (.cells D3 false (G1 p)),pt b2 (.cells D3 false (G1 z)),pb] fun v own =>
   v=.tuple ⟨[.agg ⟨G1 (N3 p (l.drop i)).1⟩,int (n+(N3 p (l.drop i)).2)]⟩∧own [pb]
 | 0,i,n,p,hp,hi,h0,hn=>by
  rw [List.drop_eq_nil_of_le (by omega),show N3 p []=(p,0) from rfl,Int.add_zero]
  refine CtJ.of Eh4 fun h r=>Tr.eq (Ep2 ..) ?_;refine Je ?_
  refine Yf (by simp;omega) ?_
  (refine Ja ?_;unhygienic intros)
  refine Ys fun o=>?_
  exact ⟨rfl,o.sub⟩
 | m+1,i,n,p,hp,hi,h0,hn=>by
  obtain ⟨r1,r2,r3,r4⟩:=Ao1 hp
  have hil:i<l.length:=by omega
  have hg:=Hy0 hil
  have hd:l.drop i=l.getD i 0::l.drop (i+1):=by
   rw [List.drop_eq_getElem_cons hil,List.getD_eq_getElem?_getD,List.getElem?_eq_getElem hil];rfl
  rw [hd,N3]
  generalize l.getD i 0=x at hg
  have e1:=wN i
  have e2:=wI n
  refine CtJ.of Eh4 fun h r=>Tr.eq (Ep2 ..) ?_;refine Je ?_
  refine Yt (by simp;omega) ?_
  rw [e1,e2]
  simp only [Int.toNat_natCast]
  (refine Ja ?_;unhygienic intros;repeat(refine Gw ?_;rintro px rfl;refine Ja ?_;unhygienic intros))
  by_cases hc:p.count=32
  ·rw [if_pos hc]
   refine Yt (by simpa using hc) ?_
   (refine Ja ?_;unhygienic intros)
   refine Ys fun o=>?_
   rw [Int.add_zero]
   exact ⟨rfl,o.sub⟩
  rw [if_neg hc]
  refine Yf (by simpa using hc) ?_
  have e3:Int.tmod (IntKind.wrap .i64 (p.head+p.count)) 32=(p.head+p.count)%32:=by
   rw [show IntKind.wrap .i64 (p.head+p.count)=p.head+p.count by rw [B6];omega,Ia7 (show 0≤p.head+p.count by omega)]
  have hs:=If8 p (j:=((p.head+p.count)%32).toNat) (by omega) x
  have H:=Gq7 b1 b2 pb (some px) ro cc l hl z m (i+1) (n+1) (Ax7 p x) (Gh7 hp hc x) (by omega) (by omega) (by omega)
  (refine Ja ?_;unhygienic intros)
  rw [e3]
  (refine Ja ?_;unhygienic intros)
  dsimp only
  rw [show IntKind.wrap .i64 (p.count+1)=p.count+1 by rw [B6];omega]
  refine (?_:Tr (pt b1 (.cells D3 false (G1 (Ax7 p x)))::pt b2 (.cells D3 false (G1 z))::pb::_) _ _ _)
  refine Yr H ?_
  intro v h q
  obtain ⟨rfl,o⟩:=q
  exact ⟨by rw [Int.add_right_comm,Int.add_assoc],o⟩
theorem Hx5 (p:PipeS) (hp:okP p=true) (pb:HP) (a:Option Addr) (ro:Bool) (cc:Nat) (l:List UInt8) (hl:l.length≤1000) [ks:IsSl pb a ro A7 1 l.length cc (A0 l)] :
  Ct A9 A03 [.agg ⟨G1 p⟩,.slice a l.length cc] [pb] fun v own=>v=.tuple ⟨[.agg ⟨G1 (N3 p l).1⟩,int (N3 p l).2]⟩∧own [pb]:=by
 refine Ct.of Eh4 rfl fun h r=>Tr.eq (H87 ..) ?_;refine Je ?_
 (refine Ja ?_;unhygienic intros)
 refine Yc (Hj9 p) ?_;rintro _ h ⟨rfl,o⟩<;>refine Jh o ?_
 rw [hp]
 (refine Ja ?_;unhygienic intros)
 have H:=fun b1 b2=>Gq7 b1 b2 pb a ro cc l hl .zero l.length 0 0 p hp (by omega) (by omega) (by omega)
 rw [List.drop_zero,Int.zero_add] at H
 refine (?_:Tr (pt _ (.cells D3 false (G1 .zero))::pt _ (.cells D3 false (G1 p))::pb::_) _ _ _)
 exact Yr (H _ _) fun v h q=>q
abbrev vT (X:CX):PipeS × Int:=U7 (rd X ⟨4,0⟩)
theorem Ja6 {nc:Nat}:Rin nc ⟨4,0⟩:=⟨by simp,by simp,by simp,by simp [Aa6]⟩
theorem Gt8 {nc:Nat} {X:CX} (c:Clean nc X) {i:Int} (h:0≤i∧i<3+nc) {q:PipeS} (ok:okP q=true):vT (A79 X i q)=vT X:=by
 have hl:(M7 q).length=Af7 (3:Int):=by rw [Bm7 q.len];rfl
 show U7 (rd _ _)=_
 rw [Am5 c (Bm3 h) Ja6 hl,if_neg (by simp)]
theorem By9 (e:Int):Ct A9 S7 [int e] [] fun v own=>v=.agg ⟨U9 0 e false⟩∧own []:=by
 refine Ct.of Ha3 rfl fun h r=>Tr.eq (Hn4 ..) ?_;refine Je ?_
 (refine Ja ?_;intros)
 refine Ys fun o=>?_
 exact ⟨rfl,o.tail⟩
theorem Gj8 (f:FileS):Ct A9 Ay7 [.agg ⟨Aj8 f⟩] [] fun v own=>v=.agg ⟨if f.flags=1 then U9 0 111 false else U9 0 0 true⟩∧own []:=by
 refine Ct.of G79 rfl fun h r=>Tr.eq (G53 ..) ?_;refine Je ?_
 (refine Jb ?_;intros)
 by_cases h1:f.flags=1
 ·rw [if_pos h1]
  refine Yt (by simpa using h1) ?_
  refine Yc (By9 111) ?_;rintro _ h ⟨rfl,o⟩<;>(refine Jf o ?_;intros)
  refine Ys fun o=>?_
  exact ⟨rfl,o.sub⟩
 ·rw [if_neg h1]
  refine Yf (by simpa using h1) ?_
  (refine Ja ?_;intros)
  refine Ys fun o=>?_
  exact ⟨rfl,o.sub⟩
abbrev Dr1 (b b1:Nat):Value:=.func (.func Ba1) ⟨[]⟩ ⟨[P0 b,P0 b1]⟩
theorem Gt6 (c k b b1:Nat) (F:Fr) (X:CX) (ok:FrOk F) (f:FileS) (q:PipeS):Ct A9 Ba1 [.agg ⟨G1 q⟩,P0 b,P0 b1] [cmC c k F X,pt b (.cells R0 false [P0 c]),pt b1 (.cells D8 false (Aj8 f))] fun v own =>
  v=.bool (Bc2 X f.pipe q).1∧own [cmC c k F (Bc2 X f.pipe q).2,pt b (.cells R0 false [P0 c]),pt b1 (.cells D8 false (Aj8 f))]:=by
 refine Ct.of Hf2 rfl fun h r=>Tr.eq (Ho0 ..) ?_;refine Je ?_
 (refine Ja ?_;intros)
 refine Yc (Gc5 c k F X ok f.pipe q) ?_;rintro _ h ⟨rfl,o⟩<;>(refine Jf o ?_;intros)
 refine Ys fun o=>?_
 exact ⟨rfl,o.sub⟩
def An7 (q:PipeS) (v:Value):List Value:=G1 q++[v]
theorem Du0 (q:PipeS) (v:Value):(An7 q v).length=37:=by unfold An7;rw [List.length_append,Ae6 q.len];rfl
theorem It6 (q:PipeS) (x:Fn) (y z:Array Value):(An7 q (.func x y z)).all Value.oneCell=true:=by unfold An7;rw [List.all_append,G29];rfl
instance {q:PipeS} {v:Value}:LenC (An7 q v) 37:=⟨Du0 q v⟩
instance {q:PipeS} {v:Value}:PartC (An7 q v) 0 37 (An7 q v):=⟨B10 (Du0 q v)⟩
instance {q:PipeS} {v:Value}:PartC (An7 q v) 0 36 (G1 q):=⟨by
 unfold Df3
 rw [Nat.ble_eq_true_of_le (by rw [Du0];omega),List.drop_zero]
 unfold An7
 rw [List.take_left' (Ae6 q.len)];rfl⟩
instance {q:PipeS} {x:Fn} {y z:Array Value} {cs:List Value} [k:LenC cs 37]:SetsC cs 0 (An7 q (.func x y z)) (An7 q (.func x y z)):=⟨Bl1 k.ok (Du0 q _) (It6 q x y z)⟩
theorem Ij4 (c k:Nat) (F:Fr) (X:CX) (ok:FrOk F) {nc:Nat} (cl:Clean nc X) (f:FileS) (h3:f.kind≠3) (hp:0≤f.pipe∧f.pipe<3+nc):Ct A9 B29 [P0 c,.agg ⟨Aj8 f⟩] [cmC c k F X] fun v own =>
  ∃ b b1,v=.tuple ⟨[.agg ⟨An7 (vP X f.pipe).1 (Dr1 b b1)⟩,.bool ((vP X f.pipe).2==1)]⟩∧own [cmC c k F X,pt b (.cells R0 false [P0 c]),pt b1 (.cells D8 false (Aj8 f))]:=by
 refine Ct.of H35 rfl fun h r=>Tr.eq (H20 ..) ?_;refine Je ?_
 refine Yn fun b h=>?_
 refine Yn fun b1 h=>?_
 refine Yn fun b2 h=>?_
 (refine Ja ?_;intros)
 refine Yf (by simpa using h3) ?_
 (refine Ja ?_;intros)
 refine Yc (Gk5 c k F X ok f.pipe) ?_;rintro _ h ⟨rfl,o⟩<;>refine Jh o ?_
 rw [Ea5 cl hp]
 dsimp only
 generalize (vP X f.pipe).1=q
 (refine Jc ?_;intros)
 refine Yn fun b3 h=>?_
 (refine Jc ?_;intros)
 refine Tr.ck (Du0 q _) ?_
 refine (?_:Tr _ _ (pAgg ⟨b2,0,none⟩ (An7 q (Dr1 b b1)) _ _) _)
 (refine Ja ?_;intros)
 refine Ys fun o=>?_
 exact ⟨b,b1,rfl,o.sub⟩
def Aa0 (V:VW) (i fd n:Int):FileS × Int :=
 if (ofW V i fd).2≠0 then ((ofW V i fd).1.2,(ofW V i fd).2)
 else if (ofW V i fd).1.2.kind=2 then ((ofW V i fd).1.2,109)
 else if n<0∨n>32 then ((ofW V i fd).1.2,122)
 else ((ofW V i fd).1.2,0)
theorem I65 (c k:Nat) (F:Fr) (X:CX) (ok:FrOk F) (V:VW) (A:See X V) (i fd n:Int) (hi:0≤i∧i<8) (h3:(ofW V i fd).1.2.kind≠3):Ct A9 De3 [P0 c,int i,int fd,int n] [cmC c k F X] fun v own=>v=.tuple ⟨[.agg ⟨Aj8 (Aa0 V i fd n).1⟩,int (Aa0 V i fd n).2]⟩∧own [cmC c k F X]:=by
 have eo:=A.ofv hi fd
 unfold Aa0
 refine Ct.of Hp9 rfl fun h r=>Tr.eq (Hs0 ..) ?_;refine Je ?_
 refine Yn fun b0 h=>?_
 refine Yc (Iu6 c k F X ok A.c i fd hi) ?_;rintro _ h ⟨rfl,o⟩<;>refine Jh o ?_
 rw [eo]
 (refine Jc ?_;intros)
 refine Yn fun b1 h=>?_
 (refine Jb ?_;intros)
 generalize (ofW V i fd).1.2=x at *
 generalize (ofW V i fd).2=e at *
 by_cases h1:e=0
 case neg =>
  rw [if_pos h1]
  refine Yt (by simpa using h1) ?_
  (refine Ja ?_;intros)
  refine Ys fun o=>?_
  exact ⟨rfl,o.sub⟩
 have n1:¬ e≠0:=by simpa using h1
 rw [if_neg n1]
 refine Yf (by simpa using h1) ?_
 (refine Ja ?_;intros)
 by_cases h2:x.kind=2
 ·rw [if_pos h2]
  refine Yt (by simpa using h2) ?_
  (refine Ja ?_;intros)
  refine Ys fun o=>?_
  exact ⟨rfl,o.sub⟩
 rw [if_neg h2]
 refine Yf (by simpa using h2) ?_
 by_cases h4:n<0
 ·rw [if_pos (.inl h4)]
  refine Yb (Yt (by simpa using h4) ?_)
  refine Ys fun o=>(?_:Tr _ _ _ _) o;refine Je ?_
  refine Yt rfl ?_
  (refine Ja ?_;intros)
  refine Ys fun o=>?_
  exact ⟨rfl,o.sub⟩
 refine Yb (Yf (by simpa using h4) ?_)
 refine Ys fun o=>(?_:Tr _ _ _ _) o;refine Je ?_
 by_cases h5:n>32
 ·rw [if_pos (.inr h5)]
  refine Yt (by simpa using h5) ?_
  (refine Ja ?_;intros)
  refine Ys fun o=>?_
  exact ⟨rfl,o.sub⟩
 rw [if_neg (fun h=>h.elim h4 h5)]
 refine Yf (by simpa using h5) ?_
 (refine Ja ?_;intros)
 refine Yf (by simpa using h3) ?_
 (refine Ja ?_;intros)
 refine Ys fun o=>?_
 exact ⟨rfl,o.sub⟩
structure RdS where
 bs:List UInt8
 e:Int
 blk:Bool
def Bw0 (V:VW) (i fd n:Int):RdS × VW :=
 if (Aa0 V i fd n).2≠0∨n=0 then (⟨[],(Aa0 V i fd n).2,false⟩,V)
 else if (V.P (Aa0 V i fd n).1.pipe).2≠1 then (⟨[],105,false⟩,V)
 else if (V.P (Aa0 V i fd n).1.pipe).1.count=0 then
  if (Aa0 V i fd n).1.kind=1∧(V.P (Aa0 V i fd n).1.pipe).1.writers=0 then (⟨[],0,false⟩,V)
  else if (Aa0 V i fd n).1.flags=1 then (⟨[],111,false⟩,V) else (⟨[],0,true⟩,V)
 else (⟨(N9 (V.P (Aa0 V i fd n).1.pipe).1).take (min n.toNat (V.P (Aa0 V i fd n).1.pipe).1.count.toNat),0,false⟩,
  wP V (Aa0 V i fd n).1.pipe (Bb8 (V.P (Aa0 V i fd n).1.pipe).1 (min n.toNat (V.P (Aa0 V i fd n).1.pipe).1.count.toNat)))
theorem Hj7 {p:PipeS} (h:okP p=true) {m:Nat} (hm:m≤p.count.toNat):okP (Bb8 p m)=true:=by
 have:=Ao1 h
 unfold Bb8
 split
 ·simp only [okP,Bool.and_eq_true,decide_eq_true_eq];omega
 ·exact h
theorem It7 (c k:Nat) (F:Fr) (X:CX) (ok:FrOk F) (V:VW) (A:See X V) (i fd n:Int) (hi:0≤i∧i<8) (h3:(ofW V i fd).1.2.kind≠3) (hp:(Aa0 V i fd n).2=0→0≤(Aa0 V i fd n).1.pipe∧(Aa0 V i fd n).1.pipe<6) :
  Ct A9 B53 [P0 c,int i,int fd,int n] [cmC c k F X] fun v own=>∃ a cap X',See X' (Bw0 V i fd n).2∧vT X'=vT X ∧
   v=.agg ⟨[int (Bw0 V i fd n).1.bs.length,int (Bw0 V i fd n).1.e,.slice a (Bw0 V i fd n).1.bs.length cap,.bool (Bw0 V i fd n).1.blk]⟩ ∧
   own [cmC c k F X',slC false A7 1 a (Bw0 V i fd n).1.bs.length cap (A0 (Bw0 V i fd n).1.bs)]:=by
 have nil:∀ {h:NN.H} {r:List HP},Own h (cmC c k F X::r)→Own h (cmC c k F X::slC false A7 1 none 0 0 (A0 [])::r):=fun o=>(o.slNil false A7 (by omega)).perm (List.Perm.swap _ _ _)
 have hk3:(Aa0 V i fd n).2=0→(Aa0 V i fd n).1.kind≠3:=by
  intro h;unfold Aa0 at h ⊢;repeat' split
  all_goals exact h3
 have hn:(Aa0 V i fd n).2=0→0≤n∧n≤32:=by
  intro h;unfold Aa0 at h
  split at h
  ·rename_i h1;exact absurd h h1
  ·split at h
   ·cases h
   ·split at h
    ·cases h
    ·omega
 unfold Bw0
 refine Ct.of Hb3 rfl fun h r=>Tr.eq (Hk5 ..) ?_;refine Je ?_
 refine Yn fun b0 h=>?_
 refine Yc (I65 c k F X ok V A i fd n hi h3) ?_;rintro _ h ⟨rfl,o⟩<;>refine Jh o ?_
 generalize (Aa0 V i fd n).1=x at *
 generalize (Aa0 V i fd n).2=e at *
 (refine Jc ?_;intros)
 refine Yn fun b1 h=>?_
 (refine Jb ?_;intros)
 by_cases h1:e≠0∨n=0
 ·rw [if_pos h1]
  have hg:∀ {h:NN.H} {r:List HP},Tr (pt b1 (.cells D8 false (Aj8 x))::cmC c k F X::pt b0 (.cells Q8 false (U9 0 0 false))::r) h (bnd (A9 S7 [int e] h) fun r_3 hv_5=>aAgg r_3 fun x_2=>ck (List.length x_2=4) (pAgg ⟨b0,0,none⟩ x_2 hv_5 fun hv_6=>gAgg ⟨b0,0,none⟩ 4 hv_6 fun x_3=>some (Value.agg ⟨x_3⟩,hv_6)))
   fun (v:Value) h'=>∃ a cap X',See X' V∧vT X'=vT X∧v=.agg ⟨[int 0,int e,.slice a 0 cap,.bool false]⟩∧Own h' (cmC c k F X'::slC false A7 1 a 0 cap (A0 [])::r):=by
   intro h r
   refine Yc (By9 e) ?_;rintro _ h ⟨rfl,o⟩<;>(refine Jf o ?_;intros)
   refine Ys fun o=>?_
   exact ⟨none,0,X,A,rfl,rfl,nil o.sub⟩
  by_cases h2:e=0
  ·refine Yb (Yf (by simpa using h2) ?_)
   refine Ys fun o=>(?_:Tr _ _ _ _) o;refine Je ?_
   refine Yt (by simpa using h1.resolve_left (by simpa using h2)) ?_
   exact hg
  ·refine Yb (Yt (by simpa using h2) ?_)
   refine Ys fun o=>(?_:Tr _ _ _ _) o;refine Je ?_
   refine Yt rfl ?_
   exact hg
 rw [if_neg h1]
 have h2:e=0:=Classical.byContradiction fun h=>h1 (.inl h)
 have h0:n≠0:=fun h=>h1 (.inr h)
 have hpx:=hp h2
 have hnn:=hn h2
 have hkk:=hk3 h2
 subst h2
 refine Yb (Yf rfl ?_)
 refine Ys fun o=>(?_:Tr _ _ _ _) o;refine Je ?_
 refine Yf (by simpa using h0) ?_
 (refine Ja ?_;intros)
 refine Yc (Ij4 c k F X ok A.c x hkk (by omega)) ?_
 rintro _ h ⟨b,b2,rfl,o⟩
 refine Jh o ?_
 have hvp:=A.p x.pipe hpx
 rw [hvp]
 have hq:(V.P x.pipe).2=1→okP (V.P x.pipe).1=true:=fun h=>by
  rcases Iv3 A.c (i:=x.pipe) (by omega) with ⟨h6,_⟩|⟨_,h6⟩
  ·rw [hvp,h] at h6;cases h6
  ·rw [hvp] at h6;exact h6
 generalize hqq:(V.P x.pipe).1=q at *
 generalize (V.P x.pipe).2=st at *
 (refine Jc ?_;intros)
 refine Yn fun b3 h=>?_
 (refine Jb ?_;intros)
 by_cases h5:st=1
 case neg =>
  rw [if_pos h5]
  refine Yt (by simpa using h5) ?_
  refine Yc (By9 105) ?_;rintro _ h ⟨rfl,o⟩<;>(refine Jf o ?_;intros)
  refine Ys fun o=>?_
  exact ⟨none,0,X,A,rfl,rfl,nil o.sub⟩
 have n5:¬ st≠1:=by simpa using h5
 rw [if_neg n5]
 refine Yf (by simpa using h5) ?_
 replace hq:=hq h5
 obtain ⟨r1,r2,r3,r4⟩:=Ao1 hq
 (refine Jb ?_;intros)
 by_cases h6:q.count=0
 ·rw [if_pos h6]
  refine Yb (Yt (by simpa using h6) ?_)
  (refine Jb ?_;intros)
  have hw:∀ {h:NN.H} {r:List HP},Tr (pt b3 (.cells B71 false (An7 q (Dr1 b b2)))::cmC c k F X::pt b (.cells R0 false [P0 c])::pt b2 (.cells D8 false (Aj8 x))::pt b1 (.cells D8 false (Aj8 x))::pt b0 (.cells Q8 false (U9 0 0 false))::r) h
    (gAgg ⟨b1,0,none⟩ 4 h fun x_14=>bnd (A9 Ay7 [.agg ⟨x_14⟩] h) fun r_8 hv_15=>aAgg r_8 fun x_15=>ck (List.length x_15=4) (pAgg ⟨b0,0,none⟩ x_15 hv_15 fun hv_16=>gAgg ⟨b0,0,none⟩ 4 hv_16 fun x_16=>some (Value.agg ⟨x_16⟩,hv_16)))
    fun (v:Value) h'=>∃ a cap X',See X' (if x.flags=1 then ((⟨[],111,false⟩:RdS),V) else (⟨[],0,true⟩,V)).2∧vT X'=vT X∧v=.agg ⟨[int (if x.flags=1 then ((⟨[],111,false⟩:RdS),V) else (⟨[],0,true⟩,V)).1.bs.length,int (if x.flags=1 then ((⟨[],111,false⟩:RdS),V) else (⟨[],0,true⟩,V)).1.e,.slice a (if x.flags=1 then ((⟨[],111,false⟩:RdS),V) else (⟨[],0,true⟩,V)).1.bs.length cap,.bool (if x.flags=1 then ((⟨[],111,false⟩:RdS),V) else (⟨[],0,true⟩,V)).1.blk]⟩∧Own h' (cmC c k F X'::slC false A7 1 a (if x.flags=1 then ((⟨[],111,false⟩:RdS),V) else (⟨[],0,true⟩,V)).1.bs.length cap (A0 (if x.flags=1 then ((⟨[],111,false⟩:RdS),V) else (⟨[],0,true⟩,V)).1.bs)::r):=by
   intro h r
   (refine Ja ?_;intros)
   refine Yc (Gj8 x) ?_;rintro _ h ⟨rfl,o⟩<;>refine Jh o ?_
   by_cases h7:x.flags=1
   ·rw [if_pos h7]
    (refine Ja ?_;intros)
    refine Ys fun o=>?_
    rw [if_pos h7]
    exact ⟨none,0,X,A,rfl,rfl,nil o.sub⟩
   ·rw [if_neg h7]
    (refine Ja ?_;intros)
    refine Ys fun o=>?_
    rw [if_neg h7]
    exact ⟨none,0,X,A,rfl,rfl,nil o.sub⟩
  by_cases h8:x.kind=1
  ·by_cases h9:q.writers=0
   ·rw [if_pos ⟨h8,h9⟩]
    refine Ys fun o=>(?_:Tr _ _ _ _) o;refine Je ?_
    refine Yb (Yt (by simpa using h8) ?_)
    (refine Jb ?_;intros)
    refine Ys fun o=>(?_:Tr _ _ _ _) o;refine Je ?_
    refine Yt (by simpa using h9) ?_
    (refine Ja ?_;intros)
    refine Ys fun o=>?_
    exact ⟨none,0,X,A,rfl,rfl,nil o.sub⟩
   ·rw [if_neg (fun h=>h9 h.2)]
    refine Ys fun o=>(?_:Tr _ _ _ _) o;refine Je ?_
    refine Yb (Yt (by simpa using h8) ?_)
    (refine Jb ?_;intros)
    refine Ys fun o=>(?_:Tr _ _ _ _) o;refine Je ?_
    refine Yf (by simpa using h9) ?_
    (refine Jb ?_;intros)
    refine Yt (by simpa using h6) ?_
    exact hw
  ·rw [if_neg (fun h=>h8 h.1)]
   refine Ys fun o=>(?_:Tr _ _ _ _) o;refine Je ?_
   refine Yb (Yf (by simpa using h8) ?_)
   refine Ys fun o=>(?_:Tr _ _ _ _) o;refine Je ?_
   refine Yf rfl ?_
   (refine Jb ?_;intros)
   refine Yt (by simpa using h6) ?_
   exact hw
 rw [if_neg h6]
 refine Yb (Yf (by simpa using h6) ?_)
 refine Ys fun o=>(?_:Tr _ _ _ _) o;refine Je ?_
 refine Yb (Yf rfl ?_)
 refine Ys fun o=>(?_:Tr _ _ _ _) o;refine Je ?_
 refine Yf rfl ?_
 (refine Jb ?_;intros)
 refine Yf (by simpa using h6) ?_
 (refine Ja ?_;intros)
 refine Yc (It5 q hq n hnn) ?_
 rintro _ h ⟨a,cap,rfl,o⟩
 refine Jh o ?_
 have hm:min n.toNat q.count.toNat≤q.count.toNat:=by omega
 have hlen:((N9 q).take (min n.toNat q.count.toNat)).length=min n.toNat q.count.toNat:=by
  rw [List.length_take,Ek9];omega
 rw [hlen]
 have hok:=Hj7 hq hm
 generalize min n.toNat q.count.toNat=m at *
 obtain ⟨w1,_⟩:=A82 A.c (i:=x.pipe) (by omega) hok
 have hwp:=A.wp hpx hok
 have hvt:=Gt8 A.c (i:=x.pipe) (by omega) hok
 generalize Bb8 q m=q2 at *
 have hfv:(An7 q (Dr1 b b2))[36]?=some (Dr1 b b2):=by
  unfold An7;rw [List.getElem?_append_right (by rw [Ae6 q.len];exact Nat.le_refl _),Ae6 q.len];rfl
 (refine Jc ?_;intros)
 refine Yn fun b4 h=>?_
 (refine Ja ?_;intros)
 simp only [List.nil_append]
 refine Yc (Gt6 c k b b2 F X ok x q2) ?_;rintro _ h ⟨rfl,o⟩<;>refine Jh o ?_
 rw [w1]
 dsimp only
 (refine Ja ?_;intros)
 refine Ys fun o=>?_
 exact ⟨a,cap,A79 X x.pipe q2,hwp,hvt,rfl,o.sub⟩
structure WrS where
 n:Int
 e:Int
 blk:Bool
def Dv2 (V:VW) (i fd:Int) (l:List UInt8):WrS × VW :=
 if (ofW V i fd).2≠0 then (⟨0,(ofW V i fd).2,false⟩,V)
 else if (ofW V i fd).1.2.kind≠2 then (⟨0,109,false⟩,V)
 else if l.length>32 then (⟨0,122,false⟩,V)
 else if l.length=0 then (⟨0,0,false⟩,V)
 else if (V.P (ofW V i fd).1.2.pipe).2≠1 then (⟨0,105,false⟩,V)
 else if 32-(V.P (ofW V i fd).1.2.pipe).1.count=0∨l.length≤8∧32-(V.P (ofW V i fd).1.2.pipe).1.count<l.length then
  if (ofW V i fd).1.2.flags=1 then (⟨0,111,false⟩,V) else (⟨0,0,true⟩,V)
 else (⟨(N3 (V.P (ofW V i fd).1.2.pipe).1 l).2,0,false⟩,wP V (ofW V i fd).1.2.pipe (N3 (V.P (ofW V i fd).1.2.pipe).1 l).1)
theorem Ei5:∀ (l:List UInt8) (p:PipeS),okP p=true→okP (N3 p l).1=true
 | [],p,h=>h
 | b::l,p,h=>by
  unfold N3
  split
  ·exact h
  ·rename_i hc;exact Ei5 l _ (Gh7 h hc b)
abbrev wrL (w:WrS):List Value:=U9 w.n w.e w.blk
theorem Ib7 (c k:Nat) (F:Fr) (X:CX) (ok:FrOk F) (V:VW) (A:See X V) (i fd:Int) (hi:0≤i∧i<8) (hp:(ofW V i fd).2=0→(ofW V i fd).1.2.kind=2→0≤(ofW V i fd).1.2.pipe∧(ofW V i fd).1.2.pipe<6∧(V.P (ofW V i fd).1.2.pipe).1.readers≠0)
  (pb:HP) (a:Option Addr) (ro:Bool) (cc:Nat) (l:List UInt8) (hl:l.length≤B1) [ks:IsSl pb a ro A7 1 l.length cc (A0 l)] :
  Ct A9 Bv2 [P0 c,int i,int fd,.slice a l.length cc] [cmC c k F X,pb] fun v own=>∃ X',See X' (Dv2 V i fd l).2∧vT X'=vT X∧v=.agg ⟨wrL (Dv2 V i fd l).1⟩∧own [cmC c k F X',pb]:=by
 have eo:=A.ofv hi fd
 unfold Dv2
 refine Ct.of G81 rfl fun h r=>Tr.eq (G64 ..) ?_;refine Je ?_
 refine Yn fun b0 h=>?_
 refine Yc (Iu6 c k F X ok A.c i fd hi) ?_;rintro _ h ⟨rfl,o⟩<;>refine Jh o ?_
 rw [eo]
 (refine Jc ?_;intros)
 refine Yn fun b1 h=>?_
 (refine Jb ?_;intros)
 generalize (ofW V i fd).1.2=x at *
 generalize (ofW V i fd).2=e at *
 by_cases h1:e=0
 case neg =>
  rw [if_pos h1]
  refine Yt (by simpa using h1) ?_
  refine Yc (By9 e) ?_;rintro _ h ⟨rfl,o⟩<;>(refine Jf o ?_;intros)
  refine Ys fun o=>?_
  exact ⟨X,A,rfl,rfl,o.sub⟩
 have n1:¬ e≠0:=by simpa using h1
 rw [if_neg n1]
 refine Yf (by simpa using h1) ?_
 (refine Jb ?_;intros)
 by_cases h2:x.kind=2
 case neg =>
  rw [if_pos h2]
  refine Yt (by simpa using h2) ?_
  refine Yc (By9 109) ?_;rintro _ h ⟨rfl,o⟩<;>(refine Jf o ?_;intros)
  refine Ys fun o=>?_
  exact ⟨X,A,rfl,rfl,o.sub⟩
 have n2:¬ x.kind≠2:=by simpa using h2
 rw [if_neg n2]
 refine Yf (by simpa using h2) ?_
 obtain ⟨hp0,hp6,hrd⟩:=hp h1 h2
 by_cases h3:l.length>32
 ·rw [if_pos h3]
  refine Yt (by rw [decide_eq_true_iff];omega) ?_
  refine Yc (By9 122) ?_;rintro _ h ⟨rfl,o⟩<;>(refine Jf o ?_;intros)
  refine Ys fun o=>?_
  exact ⟨X,A,rfl,rfl,o.sub⟩
 rw [if_neg h3]
 refine Yf (by rw [decide_eq_false_iff_not];omega) ?_
 by_cases h4:l.length=0
 ·rw [if_pos h4]
  refine Yt (by rw [beq_iff_eq];omega) ?_
  (refine Ja ?_;intros)
  refine Ys fun o=>?_
  exact ⟨X,A,rfl,rfl,o.sub⟩
 rw [if_neg h4]
 refine Yf (by rw [beq_eq_false_iff_ne];omega) ?_
 (refine Ja ?_;intros)
 refine Yc (Ij4 c k F X ok A.c x (by omega) (by omega)) ?_
 rintro _ h ⟨b,b2,rfl,o⟩
 refine Jh o ?_
 have hvp:=A.p x.pipe ⟨hp0,hp6⟩
 rw [hvp]
 have hq:(V.P x.pipe).2=1→okP (V.P x.pipe).1=true:=fun h=>by
  rcases Iv3 A.c (i:=x.pipe) (by omega) with ⟨h6,_⟩|⟨_,h6⟩
  ·rw [hvp,h] at h6;cases h6
  ·rw [hvp] at h6;exact h6
 generalize hqq:(V.P x.pipe).1=q at *
 generalize (V.P x.pipe).2=st at *
 (refine Jc ?_;intros)
 refine Yn fun b3 h=>?_
 (refine Jb ?_;intros)
 by_cases h5:st=1
 case neg =>
  rw [if_pos h5]
  refine Yt (by simpa using h5) ?_
  refine Yc (By9 105) ?_;rintro _ h ⟨rfl,o⟩<;>(refine Jf o ?_;intros)
  refine Ys fun o=>?_
  exact ⟨X,A,rfl,rfl,o.sub⟩
 have n5:¬ st≠1:=by simpa using h5
 rw [if_neg n5]
 refine Yf (by simpa using h5) ?_
 replace hq:=hq h5
 obtain ⟨r1,r2,r3,r4⟩:=Ao1 hq
 have e1:IntKind.wrap .i64 (32-q.count)=32-q.count:=by rw [B6];omega
 (refine Jb ?_;intros)
 refine Yf (by simpa using hrd) ?_
 (refine Jb ?_;intros)
 rw [e1]
 by_cases a1:32-q.count=0
 ·rw [if_pos (.inl a1)]
  refine Yb (Yt (by rw [beq_iff_eq];exact a1) ?_)
  refine Ys fun o=>(?_:Tr _ _ _ _) o;refine Je ?_
  refine Yt rfl ?_
  (refine Ja ?_;intros)
  refine Yc (Gj8 x) ?_;rintro _ h ⟨rfl,o⟩<;>refine Jh o ?_
  by_cases h7:x.flags=1
  ·rw [if_pos h7,if_pos h7]
   (refine Ja ?_;intros)
   refine Ys fun o=>?_
   exact ⟨X,A,rfl,rfl,o.sub⟩
  ·rw [if_neg h7,if_neg h7]
   (refine Ja ?_;intros)
   refine Ys fun o=>?_
   exact ⟨X,A,rfl,rfl,o.sub⟩
 refine Yb (Yf (by rw [beq_eq_false_iff_ne];exact a1) ?_)
 by_cases a2:l.length≤8
 ·by_cases a3:32-q.count<l.length
  ·rw [if_pos (.inr ⟨a2,a3⟩)]
   refine Yb (Yt (by rw [decide_eq_true_iff];omega) ?_)
   refine Ys fun o=>(?_:Tr _ _ _ _) o;refine Je ?_
   refine Ys fun o=>(?_:Tr _ _ _ _) o;refine Je ?_
   refine Yt (by rw [decide_eq_true_iff];exact a3) ?_
   (refine Ja ?_;intros)
   refine Yc (Gj8 x) ?_;rintro _ h ⟨rfl,o⟩<;>refine Jh o ?_
   by_cases h7:x.flags=1
   ·rw [if_pos h7,if_pos h7]
    (refine Ja ?_;intros)
    refine Ys fun o=>?_
    exact ⟨X,A,rfl,rfl,o.sub⟩
   ·rw [if_neg h7,if_neg h7]
    (refine Ja ?_;intros)
    refine Ys fun o=>?_
    exact ⟨X,A,rfl,rfl,o.sub⟩
  ·rw [if_neg (fun h=>h.elim a1 fun h=>a3 h.2)]
   refine Yb (Yt (by rw [decide_eq_true_iff];omega) ?_)
   refine Ys fun o=>(?_:Tr _ _ _ _) o;refine Je ?_
   refine Ys fun o=>(?_:Tr _ _ _ _) o;refine Je ?_
   refine Yf (by rw [decide_eq_false_iff_not];exact a3) ?_
   (refine Ja ?_;intros)
   refine Yc (Hx5 q hq pb a ro cc l (by omega)) ?_;rintro _ h ⟨rfl,o⟩<;>refine Jh o ?_
   have hok:=Ei5 l q hq
   obtain ⟨w1,_⟩:=A82 A.c (i:=x.pipe) (by omega) hok
   have hwp:=A.wp ⟨hp0,hp6⟩ hok
   have hvt:=Gt8 A.c (i:=x.pipe) (by omega) hok
   generalize (N3 q l).1=q2 at *
   have hfv:(An7 q (Dr1 b b2))[36]?=some (Dr1 b b2):=by
    unfold An7;rw [List.getElem?_append_right (by rw [Ae6 q.len];exact Nat.le_refl _),Ae6 q.len];rfl
   (refine Jc ?_;intros)
   refine Yn fun b4 h=>?_
   (refine Ja ?_;intros)
   simp only [List.nil_append]
   refine Yc (Gt6 c k b b2 F X ok x q2) ?_;rintro _ h ⟨rfl,o⟩<;>refine Jh o ?_
   rw [w1]
   dsimp only
   (refine Ja ?_;intros)
   refine Ys fun o=>?_
   exact ⟨A79 X x.pipe q2,hwp,hvt,rfl,o.sub⟩
 ·rw [if_neg (fun h=>h.elim a1 fun h=>a2 h.1)]
  refine Yb (Yf (by rw [decide_eq_false_iff_not];omega) ?_)
  refine Ys fun o=>(?_:Tr _ _ _ _) o;refine Je ?_
  refine Ys fun o=>(?_:Tr _ _ _ _) o;refine Je ?_
  refine Yf rfl ?_
  (refine Ja ?_;intros)
  refine Yc (Hx5 q hq pb a ro cc l (by omega)) ?_;rintro _ h ⟨rfl,o⟩<;>refine Jh o ?_
  have hok:=Ei5 l q hq
  obtain ⟨w1,_⟩:=A82 A.c (i:=x.pipe) (by omega) hok
  have hwp:=A.wp ⟨hp0,hp6⟩ hok
  have hvt:=Gt8 A.c (i:=x.pipe) (by omega) hok
  generalize (N3 q l).1=q2 at *
  have hfv:(An7 q (Dr1 b b2))[36]?=some (Dr1 b b2):=by
   unfold An7;rw [List.getElem?_append_right (by rw [Ae6 q.len];exact Nat.le_refl _),Ae6 q.len];rfl
  (refine Jc ?_;intros)
  refine Yn fun b4 h=>?_
  (refine Ja ?_;intros)
  simp only [List.nil_append]
  refine Yc (Gt6 c k b b2 F X ok x q2) ?_;rintro _ h ⟨rfl,o⟩<;>refine Jh o ?_
  rw [w1]
  dsimp only
  (refine Ja ?_;intros)
  refine Ys fun o=>?_
  exact ⟨A79 X x.pipe q2,hwp,hvt,rfl,o.sub⟩
theorem Gz4 (l:List UInt8) (j n:Nat) (x:UInt8) (h:j<l.length):(l.set j x).getD n 0=if n=j then x else l.getD n 0:=by
 rw [List.getD_eq_getElem?_getD,List.getD_eq_getElem?_getD,List.getElem?_set]
 by_cases hj:j=n
 ·subst hj;simp [h]
 ·rw [if_neg hj,if_neg (fun e=>hj e.symm)]
theorem H17 {p:PipeS} (hp:okP p=true) (hc:p.count≠32) (b:UInt8):N9 (Ax7 p b)=N9 p++[b]:=by
 obtain ⟨r1,r2,r3,r4⟩:=Ao1 hp
 have hl:=p.len
 have hj:((p.head+p.count)%32).toNat<p.data.length:=by rw [hl];omega
 have e:(Ax7 p b).count.toNat=p.count.toNat+1:=by show (p.count+1).toNat=_;omega
 unfold N9
 rw [e]
 unfold bytesN
 rw [List.range_succ,List.map_append]
 congr 1
 ·refine List.map_congr_left fun j hj2=>?_
  have:=List.mem_range.1 hj2
  show (p.data.set _ b).getD (((p.head+j)%32).toNat) 0=_
  rw [Gz4 _ _ _ _ hj,if_neg (by omega)]
 ·show [(p.data.set _ b).getD (((p.head+(p.count.toNat:Nat))%32).toNat) 0]=[b]
  rw [Gz4 _ _ _ _ hj,if_pos (by rw [show ((p.count.toNat:Nat):Int)=p.count by omega])]
theorem Gz3:∀ (l:List UInt8) (p:PipeS),okP p=true→(N3 p l).2=min (l.length:Int) (32-p.count)∧(N3 p l).1.count=p.count+(N3 p l).2∧N9 (N3 p l).1=N9 p++l.take (N3 p l).2.toNat∧(N3 p l).1.readers=p.readers∧(N3 p l).1.writers=p.writers
 | [],p,h=>by
  have:=Ao1 h
  refine ⟨by show (0:Int)=min ((([]:List UInt8).length:Nat):Int) (32-p.count);rw [List.length_nil];omega,by simp [N3],by simp [N3],rfl,rfl⟩
 | b::l,p,h=>by
  have hr:=Ao1 h
  unfold N3
  by_cases hc:p.count=32
  ·rw [if_pos hc]
   refine ⟨by simp;omega,by simp,by simp,rfl,rfl⟩
  ·rw [if_neg hc]
   obtain ⟨h1,h2,h3,h4,h5⟩:=Gz3 l (Ax7 p b) (Gh7 h hc b)
   have hn:=G17 l (Ax7 p b)
   have hk:(Ax7 p b).count=p.count+1:=rfl
   refine ⟨?_,?_,?_,h4,h5⟩
   ·show (N3 (Ax7 p b) l).2+1=_
    rw [h1,hk,List.length_cons];omega
   ·show (N3 (Ax7 p b) l).1.count=p.count+((N3 (Ax7 p b) l).2+1)
    rw [h2,hk];omega
   ·show N9 (N3 (Ax7 p b) l).1=N9 p++(b::l).take ((N3 (Ax7 p b) l).2+1).toNat
    rw [h3,H17 h hc,show ((N3 (Ax7 p b) l).2+1).toNat=(N3 (Ax7 p b) l).2.toNat+1 by omega,List.take_succ_cons]
    simp
theorem Ia1 {p:PipeS} (hp:okP p=true) {m:Nat} (hm:m≤p.count.toNat):N9 (Bb8 p m)=(N9 p).drop m∧(Bb8 p m).count=p.count-m∧(Bb8 p m).readers=p.readers∧(Bb8 p m).writers=p.writers:=by
 obtain ⟨r1,r2,r3,r4⟩:=Ao1 hp
 by_cases h0:0<m
 case neg =>
  obtain rfl:m=0:=by omega
  rw [show Bb8 p 0=p from if_neg h0]
  exact ⟨by simp,by simp,rfl,rfl⟩
 rw [show Bb8 p m=⟨(p.head+m)%32,p.count-m,p.readers,p.writers,p.data,p.len⟩ from if_pos h0]
 refine ⟨?_,rfl,rfl,rfl⟩
 unfold N9 bytesN
 dsimp only
 rw [← List.map_drop,List.range_eq_range' ,List.range_eq_range',List.drop_range',Nat.mul_one,Nat.zero_add]
 rw [show (p.count-(m:Int)).toNat=p.count.toNat-m by omega]
 rw [show List.range' m (p.count.toNat-m)=(List.range' 0 (p.count.toNat-m)).map fun j=>m+j by rw [List.map_add_range'];rfl]
 rw [List.map_map]
 refine List.map_congr_left fun j hj=>?_
 show p.data.getD ((((p.head+m)%32+j)%32).toNat) 0=p.data.getD (((p.head+((m+j:Nat):Int))%32).toNat) 0
 congr 1
 omega
theorem E06 (V:VW) (j:Int) (q:PipeS) (i fd:Int):ofW (wP V j q) i fd=ofW V i fd:=rfl
theorem Io9 (V:VW) (j:Int) (q:PipeS):(wP V j q).P j=(q,1):=by
 show (if j=j then (q,(1:Int)) else V.P j)=_
 rw [if_pos rfl]
theorem Iu4 (V:VW) (j:Int) (q q':PipeS):wP (wP V j q) j q'=wP V j q':=by
 refine VW.ext' (fun _=>rfl) (fun _=>rfl) fun n=>?_
 show (if n=j then _ else if n=j then _ else _)=if n=j then _ else _
 by_cases h:n=j
 ·rw [if_pos h,if_pos h]
 ·rw [if_neg h,if_neg h,if_neg h]
theorem I23 {V:VW} {j:Int} {q:PipeS} (h:V.P j=(q,1)):wP V j q=V:=by
 refine VW.ext' (fun _=>rfl) (fun _=>rfl) fun n=>?_
 show (if n=j then _ else _)=_
 by_cases hn:n=j
 ·rw [if_pos hn,hn,h]
 ·rw [if_neg hn]
section
variable {V:VW} {i fd f r fl j:Int} {q:PipeS}
theorem I68 (ho:ofW V i fd=((f,⟨2,j,r,fl⟩),0)) (l:List UInt8) (hl:l.length≤32):Dv2 (wP V j q) i fd l=if l.length=0 then (⟨0,0,false⟩,wP V j q) else if 32-q.count=0∨l.length≤8∧32-q.count<l.length then (if fl=1 then (⟨0,111,false⟩,wP V j q) else (⟨0,0,true⟩,wP V j q)) else (⟨(N3 q l).2,0,false⟩,wP V j (N3 q l).1):=by
 unfold Dv2
 rw [E06,ho]
 dsimp only
 rw [Io9]
 rw [if_neg (by simp),if_neg (by simp),if_neg (by omega)]
 by_cases h0:l.length=0
 ·rw [if_pos h0,if_pos h0]
 ·rw [if_neg h0,if_neg h0,if_neg (by simp),Iu4]
theorem I26 (ho:ofW V i fd=((f,⟨1,j,r,fl⟩),0)) {n:Int} (hn:0≤n∧n≤32):Aa0 (wP V j q) i fd n=(⟨1,j,r,fl⟩,0):=by
 unfold Aa0
 rw [E06,ho]
 dsimp only
 rw [if_neg (by simp),if_neg (by simp),if_neg (by omega)]
theorem I64 (ho:ofW V i fd=((f,⟨1,j,r,fl⟩),0)) {n:Int} (hn:0≤n∧n≤32):Bw0 (wP V j q) i fd n=if n=0 then (⟨[],0,false⟩,wP V j q) else if q.count=0 then (if q.writers=0 then (⟨[],0,false⟩,wP V j q) else if fl=1 then (⟨[],111,false⟩,wP V j q) else (⟨[],0,true⟩,wP V j q)) else (⟨(N9 q).take (min n.toNat q.count.toNat),0,false⟩,wP V j (Bb8 q (min n.toNat q.count.toNat))):=by
 unfold Bw0
 rw [I26 ho hn]
 dsimp only
 rw [Io9]
 by_cases h0:n=0
 ·rw [if_pos (.inr h0),if_pos h0]
 ·rw [if_neg (fun h=>h.elim (by simp) h0),if_neg h0,if_neg (by simp)]
  dsimp only
  by_cases h1:q.count=0
  ·rw [if_pos h1,if_pos h1]
   by_cases h2:q.writers=0
   ·rw [if_pos ⟨rfl,h2⟩,if_pos h2]
   ·rw [if_neg (fun h=>h2 h.2),if_neg h2]
  ·rw [if_neg h1,if_neg h1,Iu4]
end
theorem I71 {V:VW} {i fd f r fl j:Int} {q:PipeS} (ho:ofW V i fd=((f,⟨1,j,r,fl⟩),0)):(ofW (wP V j q) i fd).1.2.kind≠3:=by rw [E06,ho];simp
theorem I98 {V:VW} {i fd f r fl j:Int} (n:Int) {q:PipeS} (ho:ofW V i fd=((f,⟨1,j,r,fl⟩),0)) (hj:0≤j∧j<6):(Aa0 (wP V j q) i fd n).2=0→0≤(Aa0 (wP V j q) i fd n).1.pipe∧(Aa0 (wP V j q) i fd n).1.pipe<6:=by
 intro _
 unfold Aa0
 rw [E06,ho]
 dsimp only
 rw [if_neg (by simp),if_neg (by simp)]
 split<;>exact hj
theorem I95 {V:VW} {i fd f r fl j:Int} {q:PipeS} (ho:ofW V i fd=((f,⟨2,j,r,fl⟩),0)) (hj:0≤j∧j<6) (hq:q.readers≠0):(ofW (wP V j q) i fd).2=0→(ofW (wP V j q) i fd).1.2.kind=2→0≤(ofW (wP V j q) i fd).1.2.pipe∧(ofW (wP V j q) i fd).1.2.pipe<6∧((wP V j q).P (ofW (wP V j q) i fd).1.2.pipe).1.readers≠0:=fun _ _=>by
 rw [E06,ho]
 dsimp only
 rw [Io9]
 exact ⟨hj.1,hj.2,hq⟩
theorem I19 {V:VW} {i fd f r fl j:Int} {q:PipeS} (hq:okP q=true) (ho:ofW V i fd=((f,⟨2,j,r,fl⟩),0)) (l:List UInt8) (hl:q.count+l.length≤32) :
  ∃ q',Dv2 (wP V j q) i fd l=(⟨l.length,0,false⟩,wP V j q')∧okP q'=true∧q'.count=q.count+l.length∧N9 q'=N9 q++l∧q'.readers=q.readers∧q'.writers=q.writers:=by
 have hr:=Ao1 hq
 rw [I68 ho l (by omega)]
 by_cases h0:l.length=0
 ·have:l=[]:=List.eq_nil_of_length_eq_zero h0
  subst this
  rw [if_pos h0]
  exact ⟨q,rfl,hq,by simp,by simp,rfl,rfl⟩
 ·rw [if_neg h0,if_neg (by omega)]
  obtain ⟨h1,h2,h3,h4,h5⟩:=Gz3 l q hq
  have e:(N3 q l).2=l.length:=by rw [h1];omega
  rw [e] at h2 h3
  refine ⟨(N3 q l).1,by rw [e],Ei5 l q hq,h2,?_,h4,h5⟩
  rw [h3,Int.toNat_natCast,List.take_length]
theorem I53 {V:VW} {i fd f r j:Int} {q:PipeS} (hq:okP q=true) (hw:q.writers≠0) (ho:ofW V i fd=((f,⟨1,j,r,0⟩),0)) :
  ∃ q',Bw0 (wP V j q) i fd 32=(⟨N9 q,0,decide (q.count=0)⟩,wP V j q')∧okP q'=true∧q'.count=0∧q'.readers=q.readers∧q'.writers=q.writers:=by
 have hr:=Ao1 hq
 rw [I64 ho (by omega),if_neg (by decide)]
 by_cases h0:q.count=0
 ·rw [if_pos h0,if_neg hw,if_neg (by decide)]
  have:N9 q=[]:=List.eq_nil_of_length_eq_zero (by rw [Ek9];omega)
  exact ⟨q,by rw [this,decide_eq_true h0],hq,h0,rfl,rfl⟩
 ·rw [if_neg h0]
  have e:min (32:Int).toNat q.count.toNat=q.count.toNat:=by
   show min 32 q.count.toNat=_
   omega
  rw [e]
  obtain ⟨t1,t2,t3,t4⟩:=Ia1 hq (m:=q.count.toNat) (Nat.le_refl _)
  have ht:(N9 q).take q.count.toNat=N9 q:=List.take_of_length_le (by rw [Ek9];exact Nat.le_refl _)
  exact ⟨Bb8 q q.count.toNat,by rw [ht,decide_eq_false h0],Hj7 hq (Nat.le_refl _),by rw [t2];omega,t3,t4⟩
def H56 (now n:Int):Int:=min (now+min (max n 0) 1000) 1073741824
def Gp6 (S:KS) (n:Int):KS:={ S with now:=H56 S.now n }
theorem Im9 (k:Nat) (S:KS) (N:Nat) (ok:KOk N S) (n:Int):Ct A9 Aw8 [P0 k,int n] [D4 k S] fun v own=>v=int (Gp6 S n).now∧own [D4 k (Gp6 S n)]:=by
 have hn:=ok.now
 have e1:mm2 false (IntKind.wrap .i64 (S.now+mm2 false (mm2 true n 0) 1000)) 1073741824=H56 S.now n:=by
  rw [Aa1,W9,W9,B6];unfold H56;omega
 refine Ct.of Ge7 rfl fun h r=>Tr.eq (Gi8 ..) ?_;refine Je ?_
 refine B4 (D4 k S) fun ⟨m,s,q,rg,ea,ec,ma,mc,ms,sa,sc,ss⟩=>?_;refine Je ?_
 (refine Ja ?_;unhygienic intros)
 rw [e1]
 (refine Ja ?_;unhygienic intros)
 refine E7 (D4 k (Gp6 S n)) ⟨m,s,q,rg,ea,ec,ma,mc,ms,sa,sc,ss⟩ [0,0,0,0,0,0,0,0,0,0,0] rfl ?_;refine Je ?_
 refine Ys fun o=>?_
 exact ⟨by first|rfl|trivial,o.sub⟩
end Go.EQ
