/- Honest calls on descriptors, and of processes, keep sound commons sound; no conditions. -/
import Derived.Test.YtoegoalficgneaaGreatMi
import Derived.Test.YtoegoalficgneaaGreatRows
set_option linter.all false
set_option maxRecDepth 10000
namespace Go.EQ
open Go Go.NN
def ctn (f:Int) (l:List Int):Int:=(l.countP (·==f):Nat)
theorem Eb6 (f:Int):ctn f []=0:=rfl
theorem Az0 (f x:Int) (l:List Int):ctn f (x::l)=ctn f l+if x=f then 1 else 0:=by
 unfold ctn;rw [List.countP_cons]
 by_cases h:x=f
 ·rw [if_pos h,if_pos (by simpa using h)];omega
 ·rw [if_neg h,if_neg (by simpa using h)];omega
theorem Ex5 (f:Int) (l:List Int):0≤ctn f l:=by unfold ctn;omega
theorem Ja1 (f:Int) (l:List Int):ctn f l≤l.length:=by
 have:=List.countP_le_length (p:=(·==f)) (l:=l);unfold ctn;omega
theorem Gp6 (f x:Int):∀ (l:List Int) (j:Nat),j<l.length→ctn f (l.set j x)=ctn f l-(if l.getD j 0=f then 1 else 0)+(if x=f then 1 else 0)
 | [],j,h=>by simp at h
 | y::l,0,h=>by
  rw [List.set_cons_zero,Az0,Az0];show _=_-(if y=f then _ else _)+_;omega
 | y::l,j+1,h=>by
  rw [List.set_cons_succ,Az0,Az0,Gp6 f x l j (by simpa using h)]
  show _=_-(if l.getD j 0=f then _ else _)+_;omega
theorem Js6 {f:Int} {l:List Int} (h:f ∈ l):1≤ctn f l:=by
 have:=List.countP_pos_iff (p:=(·==f)) (l:=l) |>.2 ⟨f,h,by simp⟩
 unfold ctn;omega
theorem In7 {f:Int} {l:List Int} (h:1≤ctn f l):f ∈ l:=by
 have:0<l.countP (·==f):=by unfold ctn at h;omega
 obtain ⟨x,hx,e⟩:=List.countP_pos_iff.1 this
 simp at e;exact e ▸ hx
def Bi5 (g:Int→Int):Nat→Int
 | 0=>0
 | m+1=>Bi5 g m+g m
theorem D81 {g g':Int→Int}:∀ (m:Nat),(∀ j:Int,0≤j→j<m→g j=g' j)→Bi5 g m=Bi5 g' m
 | 0,_=>rfl
 | m+1,h=>by rw [Bi5,Bi5,D81 m fun j h1 h2=>h j h1 (by omega),h m (by omega) (by omega)]
theorem Ec4 {g g':Int→Int} {i:Int}:∀ (m:Nat),0≤i→i<m→(∀ j:Int,0≤j→j<m→j≠i→g' j=g j)→Bi5 g' m=Bi5 g m-g i+g' i
 | 0,h1,h2,_=>by omega
 | m+1,h1,h2,h=>by
  rw [Bi5,Bi5]
  by_cases hi:i=m
  ·subst hi
   rw [D81 m fun j a b=>h j a (by omega) (by omega)];omega
  ·rw [Ec4 m h1 (by omega) fun j a b c=>h j a (by omega) c,h m (by omega) (by omega) (fun e=>hi e.symm)];omega
theorem Gp0 {g:Int→Int}:∀ (m:Nat),(∀ j:Int,0≤j→j<m→0≤g j)→0≤Bi5 g m
 | 0,_=>by simp [Bi5]
 | m+1,h=>by
  have:=Gp0 m fun j a b=>h j a (by omega)
  have:=h m (by omega) (by omega)
  rw [Bi5];omega
theorem G19 {g:Int→Int} {i:Int} (m:Nat) (hn:∀ j:Int,0≤j→j<m→0≤g j) (h1:0≤i) (h2:i<m):g i≤Bi5 g m:=by
 have e:=Ec4 (g:=g) (g':=fun j=>if j=i then 0 else g j) (i:=i) m h1 h2 fun j _ _ h=>if_neg h
 have p:=Gp0 (g:=fun j=>if j=i then 0 else g j) m fun j a b=>by
  show 0≤if j=i then 0 else g j
  split
  ·omega
  ·exact hn j a b
 rw [if_pos rfl] at e;omega
theorem Io5 {g:Int→Int}:∀ (m:Nat),1≤Bi5 g m→∃ i:Int,0≤i∧i<m∧1≤g i
 | 0,h=>by simp [Bi5] at h
 | m+1,h=>by
  rw [Bi5] at h
  by_cases h1:1≤g m
  ·exact ⟨m,by omega,by omega,h1⟩
  ·obtain ⟨i,a,b,c⟩:=Io5 (g:=g) m (by omega)
   exact ⟨i,a,by omega,c⟩
def oS (V:VW) (i:Int):VW:=⟨fun j=>if j=i then (.zero,0) else V.S j,V.F,V.P⟩
theorem See.os {X:CX} {V:VW} (A:See X V) {i:Int} (hi:0≤i∧i<8):See (D36 X i) (oS V i):=by
 obtain ⟨_,w2,w3,w4,w5⟩:=Bi6 A.c hi
 exact ⟨w2,fun j h=>by rw [w3 j h,A.s j h];rfl,fun j h=>by rw [w4 j h];exact A.f j h,fun j h=>by rw [w5 j (by omega)];exact A.p j h⟩
abbrev Al7 (S:Int→ProcS × Int) (f:Int):Int:=Bi5 (fun i=>ctn (f+1) (S i).1.fds) 8
abbrev N1 (k j:Int) (x:FileS):Int:=if x.kind=k∧x.pipe=j then 1 else 0
abbrev Aa4 (F:Int→FileS × Int) (k j:Int):Int:=Bi5 (fun f=>N1 k j (F f).1) 12
structure Snd (V:VW) (ex:Int):Prop where
 sz:∀ i:Int,0≤i→i<8→V.S i=(.zero,0)∨((V.S i).2=1∧okS (V.S i).1=true)
 fz:∀ f:Int,0≤f→f<12→V.F f=(.zero,0)∨((V.F f).2=1∧okF (V.F f).1=true∧((V.F f).1.kind=3∨((V.F f).1.kind=1∨(V.F f).1.kind=2)∧0≤(V.F f).1.pipe∧(V.F f).1.pipe<4))
 pz:∀ j:Int,0≤j→j<4→V.P j=(.zero,0)∨((V.P j).2=1∧okP (V.P j).1=true)
 par:∀ i:Int,0≤i→i<8→(V.S i).1.parent>0→(V.S i).1.parent≠i+1∧(V.S ((V.S i).1.parent-1)).2=1∧(V.S ((V.S i).1.parent-1)).1.state≠2
 fd:∀ i:Int,0≤i→i<8→∀ f ∈ (V.S i).1.fds,f>0→(V.F (f-1)).2=1
 refs:∀ f:Int,0≤f→f<12→(V.F f).2=1→(V.F f).1.refs=Al7 V.S f+if f=ex then 1 else 0
 exF:0≤ex→(V.F ex).2=1
 pipe:∀ f:Int,0≤f→f<12→(V.F f).1.kind=1∨(V.F f).1.kind=2→(V.P (V.F f).1.pipe).2=1
 ends:∀ j:Int,0≤j→j<4→(V.P j).2=1→(V.P j).1.readers=Aa4 V.F 1 j∧(V.P j).1.writers=Aa4 V.F 2 j∧Aa4 V.F 1 j+Aa4 V.F 2 j≠0
section
variable {V:VW} {ex:Int}
theorem Gr2 (k j:Int) (x:FileS):0≤N1 k j x:=by unfold N1;split<;>omega
theorem Io9 (F:Int→FileS × Int) (k j:Int):0≤Aa4 F k j:=Gp0 12 fun _ _ _=>Gr2 ..
theorem Ib8 (S:Int→ProcS × Int) (f:Int):0≤Al7 S f:=Gp0 8 fun _ _ _=>Ex5 ..
theorem G21 {i:Int} (hi:0≤i∧i<8) (p:ProcS) (f:Int):Al7 (wS V i p).S f=Al7 V.S f-ctn (f+1) (V.S i).1.fds+ctn (f+1) p.fds:=by
 have:=Ec4 (g:=fun j=>ctn (f+1) (V.S j).1.fds) (g':=fun j=>ctn (f+1) ((wS V i p).S j).1.fds) 8 hi.1 (by omega) fun j _ _ h=>by
  show ctn (f+1) (if j=i then (p,(1:Int)) else V.S j).1.fds=_;rw [if_neg h]
 unfold Al7;rw [this]
 show _+ctn (f+1) (if i=i then (p,(1:Int)) else V.S i).1.fds=_;rw [if_pos rfl]
theorem Jg3 {i:Int} (hi:0≤i∧i<8) {f:Int} (hf:0≤f):Al7 (oS V i).S f=Al7 V.S f-ctn (f+1) (V.S i).1.fds:=by
 have:=Ec4 (g:=fun j=>ctn (f+1) (V.S j).1.fds) (g':=fun j=>ctn (f+1) ((oS V i).S j).1.fds) 8 hi.1 (by omega) fun j _ _ h=>by
  show ctn (f+1) (if j=i then (ProcS.zero,(0:Int)) else V.S j).1.fds=_;rw [if_neg h]
 unfold Al7;rw [this]
 show _+ctn (f+1) (if i=i then (ProcS.zero,(0:Int)) else V.S i).1.fds=_;rw [if_pos rfl]
 have:ctn (f+1) Ax1=0:=by simp only [Az0,Eb6];rw [if_neg (by omega)];rfl
 show _+ctn (f+1) Ax1=_;omega
theorem Ef8 {F F':Int→FileS × Int} {f:Int} (hf:0≤f∧f<12) (h:∀ j,j≠f→F' j=F j) (k j:Int):Aa4 F' k j=Aa4 F k j-N1 k j (F f).1+N1 k j (F' f).1 :=
 Ec4 (g:=fun x=>N1 k j (F x).1) (g':=fun x=>N1 k j (F' x).1) 12 hf.1 (by omega) fun x _ _ h2=>by show N1 k j (F' x).1=_;rw [h x h2]
theorem G60 {f:Int} (hf:0≤f):ctn (f+1) Ax1=0:=by simp only [Az0,Eb6];rw [if_neg (by omega)];rfl
end
theorem Da8 (V:VW) (i:Int) (p:ProcS) (j:Int):(wS V i p).S j=if j=i then (p,1) else V.S j:=rfl
theorem Bp2 (V:VW) (i:Int) (p:FileS) (j:Int):(wF V i p).F j=if j=i then (p,1) else V.F j:=rfl
theorem Gr6 (V:VW) (i:Int) (j:Int):(oF V i).F j=if j=i then (.zero,0) else V.F j:=rfl
theorem Snd.wS {V:VW} {ex:Int} (A:Snd V ex) {i:Int} (hi:0≤i∧i<8) {p:ProcS} (ex':Int) (ok:okS p=true) (hfd:∀ f ∈ p.fds,f>0→(V.F (f-1)).2=1)
  (hpar:p.parent>0→p.parent≠i+1∧(V.S (p.parent-1)).2=1∧(V.S (p.parent-1)).1.state≠2) (hst:p.state=2→∀ j:Int,0≤j→j<8→(V.S j).1.parent≠i+1)
  (hn:∀ f:Int,0≤f→f<12→(V.F f).2=1→(V.F f).1.refs=Al7 V.S f-ctn (f+1) (V.S i).1.fds+ctn (f+1) p.fds+if f=ex' then 1 else 0) (hex:0≤ex'→(V.F ex').2=1):Snd (EQ.wS V i p) ex':=by
 refine ⟨fun j h1 h2=>?_,A.fz,A.pz,fun j h1 h2 h3=>?_,fun j h1 h2=>?_,fun f h1 h2 h3=>?_,hex,A.pipe,A.ends⟩
 ·rw [Da8];split
  ·exact .inr ⟨rfl,ok⟩
  ·exact A.sz j h1 h2
 ·rw [Da8] at h3 ⊢
  by_cases hj:j=i
  ·rw [if_pos hj] at h3 ⊢
   obtain ⟨k1,k2,k3⟩:=hpar h3
   rw [hj]
   refine ⟨k1,?_,?_⟩
   ·show ((if p.parent-1=i then (p,(1:Int)) else V.S (p.parent-1))).2=1;rw [if_neg (by omega)];exact k2
   ·show ((if p.parent-1=i then (p,(1:Int)) else V.S (p.parent-1))).1.state≠2;rw [if_neg (by omega)];exact k3
  ·rw [if_neg hj] at h3 ⊢
   obtain ⟨k1,k2,k3⟩:=A.par j h1 h2 h3
   refine ⟨k1,?_,?_⟩
   ·rw [Da8];split
    ·rfl
    ·exact k2
   ·rw [Da8];split
    ·rename_i e
     intro h;exact hst h j h1 h2 (by omega)
    ·exact k3
 ·rw [Da8];split
  ·exact hfd
  ·exact A.fd j h1 h2
 ·rw [G21 hi];exact hn f h1 h2 h3
theorem Snd.oS {V:VW} {ex:Int} (A:Snd V ex) {i:Int} (hi:0≤i∧i<8) (hch:∀ j:Int,0≤j→j<8→(V.S j).1.parent≠i+1) (hn:∀ f:Int,0≤f→f<12→ctn (f+1) (V.S i).1.fds=0):Snd (EQ.oS V i) ex:=by
 refine ⟨fun j h1 h2=>?_,A.fz,A.pz,fun j h1 h2 h3=>?_,fun j h1 h2=>?_,fun f h1 h2 h3=>?_,A.exF,A.pipe,A.ends⟩
 ·show (if j=i then _ else _)=_∨_
  by_cases hj:j=i
  ·rw [if_pos hj];exact .inl rfl
  ·show _∨((if j=i then _ else _):ProcS × Int).2=1∧okS ((if j=i then _ else _):ProcS × Int).1=true
   rw [if_neg hj];exact A.sz j h1 h2
 ·have e:∀ k:Int,(EQ.oS V i).S k=if k=i then (.zero,0) else V.S k:=fun _=>rfl
  rw [e] at h3 ⊢
  by_cases hj:j=i
  ·rw [if_pos hj] at h3;exact absurd h3 (by decide)
  ·rw [if_neg hj] at h3 ⊢
   have:=A.par j h1 h2 h3
   rw [e,if_neg (fun h=>hch j h1 h2 (by omega))]
   exact this
 ·show ∀ f ∈ ((if j=i then _ else _):ProcS × Int).1.fds,_
  by_cases hj:j=i
  ·rw [if_pos hj]
   intro f hf h0
   have:f ∈ Ax1:=hf
   simp at this;omega
  ·rw [if_neg hj];exact A.fd j h1 h2
 ·rw [Jg3 hi h1,hn f h1 h2,Int.sub_zero];exact A.refs f h1 h2 h3
theorem Ht7 (k j:Int) (hk:k=1∨k=2):N1 k j .zero=0:=by unfold N1;rw [if_neg];intro h;have:(0:Int)=k:=h.1;omega
theorem Snd.close {V:VW} {f:Int} (hf:0≤f∧f<12) (A:Snd V f):(A66 V f).1=0∧Snd (A66 V f).2 (-1):=by
 have hp:=A.exF hf.1
 have hr:=A.refs f hf.1 hf.2 hp
 rw [if_pos rfl] at hr
 have hnn:=Ib8 V.S f
 obtain ⟨_,hok,hkd⟩:=(A.fz f hf.1 hf.2).resolve_left (fun e=>by rw [e] at hp;cases hp)
 unfold A66
 rw [if_neg (by omega)]
 by_cases h1:(V.F f).1.refs-1>0
 ·rw [if_pos h1]
  refine ⟨rfl,A.sz,fun g a b=>?_,A.pz,A.par,fun i a b g hg h0=>?_,fun g a b c=>?_,by omega,fun g a b c=>?_,fun j a b c=>?_⟩
  ·rw [Bp2]
   by_cases hg:g=f
   ·rw [if_pos hg];exact .inr ⟨rfl,Ay9 hok (n:=-1) (by have:=At7 hok;omega),hkd⟩
   ·rw [if_neg hg];exact A.fz g a b
  ·rw [Bp2];split
   ·rfl
   ·exact A.fd i a b g hg h0
  ·rw [Bp2] at c ⊢
   rw [if_neg (show ¬ g=-1 by omega)]
   by_cases hg:g=f
   ·rw [if_pos hg,hg];show (V.F f).1.refs+-1=Al7 V.S f+0;omega
   ·rw [if_neg hg] at c ⊢
    have:=A.refs g a b c
    rw [if_neg hg] at this;exact this
  ·rw [Bp2] at c ⊢
   by_cases hg:g=f
   ·rw [if_pos hg] at c ⊢;exact A.pipe f hf.1 hf.2 c
   ·rw [if_neg hg] at c ⊢;exact A.pipe g a b c
  ·have e:∀ k,Aa4 (wF V f (Am4 (V.F f).1 (-1))).F k j=Aa4 V.F k j:=fun k=>by
    rw [Ef8 hf (fun x hx=>by rw [Bp2,if_neg hx]),Bp2,if_pos rfl]
    show _-N1 k j (V.F f).1+N1 k j (V.F f).1=_;omega
   rw [e,e];exact A.ends j a b c
 rw [if_neg h1]
 have hz:Al7 V.S f=0:=by omega
 have hno:∀ i:Int,0≤i→i<8→∀ g ∈ (V.S i).1.fds,g≠f+1:=fun i a b g hg e=>by
  have:=G19 (g:=fun i=>ctn (f+1) (V.S i).1.fds) 8 (fun _ _ _=>Ex5 ..) a (by omega)
  have h2:=Js6 (e ▸ hg)
  unfold Al7 at hz
  omega
 have hF:∀ k j,k=1∨k=2→Aa4 (oF V f).F k j=Aa4 V.F k j-N1 k j (V.F f).1:=fun k j hk=>by
  rw [Ef8 hf (fun x hx=>by rw [Gr6,if_neg hx]),Gr6,if_pos rfl,Ht7 k j hk];omega
 have hfz:∀ g:Int,0≤g→g<12→(oF V f).F g=(.zero,0)∨(((oF V f).F g).2=1∧okF ((oF V f).F g).1=true∧(((oF V f).F g).1.kind=3∨(((oF V f).F g).1.kind=1∨((oF V f).F g).1.kind=2)∧0≤((oF V f).F g).1.pipe∧((oF V f).F g).1.pipe<4)):=fun g a b=>by
  rw [Gr6];by_cases hg:g=f
  ·rw [if_pos hg];exact .inl rfl
  ·rw [if_neg hg];exact A.fz g a b
 have hfd:∀ i:Int,0≤i→i<8→∀ g ∈ (V.S i).1.fds,g>0→((oF V f).F (g-1)).2=1:=fun i a b g hg h0=>by
  rw [Gr6,if_neg (fun e=>hno i a b g hg (by omega))];exact A.fd i a b g hg h0
 have hrf:∀ g:Int,0≤g→g<12→((oF V f).F g).2=1→((oF V f).F g).1.refs=Al7 V.S g+if g=-1 then 1 else 0:=fun g a b c=>by
  rw [Gr6] at c ⊢
  by_cases hg:g=f
  ·rw [if_pos hg] at c;cases c
  ·rw [if_neg hg] at c ⊢
   have:=A.refs g a b c
   rw [if_neg hg] at this;rw [if_neg (by omega)];exact this
 have hkz:∀ g:Int,((oF V f).F g).1.kind=1∨((oF V f).F g).1.kind=2→g≠f∧(oF V f).F g=V.F g:=fun g c=>by
  rw [Gr6] at c ⊢
  by_cases hg:g=f
  ·rw [if_pos hg] at c;rcases c with c|c<;>cases c
  ·rw [if_neg hg];exact ⟨hg,rfl⟩
 by_cases h3:(V.F f).1.kind=3
 ·rw [if_pos h3]
  have e:∀ k j,k=1∨k=2→Aa4 (oF V f).F k j=Aa4 V.F k j:=fun k j hk=>by
   rw [hF k j hk];unfold N1;rw [if_neg (by omega)];omega
  refine ⟨rfl,A.sz,hfz,A.pz,A.par,hfd,hrf,by omega,fun g a b c=>?_,fun j a b c=>?_⟩
  ·obtain ⟨_,e2⟩:=hkz g c
   rw [e2] at c ⊢;exact A.pipe g a b c
  ·rw [e 1 j (.inl rfl),e 2 j (.inr rfl)];exact A.ends j a b c
 rw [if_neg h3]
 obtain ⟨hk,hq1,hq2⟩:=hkd.resolve_left h3
 have hP:=A.pipe f hf.1 hf.2 hk
 rw [if_neg (fun h=>h ⟨by omega,hP⟩)]
 obtain ⟨_,hqok⟩:=(A.pz _ hq1 hq2).resolve_left (fun e=>by rw [e] at hP;cases hP)
 obtain ⟨e1,e2,e3⟩:=A.ends _ hq1 hq2 hP
 have hge:1≤Aa4 V.F (V.F f).1.kind (V.F f).1.pipe:=by
  have:=G19 (g:=fun x=>N1 (V.F f).1.kind (V.F f).1.pipe (V.F x).1) 12 (fun _ _ _=>Gr2 ..) hf.1 (by omega)
  have h:N1 (V.F f).1.kind (V.F f).1.pipe (V.F f).1=1:=by unfold N1;rw [if_pos ⟨rfl,rfl⟩]
  unfold Aa4;omega
 have hrw:(Dn5 (V.F f).1.kind (V.P (V.F f).1.pipe).1).readers=Aa4 (oF V f).F 1 (V.F f).1.pipe∧(Dn5 (V.F f).1.kind (V.P (V.F f).1.pipe).1).writers=Aa4 (oF V f).F 2 (V.F f).1.pipe:=by
  rw [hF 1 _ (.inl rfl),hF 2 _ (.inr rfl)]
  unfold Dn5 N1
  rcases hk with h|h
  ·rw [h] at hge
   rw [if_pos h,if_pos ⟨h,rfl⟩,if_neg (by omega)]
   exact ⟨by show max _ 0=_;omega,by show (V.P _).1.writers=_;omega⟩
  ·rw [h] at hge
   rw [if_neg (by omega),if_neg (by omega),if_pos ⟨h,rfl⟩]
   exact ⟨by show (V.P _).1.readers=_;omega,by show max _ 0=_;omega⟩
 have hendok:=Gs2 hqok (V.F f).1.kind
 have hoth:∀ k j,k=1∨k=2→j≠(V.F f).1.pipe→Aa4 (oF V f).F k j=Aa4 V.F k j:=fun k j hk hj=>by
  rw [hF k j hk];unfold N1;rw [if_neg (fun h=>hj h.2.symm)];omega
 generalize Dn5 (V.F f).1.kind (V.P (V.F f).1.pipe).1=e at *
 generalize hq:(V.F f).1.pipe=q at *
 obtain ⟨r1,r2⟩:=hrw
 have n1:=Io9 (oF V f).F 1 q
 have n2:=Io9 (oF V f).F 2 q
 unfold clP
 by_cases h5:e.readers+e.writers=0∧q<4
 ·rw [if_pos h5]
  have hPat:∀ j,(oP (oF V f) q).P j=if j=q then (.zero,0) else V.P j:=fun _=>rfl
  refine ⟨rfl,A.sz,hfz,fun j a b=>?_,A.par,hfd,hrf,by omega,fun g a b c=>?_,fun j a b c=>?_⟩
  ·rw [hPat];by_cases hj:j=q
   ·rw [if_pos hj];exact .inl rfl
   ·rw [if_neg hj];exact A.pz j a b
  ·have c':((oF V f).F g).1.kind=1∨((oF V f).F g).1.kind=2:=c
   obtain ⟨_,e2⟩:=hkz g c'
   have hne:((oF V f).F g).1.pipe≠q:=fun hgq=>by
    have h1:=fun k=>G19 (g:=fun x=>N1 k q ((oF V f).F x).1) (i:=g) 12 (fun _ _ _=>Gr2 ..) a b
    have h2:∀ k,((oF V f).F g).1.kind=k→N1 k q ((oF V f).F g).1=1:=fun k hk=>by unfold N1;rw [if_pos ⟨hk,hgq⟩]
    rcases c' with c'|c'
    ·have:=h1 1;have:=h2 1 c';unfold Aa4 at *;omega
    ·have:=h1 2;have:=h2 2 c';unfold Aa4 at *;omega
   show ((oP (oF V f) q).P ((oF V f).F g).1.pipe).2=1
   rw [hPat,if_neg hne,e2]
   rw [e2] at c'
   exact A.pipe g a b c'
  ·rw [hPat] at c ⊢
   by_cases hj:j=q
   ·rw [if_pos hj] at c;cases c
   ·rw [if_neg hj] at c ⊢
    show _=Aa4 (oF V f).F 1 j∧_=Aa4 (oF V f).F 2 j∧Aa4 (oF V f).F 1 j+Aa4 (oF V f).F 2 j≠0
    rw [hoth 1 j (.inl rfl) hj,hoth 2 j (.inr rfl) hj];exact A.ends j a b c
 ·rw [if_neg h5]
  have hPat:∀ j,(wP (oF V f) q e).P j=if j=q then (e,1) else V.P j:=fun _=>rfl
  refine ⟨rfl,A.sz,hfz,fun j a b=>?_,A.par,hfd,hrf,by omega,fun g a b c=>?_,fun j a b c=>?_⟩
  ·rw [hPat];by_cases hj:j=q
   ·rw [if_pos hj];exact .inr ⟨rfl,hendok⟩
   ·rw [if_neg hj];exact A.pz j a b
  ·have c':((oF V f).F g).1.kind=1∨((oF V f).F g).1.kind=2:=c
   obtain ⟨_,e2⟩:=hkz g c'
   show ((wP (oF V f) q e).P ((oF V f).F g).1.pipe).2=1
   rw [hPat];split
   ·rfl
   ·rw [e2] at c' ⊢;exact A.pipe g a b c'
  ·rw [hPat] at c ⊢
   show _=Aa4 (oF V f).F 1 j∧_=Aa4 (oF V f).F 2 j∧Aa4 (oF V f).F 1 j+Aa4 (oF V f).F 2 j≠0
   by_cases hj:j=q
   ·rw [if_pos hj,hj];exact ⟨r1,r2,by omega⟩
   ·rw [if_neg hj] at c ⊢
    rw [hoth 1 j (.inl rfl) hj,hoth 2 j (.inr rfl) hj];exact A.ends j a b c
theorem Gr4 (f:Int):∀ (l m:List Int),ctn f (l++m)=ctn f l+ctn f m
 | [],m=>by rw [List.nil_append,Eb6];omega
 | x::l,m=>by rw [List.cons_append,Az0,Az0,Gr4 f l m];omega
theorem Jm4 (V:VW) (i:Int) (p q:ProcS):wS (wS V i p) i q=wS V i q:=by
 refine VW.ext' (fun n=>?_) (fun _=>rfl) fun _=>rfl
 show (if n=i then _ else if n=i then _ else _)=if n=i then _ else _
 by_cases h:n=i
 ·rw [if_pos h,if_pos h]
 ·rw [if_neg h,if_neg h,if_neg h]
theorem Ju3 {V:VW} {i:Int} (h:(V.S i).2=1):wS V i (V.S i).1=V:=by
 refine VW.ext' (fun n=>?_) (fun _=>rfl) fun _=>rfl
 show (if n=i then _ else _)=_
 by_cases hn:n=i
 ·rw [if_pos hn,hn,← h]
 ·rw [if_neg hn]
theorem Gn1 (V:VW) (i:Int) (p:ProcS) (f:Int):(A66 (wS V i p) f).2=wS (A66 V f).2 i p:=by
 unfold A66
 have e1:(wS V i p).F=V.F:=rfl
 have e2:(wS V i p).P=V.P:=rfl
 rw [e1,e2]
 by_cases h1:(V.F f).2≠1
 ·rw [if_pos h1,if_pos h1]
 rw [if_neg h1,if_neg h1]
 by_cases h2:(V.F f).1.refs-1>0
 ·rw [if_pos h2,if_pos h2];rfl
 rw [if_neg h2,if_neg h2]
 by_cases h3:(V.F f).1.kind=3
 ·rw [if_pos h3,if_pos h3];rfl
 rw [if_neg h3,if_neg h3]
 by_cases h4:¬ ((V.F f).1.pipe<6∧(V.P (V.F f).1.pipe).2=1)
 ·rw [if_pos h4,if_pos h4];rfl
 rw [if_neg h4,if_neg h4]
 unfold clP
 by_cases h5:(Dn5 (V.F f).1.kind (V.P (V.F f).1.pipe).1).readers+(Dn5 (V.F f).1.kind (V.P (V.F f).1.pipe).1).writers=0∧(V.F f).1.pipe<4
 ·show (if _ then _ else _)=wS (if _ then _ else _) i p
  rw [if_pos h5,if_pos h5];rfl
 ·show (if _ then _ else _)=wS (if _ then _ else _) i p
  rw [if_neg h5,if_neg h5];rfl
theorem Jg1 (V:VW) (f:Int):(A66 V f).2.S=V.S:=by
 unfold A66 clP
 split
 ·rfl
 ·split
  ·rfl
  ·split
   ·rfl
   ·split
    ·rfl
    ·show (if _ then _ else _:VW).S=_
     split<;>rfl
abbrev Dj0 (p:ProcS) (l:List Int) (h:l.length=8):ProcS:=⟨p.state,p.parent,p.group,p.code,p.pending,p.mask,p.ignored,p.caught,l,h⟩
theorem Ip6 {p:ProcS} (h:okS p=true) (h2:p.state≠2) {l:List Int} (hl:l.length=8) (hr:∀ f ∈ l,0≤f∧f≤12):okS (Dj0 p l hl)=true:=by
 unfold okS at h ⊢
 rw [if_neg h2] at h
 rw [if_neg (show ¬ (Dj0 p l hl).state=2 from h2)]
 simp only [Bool.and_eq_true,Bool.not_eq_true',Bool.or_eq_false_iff,decide_eq_false_iff_not,List.any_eq_false] at h ⊢
 obtain ⟨a1,b1,d1,d2⟩:=h
 exact ⟨a1,b1,fun f hf=>by have:=hr f hf;simp;omega,d2⟩
theorem E51 {i:Int} (hi:0≤i∧i<8) {p:ProcS} (hp:okS p=true) (h2:p.state≠2):∀ (rest:List Int) (k:Nat) (hk:(List.replicate k 0++rest).length=8) (X:CX) (V:VW),See X V→Snd (wS V i (Dj0 p (List.replicate k 0++rest) hk)) (-1) →
  ∃ V',See (B00 3 rest X) V'∧V'.S=V.S∧Snd (wS V' i (Dj0 p Ax1 rfl)) (-1)
 | [],k,hk,X,V,A,B=>by
  have:k=8:=by simpa using hk
  subst this
  exact ⟨V,A,rfl,B⟩
 | f::rest,k,hk,X,V,A,B=>by
  have e:wS V i (Dj0 p (List.replicate (k+1) 0++rest) (by simp at hk ⊢;omega))=wS (wS V i (Dj0 p (List.replicate k 0++f::rest) hk)) i (Dj0 p (List.replicate (k+1) 0++rest) (by simp at hk ⊢;omega)):=(Jm4 ..).symm
  have hS:((wS V i (Dj0 p (List.replicate k 0++f::rest) hk)).S i)=(Dj0 p (List.replicate k 0++f::rest) hk,1):=by rw [Da8,if_pos rfl]
  have hok0:=(B.sz i hi.1 hi.2).resolve_left (fun e=>by rw [hS] at e;exact absurd (congrArg Prod.snd e) (by simp))
  rw [hS] at hok0
  have hrng:=Ba3 hok0.2
  rw [B00]
  by_cases hf:f>0
  ·rw [if_pos hf]
   have hfr:0≤f∧f≤12:=hrng f (by simp)
   have hrep:List.replicate (k+1) (0:Int)++rest=List.replicate k 0++0::rest:=by rw [List.replicate_succ',List.append_assoc];rfl
   have C:Snd (wS V i (Dj0 p (List.replicate (k+1) 0++rest) (by simp at hk ⊢;omega))) (f-1):=by
    rw [e]
    refine B.wS hi (f-1) (Ip6 hp h2 _ fun x hx=>?_) (fun x hx h0=>?_) (fun h0=>?_) (fun h=>absurd h h2) (fun g a b c=>?_) fun h0=>?_
    ·rw [hrep] at hx
     rcases List.mem_append.1 hx with h|h
     ·have:=List.eq_of_mem_replicate h;omega
     ·rcases List.mem_cons.1 h with h|h
      ·omega
      ·exact hrng x (by show x ∈ List.replicate k 0++f::rest;simp [h])
    ·refine B.fd i hi.1 hi.2 x ?_ h0
     rw [hS]
     show x ∈ List.replicate k 0++f::rest
     have hx':x ∈ List.replicate (k+1) (0:Int)++rest:=hx
     rw [hrep] at hx'
     rcases List.mem_append.1 hx' with h|h
     ·simp [h]
     ·rcases List.mem_cons.1 h with h|h
      ·omega
      ·simp [h]
    ·have:=B.par i hi.1 hi.2 (by rw [hS];exact h0)
     rw [hS] at this;exact this
    ·rw [hS]
     have h1:=B.refs g a b c
     rw [if_neg (show ¬ g=-1 by omega)] at h1
     show _=_-ctn (g+1) (List.replicate k 0++f::rest)+ctn (g+1) (List.replicate (k+1) 0++rest)+_
     rw [hrep,Gr4,Gr4,Az0,Az0,if_neg (show ¬ (0:Int)=g+1 by omega),h1]
     by_cases hg:g=f-1
     ·rw [if_pos hg,if_pos (by omega)];omega
     ·rw [if_neg hg,if_neg (by omega)];omega
    ·exact B.fd i hi.1 hi.2 f (by rw [hS];show f ∈ List.replicate k 0++f::rest;simp) hf
   have D:=(C.close (by omega)).2
   rw [Gn1] at D
   obtain ⟨V',a1,a2,a3⟩:=E51 hi hp h2 rest (k+1) (by simp at hk ⊢;omega) (Az8 3 X (f-1)).2 (A66 V (f-1)).2 (A.close (by omega)).2 D
   exact ⟨V',a1,a2.trans (Jg1 ..),a3⟩
  ·rw [if_neg hf]
   have h0:f=0:=by have:=hrng f (by simp);omega
   subst h0
   have hrep:List.replicate (k+1) (0:Int)++rest=List.replicate k 0++0::rest:=by rw [List.replicate_succ',List.append_assoc];rfl
   exact E51 hi hp h2 rest (k+1) (by simp at hk ⊢;omega) X V A (by
    have:Dj0 p (List.replicate (k+1) 0++rest) (by simp at hk ⊢;omega)=Dj0 p (List.replicate k 0++0::rest) hk:=by unfold Dj0;simp only [hrep]
    rw [this];exact B)
def SX (X:CX):Prop:=∃ V,See X V∧Snd V (-1)
theorem Iv5 (V:VW) (i j:Int):(oS V i).S j=if j=i then (.zero,0) else V.S j:=rfl
theorem Snd.refs0 {V:VW} (B:Snd V (-1)) {f:Int} (h0:0≤f) (h1:f<12) (h2:(V.F f).2=1):(V.F f).1.refs=Al7 V.S f:=by
 have:=B.refs f h0 h1 h2
 rw [if_neg (by omega)] at this;omega
theorem Snd.set {V:VW} (B:Snd V (-1)) {i:Int} (hi:0≤i∧i<8) (hp:(V.S i).2=1) {p:ProcS} (ok:okS p=true) (hf:p.fds=(V.S i).1.fds) (hpar:p.parent=(V.S i).1.parent∨p.parent=0) (hst:p.state=2→∀ j:Int,0≤j→j<8→(V.S j).1.parent≠i+1):Snd (EQ.wS V i p) (-1):=by
 refine B.wS hi (-1) ok (fun f h1 h2=>B.fd i hi.1 hi.2 f (hf ▸ h1) h2) (fun h=>?_) hst (fun f a b c=>?_) (by omega)
 ·rcases hpar with e|e
  ·rw [e] at h ⊢;exact B.par i hi.1 hi.2 h
  ·omega
 ·rw [hf,B.refs0 a b c,if_neg (by omega)];omega
theorem Iz8 {p:ProcS} (h:okS p=true) (h2:p.state=2):p.fds=Ax1:=by
 unfold okS at h
 rw [if_pos h2] at h
 simp only [Bool.and_eq_true,decide_eq_true_eq] at h
 exact h.2.2.2.2
theorem Snd.nochild {V:VW} (B:Snd V (-1)) {i:Int} (h:(V.S i).1.state=2) (j:Int) (h0:0≤j) (h1:j<8) (hp:0≤i):(V.S j).1.parent≠i+1:=fun e=>by
 have:=B.par j h0 h1 (by omega)
 rw [e,show i+1-1=i by omega] at this
 exact this.2.2 h
theorem Snd.out {V:VW} (B:Snd V (-1)) {i:Int} (hi:0≤i∧i<8) (hp:(V.S i).2=1) (h2:(V.S i).1.state=2):Snd (EQ.oS V i) (-1):=by
 obtain ⟨_,ok⟩:=(B.sz i hi.1 hi.2).resolve_left (fun e=>by rw [e] at hp;cases hp)
 exact B.oS hi (fun j a b=>B.nochild h2 j a b hi.1) fun f a b=>by rw [Iz8 ok h2];exact G60 a
theorem Ez9 {V0:VW} {i:Int} (hi:0≤i∧i<8):∀ (m:Nat) (k:Int) (X:CX) (V:VW),0≤k→k+m=8→See X V→Snd V (-1)→(∀ j:Int,k≤j→V.S j=V0.S j)→(∀ j:Int,0≤j→j<k→j≠i→(V.S j).1.parent≠i+1)→V.S i=V0.S i →
  ∃ V',See (Ea0 (Dl1 V0 (Gr5 i) m k) X) V'∧Snd V' (-1)∧(∀ j:Int,0≤j→j<8→j≠i→(V'.S j).1.parent≠i+1)∧V'.S i=V0.S i
 | 0,k,X,V,h0,hm,A,B,hk,hc,hs=>by
  obtain rfl:k=8:=by omega
  exact ⟨V,A,B,hc,hs⟩
 | m+1,k,X,V,h0,hm,A,B,hk,hc,hs=>by
  rw [Dl1]
  by_cases h:(V0.S k).2=1∧Gr5 i k (V0.S k).1=true
  ·rw [if_pos h,Ea0]
   have hkk:=hk k (by omega)
   obtain ⟨h1,h2⟩:=h
   unfold Gr5 at h2
   simp only [Bool.and_eq_true,bne_iff_ne,beq_iff_eq] at h2
   obtain ⟨h2,h3⟩:=h2
   have hkr:0≤k∧k<8:=by omega
   rw [← hkk] at h1 h3 ⊢
   obtain ⟨_,ok⟩:=(B.sz k hkr.1 hkr.2).resolve_left (fun e=>by rw [e] at h1;cases h1)
   dsimp only
   by_cases hz:(V.S k).1.state=2
   ·rw [if_pos hz]
    refine Ez9 hi m (k+1) _ _ (by omega) (by omega) (A.os hkr) (B.out hkr h1 hz) (fun j hj=>by rw [Iv5,if_neg (by omega)];exact hk j (by omega)) (fun j a b c=>?_) (by rw [Iv5,if_neg (fun e=>h2 e.symm)];exact hs)
    rw [Iv5]
    by_cases hj:j=k
    ·rw [if_pos hj];show (0:Int)≠i+1;omega
    ·rw [if_neg hj];exact hc j a (by omega) c
   ·rw [if_neg hz]
    have hin:InS (V.S k).1:=by rw [← A.s k hkr];exact At9 _
    refine Ez9 hi m (k+1) _ _ (by omega) (by omega) (A.ws hkr (Gp9 ok) ⟨hin.a,hin.b,hin.c,hin.d⟩) (B.set hkr h1 (Gp9 ok) rfl (.inr rfl) (fun h=>absurd h hz)) (fun j hj=>by rw [Da8,if_neg (by omega)];exact hk j (by omega)) (fun j a b c=>?_) (by rw [Da8,if_neg (fun e=>h2 e.symm)];exact hs)
    rw [Da8]
    by_cases hj:j=k
    ·rw [if_pos hj];show (0:Int)≠i+1;omega
    ·rw [if_neg hj];exact hc j a (by omega) c
  ·rw [if_neg h]
   refine Ez9 hi m (k+1) X V (by omega) (by omega) A B (fun j hj=>hk j (by omega)) (fun j a b c=>?_) hs
   by_cases hj:j=k
   ·intro e
    refine h ⟨?_,?_⟩
    ·rcases B.sz j a (by omega) with h1|h1
     ·rw [h1] at e;have e':(0:Int)=i+1:=e;omega
     ·rw [← hk k (by omega),← hj];exact h1.1
    ·unfold Gr5
     rw [← hk k (by omega),← hj,e];simp [c]
   ·exact hc j a (by omega) c
theorem SX.exit {X:CX} (H:SX X) {i:Int} (hi:0≤i∧i<8) (code:Int):SX (Ha9 3 X i code).2:=by
 obtain ⟨V,A,B⟩:=H
 unfold Ha9
 by_cases h0:(G7 X i).2=0
 case neg=>rw [if_pos h0];exact ⟨V,A,B⟩
 rw [if_neg (by simpa using h0)]
 obtain ⟨s1,s2,s3,s4⟩:=Aq2 A.c hi h0
 have hin:InS (vS X i).1:=At9 _
 have eS:=A.s i hi
 rw [eS] at s2 s3 s4
 have hC:∃ V1,See (U0 3 X i) V1∧Snd V1 (-1)∧V1.S i=(Db2 (V.S i).1,1):=by
  have hw:wS V i (Dj0 (V.S i).1 (List.replicate 0 0++(V.S i).1.fds) (V.S i).1.len)=V:=Ju3 s4
  obtain ⟨V',a1,a2,a3⟩:=E51 hi s3 (by omega) (V.S i).1.fds 0 (V.S i).1.len X V A (by rw [hw];exact B)
  unfold U0
  rw [eS,if_pos s4]
  have hok:okS (Db2 (V.S i).1)=true:=Ip6 s3 (by omega) rfl (by simp)
  rw [eS] at hin
  exact ⟨_,a1.ws hi hok ⟨hin.a,hin.b,hin.c,hin.d⟩,a3,by rw [Da8,if_pos rfl]⟩
 obtain ⟨V1,A1,B1,e1⟩:=hC
 have hO:∃ V2,See (Bd9 (U0 3 X i) i) V2∧Snd V2 (-1)∧(∀ j:Int,0≤j→j<8→j≠i→(V2.S j).1.parent≠i+1)∧V2.S i=V1.S i:=by
  unfold Bd9
  rw [A1.slots _ 8 0 (by omega) (by omega)]
  exact Ez9 hi 8 0 _ V1 (by omega) (by omega) A1 B1 (fun _ _=>rfl) (fun j a b=>by omega) rfl
 obtain ⟨V2,A2,B2,hch,e2⟩:=hO
 generalize Bd9 (U0 3 X i) i=Y at *
 rw [e1] at e2
 have eY:=A2.s i hi
 rw [e2] at eY
 have hself:∀ j:Int,0≤j→j<8→(V2.S j).1.parent≠i+1:=fun j a b=>by
  by_cases hj:j=i
  ·intro e
   have:=B2.par j a b (by omega)
   exact this.1 (by rw [e,hj])
  ·exact hch j a b hj
 have hS2:(V2.S i).2=1:=by rw [e2]
 rw [eY,if_neg (by simp)]
 dsimp only
 obtain ⟨_,ok2⟩:=(B2.sz i hi.1 hi.2).resolve_left (fun e=>by rw [e] at hS2;cases hS2)
 rw [e2] at ok2
 have hin2:InS (Db2 (V.S i).1):=by rw [eS] at hin;exact ⟨hin.a,hin.b,hin.c,hin.d⟩
 split
 ·exact ⟨_,A2.ws hi (Hj9 ok2 code) ⟨by show (0:Int)≤0∧(0:Int)≤65535;omega,hin2.b,hin2.c,hin2.d⟩,B2.set hi hS2 (Hj9 ok2 code) (by rw [e2]) (.inl (by rw [e2])) (fun _=>hself)⟩
 ·exact ⟨_,A2.os hi,B2.oS hi hself fun f a b=>by rw [e2];exact G60 a⟩
theorem Eo2 (V:VW) (q:Int→ProcS→Bool):∀ (m:Nat) (k:Int),∀ s ∈ Dl1 V q m k,k≤s.1∧s.1<k+m∧(V.S s.1).2=1∧s.2=(V.S s.1).1
 | 0,k,s,h=>by simp [Dl1] at h
 | m+1,k,s,h=>by
  rw [Dl1] at h
  split at h
  ·rename_i h1
   rcases List.mem_cons.1 h with rfl|h2
   ·exact ⟨by simp,by simp only;omega,h1.1,rfl⟩
   ·obtain ⟨a,b,c⟩:=Eo2 V q m (k+1) s h2
    exact ⟨by omega,by omega,c⟩
  ·obtain ⟨a,b,c⟩:=Eo2 V q m (k+1) s h
   exact ⟨by omega,by omega,c⟩
theorem Ht2 {X:CX} {V:VW} (A:See X V) (B:Snd V (-1)) (n:Nat):∀ (L:List (Int × ProcS)),(∀ s ∈ L,(0≤s.1∧s.1<8)∧(V.S s.1).2=1∧s.2=(V.S s.1).1)→SX (D84 X n L).2
 | [],_=>⟨V,A,B⟩
 | s::l,h=>by
  obtain ⟨h1,h2,h3⟩:=h s (by simp)
  rw [D84]
  split
  ·rename_i hz
   exact ⟨_,A.os h1,B.out h1 h2 (by rw [← h3];exact hz)⟩
  ·exact Ht2 A B n l fun x hx=>h x (by simp [hx])
theorem SX.wait {X:CX} (H:SX X) {i:Int} (hi:0≤i∧i<8):SX (Hc0 X i).2:=by
 obtain ⟨V,A,B⟩:=H
 unfold Hc0
 split
 ·exact ⟨V,A,B⟩
 ·rw [A.slots _ 8 0 (by omega) (by omega)]
  refine Ht2 A B _ _ fun s hs=>?_
  obtain ⟨a,b,c,d⟩:=Eo2 V _ 8 0 s hs
  exact ⟨by omega,c,d⟩
theorem G59 {V0:VW} {n:Int}:∀ (L:List (Int × ProcS)) (X:CX) (V:VW),See X V→Snd V (-1)→I44 L→(∀ s ∈ L,(V0.S s.1).2=1∧s.2=(V0.S s.1).1) →
  (∀ j,(V.S j).2=(V0.S j).2∧(V.S j).1.fds=(V0.S j).1.fds∧(V.S j).1.parent=(V0.S j).1.parent)→SX (Gs6 X n L)
 | [],X,V,A,B,_,_,_=>⟨V,A,B⟩
 | s::l,X,V,A,B,hk,h,e=>by
  obtain ⟨h1,h2,h3⟩:=hk s (by simp)
  obtain ⟨h4,h5⟩:=h s (by simp)
  obtain ⟨e1,e2,e3⟩:=e s.1
  rw [Gs6]
  by_cases hc:Ib4 s.2 n
  ·obtain ⟨r1,r2⟩:=H44 h2 h3 hc
   rw [if_pos hc]
   have hs2:(Ey3 s.2 n).state≠2:=by
    show st2 s.2 n≠2
    have:=hc.2
    unfold st2;split<;>omega
   refine G59 l _ _ (A.ws h1 r1 r2) (B.set h1 (by rw [e1];exact h4) r1 (by rw [e2,← h5];rfl) (.inl (by rw [e3,← h5];rfl)) (fun h=>absurd h hs2)) (fun x hx=>hk x (by simp [hx])) (fun x hx=>h x (by simp [hx])) fun j=>?_
   rw [Da8]
   by_cases hj:j=s.1
   ·rw [if_pos hj,hj,h4,← h5];exact ⟨rfl,rfl,rfl⟩
   ·rw [if_neg hj];exact e j
  ·rw [if_neg hc]
   exact G59 l X V A B (fun x hx=>hk x (by simp [hx])) (fun x hx=>h x (by simp [hx])) e
theorem SX.kill {X:CX} (H:SX X) (i t n:Int):SX (Jn1 X i t n).2:=by
 obtain ⟨V,A,B⟩:=H
 unfold Jn1
 split
 ·exact ⟨V,A,B⟩
 ·split
  ·exact ⟨V,A,B⟩
  ·rename_i ht
   split
   ·exact ⟨V,A,B⟩
   ·have hm:=Jd9 A.c (t:=t) (by omega)
    refine G59 (V0:=V) _ X V A B hm (fun s hs=>?_) fun _=>⟨rfl,rfl,rfl⟩
    unfold Hh0 at hs
    split at hs
    ·rw [A.slots _ 8 0 (by omega) (by omega)] at hs
     obtain ⟨a,b,c,d⟩:=Eo2 V _ 8 0 s hs
     exact ⟨c,d⟩
    ·split at hs
     ·cases hs
     ·rename_i h8 h0
      rw [List.mem_singleton] at hs
      have eS:=A.s t (by omega)
      subst hs
      simp only
      rw [eS] at h0 ⊢
      exact ⟨((B.sz t (by omega) (by omega)).resolve_left (fun e=>h0 (by rw [e]))).1,rfl⟩
theorem SX.group {X:CX} (H:SX X) {i:Int} (hi:0≤i∧i<8) (t g:Int):SX (Jb9 X i t g).2:=by
 obtain ⟨V,A,B⟩:=H
 unfold Jb9
 by_cases h0:(G7 X i).2=0
 case neg=>rw [if_pos h0];exact ⟨V,A,B⟩
 rw [if_neg (by simpa using h0)]
 obtain ⟨s1,s2,s3,s4⟩:=Aq2 A.c hi h0
 split
 ·exact ⟨V,A,B⟩
 rename_i h1
 by_cases h2:Hc1 X i t=0
 case neg=>rw [if_pos h2];exact ⟨V,A,B⟩
 rw [if_neg (by simpa using h2)]
 split
 ·exact ⟨V,A,B⟩
 have ht:0≤t∧t<8:=by omega
 have hg:0≤g∧g<8:=by omega
 have hin:InS (vS X t).1:=At9 _
 have eS:=A.s t ht
 have hp:(vS X t).2=1:=by
  unfold Hc1 at h2
  split at h2
  ·rename_i e;rw [e];exact s4
  ·split at h2
   ·simp at h2
   ·rename_i h5
    exact Classical.byContradiction fun h=>h5 (.inl h)
 rw [eS] at hin hp ⊢
 obtain ⟨_,ok⟩:=(B.sz t ht.1 ht.2).resolve_left (fun e=>by rw [e] at hp;cases hp)
 exact ⟨_,A.ws ht (Ir1 ok hg) ⟨hin.a,hin.b,hin.c,hin.d⟩,B.set ht hp (Ir1 ok hg) rfl (.inl rfl) (fun h j a b=>B.nochild h j a b ht.1)⟩
theorem Gm7 {g:Int} (hg:0≤g∧g<12):∀ (l m:List Int),Bk3 l→m.length=12→(Ba9 l m).getD g.toNat 0=m.getD g.toNat 0+ctn (g+1) l
 | [],m,_,_=>by rw [Eb6];simp [Ba9]
 | f::l,m,hf,hm=>by
  have hr:=hf f (by simp)
  have hl:Bk3 l:=fun x hx=>hf x (by simp [hx])
  rw [show Ba9 (f::l) m=Ba9 l (if f>0 then m.set (f-1).toNat (m.getD (f-1).toNat 0+1) else m) from rfl,Az0]
  by_cases hz:f>0
  ·rw [if_pos hz,Gm7 hg l _ hl (by simpa using hm)]
   by_cases he:f=g+1
   ·rw [if_pos he,show (f-1).toNat=g.toNat by omega,List.getD_eq_getElem?_getD,List.getElem?_set_self (by omega)]
    show m.getD g.toNat 0+1+_=_;omega
   ·rw [if_neg he,List.getD_eq_getElem?_getD,List.getElem?_set_ne (by omega),← List.getD_eq_getElem?_getD];omega
  ·rw [if_neg hz,Gm7 hg l m hl hm,if_neg (by omega)];omega
theorem I87 {p:ProcS} (h:Bk3 p.fds) {g:Int} (hg:0≤g∧g<12):(Ap4 p).getD g.toNat 0=ctn (g+1) p.fds:=by
 have:=Gm7 hg p.fds Ef7 h rfl
 rw [this]
 have hz:Ef7.getD g.toNat 0=0:=by
  have:g.toNat=0∨g.toNat=1∨g.toNat=2∨g.toNat=3∨g.toNat=4∨g.toNat=5∨g.toNat=6∨g.toNat=7∨g.toNat=8∨g.toNat=9∨g.toNat=10∨g.toNat=11:=by omega
  rcases this with h|h|h|h|h|h|h|h|h|h|h|h<;>rw [h]<;>rfl
 rw [hz];omega
theorem E14 {V:VW} {more:List Int}:∀ (l:List Int),Bx9 V more l=0→∀ f ∈ l,f≠0→(V.F (f-1)).2=1∧(V.F (f-1)).1.refs+more.getD (f-1).toNat 0≤64
 | [],_,f,h,_=>by simp at h
 | g::l,h,f,hm,hf=>by
  rw [Bx9] at h
  by_cases hg:g=0
  ·rw [if_pos hg] at h
   rcases List.mem_cons.1 hm with rfl|h2
   ·exact absurd hg hf
   ·exact E14 l h f h2 hf
  ·rw [if_neg hg] at h
   by_cases h1:(V.F (g-1)).2=1
   ·rw [if_neg (by simpa using h1)] at h
    by_cases h2:(V.F (g-1)).1.refs+more.getD (g-1).toNat 0>64
    ·rw [if_pos h2] at h;cases h
    ·rw [if_neg h2] at h
     rcases List.mem_cons.1 hm with rfl|h3
     ·exact ⟨h1,by omega⟩
     ·exact E14 l h f h3 hf
   ·rw [if_pos h1] at h;cases h
theorem H61 {V:VW}:∀ (m:Nat) (i:Int),0≤i→0≤Bb8 V m i→(i≤Bb8 V m i∧Bb8 V m i<i+m)∧(V.S (Bb8 V m i)).2=0
 | 0,i,h0,h=>by simp [Bb8] at h
 | m+1,i,h0,h=>by
  rw [Bb8] at h ⊢
  by_cases h1:(V.S i).2=0
  ·rw [if_pos h1];exact ⟨by omega,h1⟩
  ·rw [if_neg h1] at h ⊢
   obtain ⟨a,b⟩:=H61 m (i+1) (by omega) h
   exact ⟨by omega,b⟩
theorem SX.fork {X:CX} (H:SX X) {i:Int} (hi:0≤i∧i<8):SX (Ek2 X i).2:=by
 obtain ⟨V,A,B⟩:=H
 refine ⟨_,(A.fork hi).2,?_⟩
 have es:=A.self hi
 unfold H04
 by_cases h0:(U6 V i).2=0
 case neg=>rw [if_pos h0];exact B
 rw [if_neg (by simpa using h0)]
 obtain ⟨s1,s2,s3,s4⟩:=Aq2 A.c hi (by rw [es];exact h0)
 rw [A.s i hi] at s2 s3 s4
 by_cases h1:Bb8 V 8 0<0
 ·rw [if_pos h1];exact B
 rw [if_neg h1]
 by_cases h2:Bx9 V (Ap4 (V.S i).1) (V.S i).1.fds=0
 case neg=>rw [if_pos h2];exact B
 rw [if_neg (by simpa using h2)]
 obtain ⟨hc,hfree⟩:=H61 8 0 (by omega) (by omega:0≤Bb8 V 8 0)
 generalize Bb8 V 8 0=c at *
 have hcz:=(B.sz c (by omega) (by omega)).resolve_right (fun h=>by rw [hfree] at h;exact absurd h.1 (by decide))
 have hfd:=Ba3 s3
 have hm:=fun g hg=>I87 hfd (g:=g) hg
 have hsh:=E14 _ h2
 have hck:=G62 s3 s2 hi
 generalize Ap4 (V.S i).1=more at *
 have hnc:∀ j:Int,0≤j→j<8→(V.S j).1.parent≠c+1:=fun j a b e=>by
  have:=(B.par j a b (by omega)).2.1
  rw [e,show c+1-1=c by omega,hfree] at this;cases this
 have hci:c≠i:=fun e=>by rw [e,s4] at hfree;cases hfree
 have hFat:∀ g,(wS (Du8 V more) c (W9 (V.S i).1 i)).F g=if more.getD g.toNat 0≠0 then (Am4 (V.F g).1 (more.getD g.toNat 0),1) else V.F g:=fun _=>rfl
 have hmp:∀ g:Int,0≤g→g<12→more.getD g.toNat 0≠0→(V.F g).2=1∧(V.F g).1.refs+more.getD g.toNat 0≤64:=fun g a b h=>by
  have hcn:=hm g ⟨a,b⟩
  have:=Ex5 (g+1) (V.S i).1.fds
  have hmem:=In7 (f:=g+1) (l:=(V.S i).1.fds) (by omega)
  have:=hsh (g+1) hmem (by omega)
  rwa [show g+1-1=g by omega] at this
 have hkp:∀ g:Int,((wS (Du8 V more) c (W9 (V.S i).1 i)).F g).1.kind=(V.F g).1.kind∧((wS (Du8 V more) c (W9 (V.S i).1 i)).F g).1.pipe=(V.F g).1.pipe:=fun g=>by
  rw [hFat];split<;>exact ⟨rfl,rfl⟩
 have hend:∀ k j,Aa4 (wS (Du8 V more) c (W9 (V.S i).1 i)).F k j=Aa4 V.F k j:=fun k j=>D81 12 fun g _ _=>by
  unfold N1;rw [(hkp g).1,(hkp g).2]
 have hpres:∀ g:Int,(V.F g).2=1→((wS (Du8 V more) c (W9 (V.S i).1 i)).F g).2=1:=fun g h=>by
  rw [hFat];split
  ·rfl
  ·exact h
 have hSat:∀ j,(wS (Du8 V more) c (W9 (V.S i).1 i)).S j=if j=c then (W9 (V.S i).1 i,1) else V.S j:=fun _=>rfl
 refine ⟨fun j a b=>?_,fun g a b=>?_,B.pz,fun j a b h=>?_,fun j a b=>?_,fun g a b h=>?_,by omega,fun g a b h=>?_,fun j a b h=>?_⟩
 ·rw [hSat];split
  ·exact .inr ⟨rfl,hck⟩
  ·exact B.sz j a b
 ·have hk:=hkp g
  by_cases hz:more.getD g.toNat 0≠0
  ·obtain ⟨p1,p2⟩:=hmp g a b hz
   obtain ⟨_,ok,kd⟩:=(B.fz g a b).resolve_left (fun e=>by rw [e] at p1;cases p1)
   have:=At7 ok
   have hcn:=hm g ⟨a,b⟩
   have:=Ex5 (g+1) (V.S i).1.fds
   right
   rw [hk.1,hk.2,hFat,if_pos hz]
   exact ⟨rfl,Ay9 ok (by omega),kd⟩
  ·rw [hk.1,hk.2,hFat,if_neg hz];exact B.fz g a b
 ·rw [hSat] at h ⊢
  by_cases hj:j=c
  ·rw [if_pos hj] at h ⊢
   have e:(W9 (V.S i).1 i).parent-1=i:=by show i+1-1=i;omega
   refine ⟨by show i+1≠j+1;omega,?_,?_⟩
   ·show ((wS (Du8 V more) c (W9 (V.S i).1 i)).S ((W9 (V.S i).1 i).parent-1)).2=1
    rw [e,hSat,if_neg (fun h=>hci h.symm)];exact s4
   ·show ((wS (Du8 V more) c (W9 (V.S i).1 i)).S ((W9 (V.S i).1 i).parent-1)).1.state≠2
    rw [e,hSat,if_neg (fun h=>hci h.symm)];omega
  ·rw [if_neg hj] at h ⊢
   have:=B.par j a b h
   rw [hSat,if_neg (fun h=>hnc j a b (by omega))]
   exact this
 ·rw [hSat];split
  ·intro f hf h0
   exact hpres _ (B.fd i hi.1 hi.2 f hf h0)
  ·intro f hf h0
   exact hpres _ (B.fd j a b f hf h0)
 ·have hq:Al7 (wS (Du8 V more) c (W9 (V.S i).1 i)).S g=Al7 V.S g-ctn (g+1) (V.S c).1.fds+ctn (g+1) (V.S i).1.fds:=G21 (V:=Du8 V more) (by omega) _ g
  rw [hq,hcz,if_neg (by omega)]
  show _=_-ctn (g+1) Ax1+_+_
  rw [G60 a,← hm g ⟨a,b⟩]
  by_cases hz:more.getD g.toNat 0≠0
  ·have:=B.refs0 a b (hmp g a b hz).1
   rw [hFat,if_pos hz];show (V.F g).1.refs+_=_;omega
  ·rw [hFat,if_neg hz] at h ⊢
   have:=B.refs0 a b h
   have hz':more.getD g.toNat 0=0:=by simpa using hz
   omega
 ·rw [(hkp g).1] at h
  show ((V.P ((wS (Du8 V more) c (W9 (V.S i).1 i)).F g).1.pipe)).2=1
  rw [(hkp g).2];exact B.pipe g a b h
 ·rw [hend,hend];exact B.ends j a b h
theorem G41 {V:VW} {i:Int} (h:(U6 V i).2=0):(V.S i).2=1∧(V.S i).1.state=1:=by
 unfold U6 at h;split at h
 ·assumption
 ·cases h
theorem Snd.okAt {V:VW} {ex:Int} (B:Snd V ex) {i:Int} (hi:0≤i∧i<8) (h:(V.S i).2=1):okS (V.S i).1=true :=
 ((B.sz i hi.1 hi.2).resolve_left (fun e=>by rw [e] at h;cases h)).2
theorem Snd.okFt {V:VW} {ex:Int} (B:Snd V ex) {f:Int} (hi:0≤f∧f<12) (h:(V.F f).2=1):okF (V.F f).1=true :=
 ((B.fz f hi.1 hi.2).resolve_left (fun e=>by rw [e] at h;cases h)).2.1
theorem Snd.setFd {V:VW} {ex:Int} (B:Snd V ex) {i:Int} (hi:0≤i∧i<8) (hp:(V.S i).2=1) (hs:(V.S i).1.state=1) {j:Nat} (hj:j<8) {f:Int} (hf:0≤f∧f≤12) (hF:f>0→(V.F (f-1)).2=1) (ex':Int)
  (hb:∀ g:Int,0≤g→g<12→((if g=ex then 1 else 0:Int)+if (V.S i).1.fds.getD j 0=g+1 then 1 else 0)=(if f=g+1 then 1 else 0)+if g=ex' then 1 else 0) (hex:0≤ex'→(V.F ex').2=1):Snd (EQ.wS V i (EQ.setFd (V.S i).1 j f)) ex':=by
 have hl:=(V.S i).1.len
 refine B.wS hi ex' (By7 (B.okAt hi hp) hs j hf) (fun x hx h0=>?_) (fun h0=>B.par i hi.1 hi.2 h0) (fun h=>by have h':(V.S i).1.state=2:=h;omega) (fun g a b c=>?_) hex
 ·rcases List.mem_or_eq_of_mem_set hx with h|rfl
  ·exact B.fd i hi.1 hi.2 x h h0
  ·exact hF h0
 ·have h1:=B.refs g a b c
  have h2:=hb g a b
  show _=_-_+ctn (g+1) ((V.S i).1.fds.set j f)+_
  rw [Gp6 (g+1) f (V.S i).1.fds j (by omega),h1];omega
theorem Snd.setF {V:VW} {ex:Int} (B:Snd V ex) {f:Int} (hf:0≤f∧f<12) (hp:(V.F f).2=1) {x:FileS} (ok:okF x=true) (hk:x.kind=(V.F f).1.kind) (hq:x.pipe=(V.F f).1.pipe) (ex':Int)
  (hr:∀ g:Int,0≤g→g<12→(V.F g).2=1→(if g=f then x.refs else (V.F g).1.refs)=Al7 V.S g+if g=ex' then 1 else 0) (hex:0≤ex'→ex'=f∨(V.F ex').2=1):Snd (EQ.wF V f x) ex':=by
 obtain ⟨_,_,hkd⟩:=(B.fz f hf.1 hf.2).resolve_left (fun e=>by rw [e] at hp;cases hp)
 refine ⟨B.sz,fun g a b=>?_,B.pz,B.par,fun i a b g hg h0=>?_,fun g a b c=>?_,fun h0=>?_,fun g a b c=>?_,fun j a b c=>?_⟩
 ·rw [Bp2]
  by_cases hg:g=f
  ·rw [if_pos hg];exact .inr ⟨rfl,ok,by rw [hk,hq];exact hkd⟩
  ·rw [if_neg hg];exact B.fz g a b
 ·rw [Bp2];split
  ·rfl
  ·exact B.fd i a b g hg h0
 ·rw [Bp2] at c ⊢
  show _=Al7 V.S g+_
  by_cases hg:g=f
  ·have h1:=hr g a b (by rw [hg];exact hp)
   rw [if_pos hg] at h1 ⊢;exact h1
  ·rw [if_neg hg] at c ⊢
   have h1:=hr g a b c
   rw [if_neg hg] at h1;exact h1
 ·rw [Bp2];split
  ·rfl
  ·rename_i h;exact (hex h0).resolve_left h
 ·rw [Bp2] at c ⊢
  by_cases hg:g=f
  ·rw [if_pos hg] at c ⊢
   show (V.P x.pipe).2=1
   have c':x.kind=1∨x.kind=2:=c
   rw [hk] at c';rw [hq];exact B.pipe f hf.1 hf.2 c'
  ·rw [if_neg hg] at c ⊢;exact B.pipe g a b c
 ·have e:∀ k,Aa4 (EQ.wF V f x).F k j=Aa4 V.F k j:=fun k=>by
   rw [Ef8 hf (fun y hy=>by rw [Bp2,if_neg hy]),Bp2,if_pos rfl]
   have:N1 k j x=N1 k j (V.F f).1:=by unfold N1;rw [hk,hq]
   show _-N1 k j (V.F f).1+N1 k j x=_;omega
  rw [e,e];exact B.ends j a b c
theorem Snd.more {V:VW} (B:Snd V (-1)) {f:Int} (hf:0≤f∧f<12) (hp:(V.F f).2=1) (h:(V.F f).1.refs<64):Snd (EQ.wF V f (Am4 (V.F f).1 1)) f:=by
 have ok:=B.okFt hf hp
 have hr:=At7 ok
 refine B.setF hf hp (Ay9 ok (n:=1) (by omega)) rfl rfl f (fun g a b c=>?_) fun _=>.inl rfl
 have h1:=B.refs0 a b c
 by_cases hg:g=f
 ·rw [if_pos hg,if_pos hg,← h1,hg]
 ·rw [if_neg hg,if_neg hg,← h1];omega
theorem Ic2 {V:VW} {ex:Int} (B:Snd V ex) {i:Int} (hi:0≤i∧i<8) {fd:Int} (h:(ofW V i fd).2=0):(V.S i).2=1∧(V.S i).1.state=1∧(0≤fd∧fd<8)∧(0≤(ofW V i fd).1.1∧(ofW V i fd).1.1<12)∧(V.S i).1.fds.getD fd.toNat 0=(ofW V i fd).1.1+1∧(V.F (ofW V i fd).1.1).2=1∧(ofW V i fd).1.2=(V.F (ofW V i fd).1.1).1:=by
 unfold ofW at h ⊢
 by_cases h1:(U6 V i).2=0
 case neg=>rw [if_pos h1] at h;exact absurd h h1
 have n1:¬ (U6 V i).2≠0:=by simpa using h1
 obtain ⟨s1,s2⟩:=G41 h1
 rw [if_neg n1] at h ⊢
 by_cases h2:Q8 (V.S i).1 fd=false
 ·rw [if_pos h2] at h;cases h
 obtain ⟨n2,n3⟩:=Bm7 (show Q8 (V.S i).1 fd=true by simpa using h2)
 rw [if_neg h2] at h ⊢
 have hl:=(V.S i).1.len
 have hr:=Ba3 (B.okAt hi s1) ((V.S i).1.fds.getD fd.toNat 0) (Ag9 (by omega))
 split at h
 ·cases h
 ·rename_i h3
  rw [if_neg h3]
  refine ⟨s1,s2,n2,by dsimp only;omega,by dsimp only;omega,by simpa using h3,rfl⟩
theorem Snd.closeFd {V:VW} (B:Snd V (-1)) {i:Int} (hi:0≤i∧i<8) (fd:Int):Snd (Be8 V i fd).2 (-1):=by
 unfold Be8
 by_cases h1:(U6 V i).2=0
 case neg=>rw [if_pos h1];exact B
 obtain ⟨s1,s2⟩:=G41 h1
 rw [if_neg (by simpa using h1)]
 by_cases h2:Q8 (V.S i).1 fd=false
 ·rw [if_pos h2];exact B
 obtain ⟨n2,n3⟩:=Bm7 (show Q8 (V.S i).1 fd=true by simpa using h2)
 have hl:=(V.S i).1.len
 have hm:=Ag9 (l:=(V.S i).1.fds) (j:=fd.toNat) (by omega)
 have hr:=Ba3 (B.okAt hi s1) _ hm
 have hp:=B.fd i hi.1 hi.2 _ hm n3
 rw [if_neg h2]
 generalize hg:(V.S i).1.fds.getD fd.toNat 0=o at *
 refine (Snd.close (by omega) (B.setFd hi s1 s2 (j:=fd.toNat) (by omega) (f:=0) (by omega) (by omega) (o-1) (fun g a b=>?_) fun _=>hp)).2
 rw [hg,if_neg (show ¬ g=-1 by omega),if_neg (show ¬ (0:Int)=g+1 by omega)]
 by_cases e:g=o-1
 ·rw [if_pos e,if_pos (by omega)]
 ·rw [if_neg e,if_neg (by omega)]
theorem SX.closeFd {X:CX} (H:SX X) {i:Int} (hi:0≤i∧i<8) (fd:Int):SX (Ap6 3 X i fd).2:=by
 obtain ⟨V,A,B⟩:=H
 exact ⟨_,(A.closeFd hi fd).2,B.closeFd hi fd⟩
theorem Snd.now {V:VW} (B:Snd V (-1)) {i:Int} (hi:0≤i∧i<8) (fd on:Int):Snd (Hl2 V i fd on).2 (-1):=by
 unfold Hl2
 by_cases h1:(ofW V i fd).2=0
 case neg=>rw [if_pos h1];exact B
 obtain ⟨s1,s2,s3,s4,s5,s6,s7⟩:=Ic2 B hi h1
 rw [if_neg (by simpa using h1)]
 split
 ·exact B
 ·rename_i h2
  rw [s7]
  refine B.setF s4 s6 (Iq2 (B.okFt s4 s6) (Classical.not_not.1 h2)) rfl rfl (-1) (fun g a b c=>?_) (by omega)
  have h1:=B.refs g a b c
  by_cases hg:g=(ofW V i fd).1.1
  ·rw [if_pos hg,← h1,← hg]
  ·rw [if_neg hg,← h1]
theorem Snd.dup {V:VW} (B:Snd V (-1)) {i:Int} (hi:0≤i∧i<8) (fd:Int):Snd (H42 V i fd).2 (-1):=by
 unfold H42
 by_cases h1:(ofW V i fd).2=0
 case neg=>rw [if_pos h1];exact B
 obtain ⟨s1,s2,s3,s4,s5,s6,s7⟩:=Ic2 B hi h1
 rw [if_neg (by simpa using h1)]
 split
 ·exact B
 rename_i h2
 split
 ·exact B
 rename_i h3
 have hm:=Z6 (fun j=>(V.S i).1.fds.getD j.toNat 0==0) 8 0 1 _ (Ag9 (l:=L1 (V.S i).1 1) (j:=0) (by omega))
 generalize (L1 (V.S i).1 1).getD 0 0=d at hm ⊢
 rw [s7] at h3 ⊢
 have hr:=At7 (B.okFt s4 s6)
 have C:=B.more s4 s6 (by omega)
 generalize (ofW V i fd).1.1=f at *
 unfold En5
 have e:(U6 (EQ.wF V f (Am4 (V.F f).1 1)) i).2=0:=by
  unfold U6;rw [if_pos ⟨s1,s2⟩]
 rw [if_neg (by simpa using e)]
 obtain ⟨m1,m2,m3⟩:=hm
 have m4:(V.S i).1.fds.getD d.toNat 0=0:=by simpa using m3
 refine C.setFd hi s1 s2 (j:=d.toNat) (by omega) (f:=f+1) (by omega) (fun _=>by rw [Bp2,if_pos (by omega)]) (-1) (fun g a b=>?_) (by omega)
 show _+(if (V.S i).1.fds.getD d.toNat 0=g+1 then 1 else 0)=_
 rw [m4,if_neg (show ¬ (0:Int)=g+1 by omega),if_neg (show ¬ g=-1 by omega)]
 by_cases e:g=f
 ·rw [if_pos e,if_pos (by omega)]
 ·rw [if_neg e,if_neg (by omega)]
theorem Ik6 (p:ProcS) (j:Nat) (f g:Int):EQ.setFd (EQ.setFd p j f) j g=EQ.setFd p j g:=by
 unfold EQ.setFd;simp only [List.set_set]
theorem Snd.dup2 {V:VW} (B:Snd V (-1)) {i:Int} (hi:0≤i∧i<8) (fd to:Int):Snd (Hc3 V i fd to).2 (-1):=by
 unfold Hc3
 by_cases h1:(ofW V i fd).2=0
 case neg=>rw [if_pos h1];exact B
 obtain ⟨s1,s2,s3,s4,s5,s6,s7⟩:=Ic2 B hi h1
 rw [if_neg (by simpa using h1)]
 split
 ·exact B
 rename_i h2
 split
 ·exact B
 rename_i h4
 split
 ·exact B
 rename_i h3
 rw [s7] at h3 ⊢
 have hr:=At7 (B.okFt s4 s6)
 have C:=B.more s4 s6 (by omega)
 generalize (ofW V i fd).1.1=f at *
 have hl:=(V.S i).1.len
 have hm:=Ag9 (l:=(V.S i).1.fds) (j:=to.toNat) (by omega)
 have hor:=Ba3 (B.okAt hi s1) _ hm
 have hS:(EQ.wF V f (Am4 (V.F f).1 1)).S=V.S:=rfl
 have hFf:((EQ.wF V f (Am4 (V.F f).1 1)).F f).2=1:=by rw [Bp2,if_pos rfl]
 generalize EQ.wF V f (Am4 (V.F f).1 1)=V' at *
 have e0:(U6 V' i).2=0:=by unfold U6;rw [hS,if_pos ⟨s1,s2⟩]
 by_cases hn:Q8 (V.S i).1 to=false
 ·
  have e:(Be8 V' i to).2=V':=by
   unfold Be8
   rw [if_neg (by simpa using e0),hS,if_pos hn]
  rw [e]
  have ho:(V.S i).1.fds.getD to.toNat 0=0:=by
   unfold Q8 at hn
   simp only [Bool.and_eq_false_iff,decide_eq_false_iff_not] at hn
   omega
  unfold En5
  rw [if_neg (by simpa using e0)]
  have s1':(V'.S i).2=1:=by rw [hS];exact s1
  have s2':(V'.S i).1.state=1:=by rw [hS];exact s2
  refine C.setFd hi s1' s2' (j:=to.toNat) (by omega) (f:=f+1) (by omega) (fun _=>by rw [show f+1-1=f by omega];exact hFf) (-1) (fun g a b=>?_) (by omega)
  rw [hS,ho,if_neg (show ¬ (0:Int)=g+1 by omega),if_neg (show ¬ g=-1 by omega)]
  by_cases e:g=f
  ·rw [if_pos e,if_pos (by omega)]
  ·rw [if_neg e,if_neg (by omega)]
 ·obtain ⟨n2,n3⟩:=Bm7 (show Q8 (V.S i).1 to=true by simpa using hn)
  have hpo:=C.fd i hi.1 hi.2 _ (by rw [hS];exact hm) n3
  have e:(Be8 V' i to).2=EQ.wS (A66 V' ((V.S i).1.fds.getD to.toNat 0-1)).2 i (EQ.setFd (V.S i).1 to.toNat 0):=by
   unfold Be8
   rw [if_neg (by simpa using e0),hS,if_neg hn]
   exact Gn1 ..
  have hat:∀ W:VW,(EQ.wS W i (EQ.setFd (V.S i).1 to.toNat 0)).S i=(EQ.setFd (V.S i).1 to.toNat 0,1):=fun W=>by rw [Da8,if_pos rfl]
  rw [e]
  unfold En5
  have e2:∀ W:VW,(U6 (EQ.wS W i (EQ.setFd (V.S i).1 to.toNat 0)) i).2=0:=fun W=>by
   unfold U6;rw [hat,if_pos ⟨rfl,s2⟩]
  rw [if_neg (by simpa using e2 _),hat]
  show Snd (EQ.wS (EQ.wS _ i _) i (EQ.setFd (EQ.setFd (V.S i).1 to.toNat 0) to.toNat (f+1))) (-1)
  rw [Ik6,Jm4,← Gn1]
  generalize ho:(V.S i).1.fds.getD to.toNat 0=o at *
  have s1':(V'.S i).2=1:=by rw [hS];exact s1
  have s2':(V'.S i).1.state=1:=by rw [hS];exact s2
  have D:=C.setFd hi s1' s2' (j:=to.toNat) (by omega) (f:=f+1) (by omega) (fun _=>by rw [show f+1-1=f by omega];exact hFf) (o-1) (fun g a b=>by
   rw [hS,ho]
   by_cases e:g=f
   ·rw [if_pos e,if_pos (show f+1=g+1 by omega)]
    by_cases e3:g=o-1
    ·rw [if_pos e3,if_pos (by omega)]
    ·rw [if_neg e3,if_neg (by omega)]
   ·rw [if_neg e,if_neg (show ¬ f+1=g+1 by omega)]
    by_cases e3:g=o-1
    ·rw [if_pos e3,if_pos (by omega)]
    ·rw [if_neg e3,if_neg (by omega)]) (fun _=>hpo)
  rw [hS] at D
  exact (Snd.close (by omega) D).2
theorem SX.now {X X':CX} {V:VW} (A:See X V) (B:Snd V (-1)) {i:Int} (hi:0≤i∧i<8) (fd on:Int) (C:See X' (Hl2 V i fd on).2):SX X':=⟨_,C,B.now hi fd on⟩
theorem SX.dup {X:CX} (H:SX X) {i:Int} (hi:0≤i∧i<8) (fd:Int):SX (G53 X i fd).2:=by
 obtain ⟨V,A,B⟩:=H
 exact ⟨_,(A.dup hi fd).2,B.dup hi fd⟩
theorem SX.dup2 {X:CX} (H:SX X) {i:Int} (hi:0≤i∧i<8) (fd to:Int):SX (E84 3 X i fd to).2:=by
 obtain ⟨V,A,B⟩:=H
 exact ⟨_,(A.dup2 hi fd to).2,B.dup2 hi fd to⟩
theorem Gg1 (q:Int→Bool):∀ (m:Nat) (i:Int) (w:Nat),2≤(N0 q m i w).length→(N0 q m i w).getD 0 0<(N0 q m i w).getD 1 0
 | 0,_,_,h=>by simp [N0] at h
 | _+1,_,0,h=>by simp [N0] at h
 | m+1,i,w+1,h=>by
  rw [N0] at h ⊢
  by_cases hq:q i=true
  ·rw [if_pos hq] at h ⊢
   have:=Z6 q m (i+1) w _ (Ag9 (j:=0) (by simp at h;omega))
   show i<(N0 q m (i+1) w).getD 0 0;omega
  ·rw [if_neg hq] at h ⊢
   exact Gg1 q m (i+1) (w+1) h
theorem Snd.mkP {V:VW} (B:Snd V (-1)) {i d0 d1 f0 f1 r0:Int} (hi:0≤i∧i<8) (s1:(V.S i).2=1) (s2:(V.S i).1.state=1) (hd0:0≤d0∧d0<8) (hd1:0≤d1∧d1<8) (hd:d0<d1) (z0:(V.S i).1.fds.getD d0.toNat 0=0) (z1:(V.S i).1.fds.getD d1.toNat 0=0)
  (hf0:0≤f0∧f0<12) (hf1:0≤f1∧f1<12) (hf:f0<f1) (y0:(V.F f0).2=0) (y1:(V.F f1).2=0) (hr0:0≤r0∧r0<4) (x0:(V.P r0).2=0):Snd (mkW V i d0 d1 f0 f1 r0) (-1):=by
 have ok:=B.okAt hi s1
 have hl:=(V.S i).1.len
 have e0:V.F f0=(.zero,0):=(B.fz f0 hf0.1 hf0.2).resolve_right (fun h=>by rw [y0] at h;exact absurd h.1 (by decide))
 have e1:V.F f1=(.zero,0):=(B.fz f1 hf1.1 hf1.2).resolve_right (fun h=>by rw [y1] at h;exact absurd h.1 (by decide))
 have hno:∀ g:Int,0≤g→g<12→(V.F g).2=0→Al7 V.S g=0:=fun g a b c=>by
  have h0:=Ib8 V.S g
  by_cases h1:Al7 V.S g=0
  ·exact h1
  obtain ⟨j,a1,b1,c1⟩:=Io5 (g:=fun i=>ctn (g+1) (V.S i).1.fds) 8 (by unfold Al7 at *;omega)
  have:=B.fd j a1 (by omega) _ (In7 c1) (by omega)
  rw [show g+1-1=g by omega,c] at this;cases this
 have hnp:∀ g:Int,0≤g→g<12→∀ k,k=1∨k=2→N1 k r0 (V.F g).1=0:=fun g a b k hk=>by
  unfold N1
  by_cases h:(V.F g).1.kind=k∧(V.F g).1.pipe=r0
  ·have:=B.pipe g a b (by omega)
   rw [h.2,x0] at this;cases this
  ·rw [if_neg h]
 have hen:∀ k,k=1∨k=2→Aa4 V.F k r0=0:=fun k hk=>by
  unfold Aa4
  rw [D81 (g':=fun _=>0) 12 fun g a b=>hnp g a (by omega) k hk];rfl
 have hS:∀ j,(mkW V i d0 d1 f0 f1 r0).S j=if j=i then (EQ.setFd (EQ.setFd (V.S i).1 d0.toNat (f0+1)) d1.toNat (f1+1),1) else V.S j:=fun _=>rfl
 have hF:∀ g,(mkW V i d0 d1 f0 f1 r0).F g=if g=f1 then (⟨2,r0,1,0⟩,1) else if g=f0 then (⟨1,r0,1,0⟩,1) else V.F g:=fun _=>rfl
 have hP:∀ j,(mkW V i d0 d1 f0 f1 r0).P j=if j=r0 then (B12,1) else V.P j:=fun _=>rfl
 have hq0:=By7 ok s2 d0.toNat (f:=f0+1) (by omega)
 have hq:=By7 hq0 s2 d1.toNat (f:=f1+1) (by omega)
 have hpres:∀ g:Int,(V.F g).2=1→((mkW V i d0 d1 f0 f1 r0).F g).2=1:=fun g h=>by
  rw [hF];split
  ·rfl
  ·split
   ·rfl
   ·exact h
 have hpr:∀ j:Int,(V.P j).2=1→((mkW V i d0 d1 f0 f1 r0).P j).2=1:=fun j h=>by
  rw [hP];split
  ·rfl
  ·exact h
 have hsp:∀ j:Int,(V.S j).2=1→(V.S j).1.state≠2→((mkW V i d0 d1 f0 f1 r0).S j).2=1∧((mkW V i d0 d1 f0 f1 r0).S j).1.state≠2:=fun j h h2=>by
  rw [hS];split
  ·exact ⟨rfl,by show (V.S i).1.state≠2;omega⟩
  ·exact ⟨h,h2⟩
 have hends:∀ k j,k=1∨k=2→Aa4 (mkW V i d0 d1 f0 f1 r0).F k j=Aa4 V.F k j+if j=r0 then 1 else 0:=fun k j hk=>by
  have a1:=Ef8 (F:=V.F) (F':=fun g=>if g=f0 then (⟨1,r0,1,0⟩,1) else V.F g) hf0 (fun g h=>if_neg h) k j
  have a2:=Ef8 (F:=fun g=>if g=f0 then (⟨1,r0,1,0⟩,1) else V.F g) (F':=(mkW V i d0 d1 f0 f1 r0).F) hf1 (fun g h=>by rw [hF,if_neg h]) k j
  rw [a2,a1]
  simp only [if_neg (show ¬ f1=f0 by omega),if_pos,e0,e1]
  rw [hF,if_pos rfl,Ht7 k j hk]
  unfold N1
  dsimp only
  by_cases hj:j=r0
  ·rw [if_pos hj]
   rcases hk with rfl|rfl
   ·rw [if_pos ⟨rfl,hj.symm⟩,if_neg (fun h=>absurd h.1 (by decide))];omega
   ·rw [if_neg (fun h=>absurd h.1 (by decide)),if_pos ⟨rfl,hj.symm⟩];omega
  ·rw [if_neg hj,if_neg (fun h=>hj h.2.symm),if_neg (fun h=>hj h.2.symm)];omega
 refine ⟨fun j a b=>?_,fun g a b=>?_,fun j a b=>?_,fun j a b h=>?_,fun j a b=>?_,fun g a b h=>?_,by omega,fun g a b h=>?_,fun j a b h=>?_⟩
 ·rw [hS];split
  ·exact .inr ⟨rfl,hq⟩
  ·exact B.sz j a b
 ·rw [hF];split
  ·exact .inr ⟨rfl,by simp [okF];omega,.inr ⟨.inr rfl,hr0⟩⟩
  ·split
   ·exact .inr ⟨rfl,by simp [okF];omega,.inr ⟨.inl rfl,hr0⟩⟩
   ·exact B.fz g a b
 ·rw [hP];split
  ·exact .inr ⟨rfl,rfl⟩
  ·exact B.pz j a b
 ·have hh:((mkW V i d0 d1 f0 f1 r0).S j).1.parent=(V.S j).1.parent:=by
   rw [hS];split
   ·rename_i e;rw [e]
   ·rfl
  rw [hh] at h ⊢
  obtain ⟨p1,p2,p3⟩:=B.par j a b h
  exact ⟨p1,hsp _ p2 p3⟩
 ·rw [hS];split
  ·intro g hg h0
   rcases List.mem_or_eq_of_mem_set hg with h|rfl
   ·rcases List.mem_or_eq_of_mem_set h with h|rfl
    ·exact hpres _ (B.fd i hi.1 hi.2 g h h0)
    ·rw [hF,show f0+1-1=f0 by omega,if_neg (by omega),if_pos rfl]
   ·rw [hF,show f1+1-1=f1 by omega,if_pos rfl]
  ·intro g hg h0
   exact hpres _ (B.fd j a b g hg h0)
 ·have hn:Al7 (mkW V i d0 d1 f0 f1 r0).S g=Al7 V.S g-ctn (g+1) (V.S i).1.fds+ctn (g+1) (((V.S i).1.fds.set d0.toNat (f0+1)).set d1.toNat (f1+1)) :=
   G21 (V:=wF (wF (wP V r0 B12) f0 ⟨1,r0,1,0⟩) f1 ⟨2,r0,1,0⟩) hi (EQ.setFd (EQ.setFd (V.S i).1 d0.toNat (f0+1)) d1.toNat (f1+1)) g
  have hz1:((V.S i).1.fds.set d0.toNat (f0+1)).getD d1.toNat 0=0:=by
   rw [List.getD_eq_getElem?_getD,List.getElem?_set_ne (by omega),← List.getD_eq_getElem?_getD];exact z1
  rw [Gp6 _ _ _ _ (by rw [List.length_set];omega),Gp6 _ _ _ _ (by omega),hz1,z0,if_neg (show ¬ (0:Int)=g+1 by omega)] at hn
  rw [hn,if_neg (show ¬ g=-1 by omega)]
  rw [hF] at h ⊢
  by_cases g1:g=f1
  ·rw [if_pos g1,if_pos (show f1+1=g+1 by omega),if_neg (show ¬ f0+1=g+1 by omega)]
   have:=hno g a b (by rw [g1];exact y1)
   show (1:Int)=_;omega
  ·rw [if_neg g1] at h ⊢
   by_cases g0:g=f0
   ·rw [if_pos g0,if_pos (show f0+1=g+1 by omega),if_neg (show ¬ f1+1=g+1 by omega)]
    have:=hno g a b (by rw [g0];exact y0)
    show (1:Int)=_;omega
   ·rw [if_neg g0] at h ⊢
    rw [if_neg (show ¬ f0+1=g+1 by omega),if_neg (show ¬ f1+1=g+1 by omega)]
    have:=B.refs0 a b h
    omega
 ·rw [hF] at h ⊢
  by_cases g1:g=f1
  ·rw [if_pos g1];show ((mkW V i d0 d1 f0 f1 r0).P r0).2=1;rw [hP,if_pos rfl]
  ·rw [if_neg g1] at h ⊢
   by_cases g0:g=f0
   ·rw [if_pos g0];show ((mkW V i d0 d1 f0 f1 r0).P r0).2=1;rw [hP,if_pos rfl]
   ·rw [if_neg g0] at h ⊢
    exact hpr _ (B.pipe g a b h)
 ·rw [hends 1 j (.inl rfl),hends 2 j (.inr rfl)]
  rw [hP] at h ⊢
  by_cases hj:j=r0
  ·rw [if_pos hj,if_pos hj,hj,hen 1 (.inl rfl),hen 2 (.inr rfl)]
   exact ⟨rfl,rfl,by omega⟩
  ·rw [if_neg hj] at h ⊢
   rw [if_neg hj]
   have:=B.ends j a b h
   omega
theorem Snd.pipe' {V:VW} (B:Snd V (-1)) {i:Int} (hi:0≤i∧i<8):Snd (Gs5 V i).2 (-1):=by
 unfold Gs5
 by_cases h1:(U6 V i).2=0
 case neg=>rw [if_pos h1];exact B
 obtain ⟨s1,s2⟩:=G41 h1
 rw [if_neg (by simpa using h1)]
 split
 ·exact B
 rename_i h2
 split
 ·exact B
 rename_i h3
 have hd:=Gg1 (fun j=>(V.S i).1.fds.getD j.toNat 0==0) 8 0 2 (show 2≤(L1 (V.S i).1 2).length by omega)
 have hf:=Gg1 (fun j=>(V.F j).2==0) 12 0 2 (show 2≤(D29 V).length by omega)
 have hd0:=Z6 (fun j=>(V.S i).1.fds.getD j.toNat 0==0) 8 0 2 _ (Ag9 (l:=L1 (V.S i).1 2) (j:=0) (by omega))
 have hd1:=Z6 (fun j=>(V.S i).1.fds.getD j.toNat 0==0) 8 0 2 _ (Ag9 (l:=L1 (V.S i).1 2) (j:=1) (by omega))
 have hf0:=Z6 (fun j=>(V.F j).2==0) 12 0 2 _ (Ag9 (l:=D29 V) (j:=0) (by omega))
 have hf1:=Z6 (fun j=>(V.F j).2==0) 12 0 2 _ (Ag9 (l:=D29 V) (j:=1) (by omega))
 have hr:=Z6 (fun j=>(V.P j).2==0) 4 0 1 _ (Ag9 (l:=G93 V) (j:=0) (by omega))
 simp only [beq_iff_eq] at hd0 hd1 hf0 hf1 hr
 exact B.mkP hi s1 s2 (by omega) (by omega) hd hd0.2.2 hd1.2.2 (by omega) (by omega) hf hf0.2.2 hf1.2.2 (by omega) hr.2.2
theorem SX.pipe {X:CX} (H:SX X) {i:Int} (hi:0≤i∧i<8):SX (Bi9 X i).2:=by
 obtain ⟨V,A,B⟩:=H
 exact ⟨_,(A.pipe hi).2,B.pipe' hi⟩
theorem Hg1 {l0:List HP} {h:NN.H} {α:Type} {Q:α→NN.H→Prop} {z:Option (α × NN.H)} {ro:Bool} {a:Option Addr} {c:Nat} {l:List UInt8} (i:Nat) (hi:l0[i]?=some (slC ro A3 1 a l.length c (A0 l))) (j m:Nat) (hj:j+m≤l.length) (hm:0<m)
  (k:∀ pb,IsSl pb (H9 a (decide (j<c)) (j*1)) ro A3 1 m (c-j) (A0 ((l.drop j).take m))→(∀ (h':NN.H) (r:List HP),Own h' (pb::r)→Own h' (slC ro A3 1 a l.length c (A0 l)::r))→Tr (l0.set i pb) h z Q):Tr l0 h z Q:=fun o=>by
 have o1:=o.front hi
 cases a with
 | none =>
  obtain ⟨h1,_⟩:=o1.slNone
  omega
 | some x =>
  obtain ⟨b,o',sp⟩:=x
  obtain ⟨pre,post,o2,h1,h2,h3,h4,h5,h6,h7⟩:=o1.slOpen
  have hjc:j<c:=by omega
  have ho:=h4 (by omega)
  have hbl:(A0 l).length=l.length:=by simp [A0]
  have e0:A0 l=A0 (l.take j)++(A0 ((l.drop j).take m)++A0 (l.drop (j+m))):=by
   unfold A0
   rw [← List.map_append,← List.map_append,← List.drop_drop,List.take_append_drop,List.take_append_drop]
  have e1:pre++A0 l++post=(pre++A0 (l.take j))++A0 ((l.drop j).take m)++(A0 (l.drop (j+m))++post):=by
   rw [e0];simp only [List.append_assoc]
  have hlen:(A0 ((l.drop j).take m)).length=m:=by simp [A0];omega
  have hP:(m*1=(A0 ((l.drop j).take m)).length∧m≤c-j∧(c-j-m)*1≤(A0 (l.drop (j+m))++post).length∧(0<c-j→o'+j*1=(pre++A0 (l.take j)).length)∧(sp≠none→ro=false)∧0<1∧(c-j=0→o'+j*1≤(pre++A0 (l.take j)).length)):=by
   have hb1:(A0 (l.drop (j+m))).length=l.length-(j+m):=by simp [A0]
   have hb2:(A0 (l.take j)).length=j:=by simp [A0];omega
   simp only [List.length_append,hb1,hb2]
   refine ⟨by omega,by omega,by omega,fun _=>by omega,h5,by omega,fun _=>by omega⟩
  rw [decide_eq_true hjc,Ds5] at k
  refine k (slX ro A3 1 (some ⟨b,o'+j*1,sp⟩) m (c-j) (pre++A0 (l.take j),A0 (l.drop (j+m))++post) (A0 ((l.drop j).take m))) inferInstance (fun h' r o3=>?_) ?_
  ·have o4:=Own.star2 o3
   have o5:=(o4.perm (List.Perm.swap _ _ _)).tail
   rw [← e1] at o5
   exact Own.slShut o5 ⟨h1,h2,h3,h4,h5,h6,h7⟩
  ·rw [e1] at o2
   exact Own.back (h:=h) hi (Own.unstar ((Own.inpure hP o2).perm (List.Perm.swap _ _ _)))
abbrev isL (n:Nat) (f:Nat→Int):List Value:=(List.range n).map fun i=>int (f i)
theorem E83 (n:Nat) (f:Nat→Int):isL (n+1) f=isL n f++[int (f n)]:=by unfold isL;rw [List.range_succ,List.map_append];rfl
theorem Du1 (f:Nat→Int) {i n:Nat} (h:i<n):(isL n f)[i]?=some (int (f i)):=by unfold isL;rw [List.getElem?_map,List.getElem?_range h];rfl
abbrev atR (l:List UInt8) (at0 S i:Nat):List UInt8:=(l.drop (at0+S*i)).take S
abbrev Ea9 (n:Nat) (f:Nat→ProcS):List Value:=(List.range n).flatMap fun i=>B8 (f i)
theorem Is9 (n:Nat) (f:Nat→ProcS):Ea9 (n+1) f=Ea9 n f++(B8 (f n)):=by unfold Ea9;rw [List.range_succ,List.flatMap_append];simp
theorem G14 (b10 b11:Nat) (a:Option Addr) (cc:Nat) (l:List UInt8) (at0 n:Nat) (hl:at0+24*n≤l.length) (h1k:l.length≤1000):∀ (m i:Nat) (a1 a2:Option Addr) (c1 c2:Nat),i+m=n →
  CtJ D8 Q3 Ao6 [(0,.slice a l.length cc),(1,int at0),(2,int 24),(4,.func (.func Af4) ⟨[]⟩ ⟨[]⟩),(10,P0 b10),(11,P0 b11),(15,int n),(16,int i)] [slC false A3 1 a l.length cc (A0 l),pt b10 (.cells W8 false [.slice none 0 0,.slice none 0 0]),pt b11 (.cells W8 false [.slice a1 i c1,.slice a2 i c2]),slC false A9 16 a1 i c1 (Ea9 i fun j=>(N8 (atR l at0 24 j)).1),slC false A6 1 a2 i c2 (isL i fun j=>(N8 (atR l at0 24 j)).2)] fun v own =>
   ∃ a1 c1 a2 c2,v=.agg ⟨[.slice a1 n c1,.slice a2 n c2]⟩∧own [slC false A3 1 a l.length cc (A0 l),slC false A9 16 a1 n c1 (Ea9 n fun j=>(N8 (atR l at0 24 j)).1),slC false A6 1 a2 n c2 (isL n fun j=>(N8 (atR l at0 24 j)).2)]
 | 0,i,a1,a2,c1,c2,hi=>by
  obtain rfl:i=n:=by omega
  refine CtJ.of Bl8 fun h r=>Tr.eq (B06 ..) ?_;refine Je ?_
  refine Yf (by simp) ?_
  (refine Ja ?_;intros)
  refine Ys fun o=>?_
  exact ⟨a1,c1,a2,c2,rfl,o.sub⟩
 | m+1,i,a1,a2,c1,c2,hi=>by
  have e1:=wN i
  have e2:IntKind.wrap .i64 ((at0:Int)+IntKind.wrap .i64 (24*((i+1:Nat):Int)))=((at0+24*i+24:Nat):Int):=by simp only [B3];omega
  have e3:IntKind.wrap .i64 ((at0:Int)+IntKind.wrap .i64 (24*(i:Int)))=((at0+24*i:Nat):Int):=by simp only [B3];omega
  have hw:(atR l at0 24 i).length=24:=by simp;omega
  have ih:=fun a1 a2 c1 c2=>G14 b10 b11 a cc l at0 n hl h1k m (i+1) a1 a2 c1 c2 (by omega)
  rw [Is9,E83] at ih
  refine CtJ.of Bl8 fun h r=>Tr.eq (B06 ..) ?_;refine Je ?_
  refine Yt (by simp;omega) ?_
  rw [e1,e2,e3]
  refine U1 0 rfl fun hl2 hc2 _=>?_
  (refine Ja ?_;intros)
  refine Tr.ck (by omega) ?_
  refine Tr.ck (by omega) ?_
  simp only [Int.toNat_natCast,show at0+24*i+24-(at0+24*i)=24 by omega]
  refine Hg1 0 rfl (at0+24*i) 24 (by omega) (by omega) fun pb hpb back=>?_
  refine (?_:Tr (pb::_) _ _ _)
  have J:=Gz3 pb false _ _ (atR l at0 24 i) hw (ks:=hpb)
  generalize N8 (atR l at0 24 i)=q at *
  rw [Nat.mul_one] at J
  simp only [List.nil_append,List.append_nil]
  refine Yc J ?_
  rintro _ h ⟨rfl,o⟩
  replace o:=back _ _ o
  clear back J hpb
  simp only [List.append_eq,List.nil_append] at o
  refine Jh o ?_
  (refine Jc ?_;intros)
  refine Yn fun b1 h=>?_
  (refine Jc ?_;intros)
  refine Yn fun b2 h=>?_
  (refine Ja ?_;intros)
  refine Tr.xCellsB (xs:=B8 (q.1)) (Dt3 (Bm3 (Ah9 q.1))) ?_
  (refine Ja ?_;intros)
  refine Tr.xApd (new:=B8 (q.1)) ⟨Ah9 q.1,Hq3 q.1,by simp only [A7];omega⟩ fun a3 c3 h=>?_
  (refine Ja ?_;intros)
  refine Tr.xApd (new:=[int q.2]) ⟨rfl,rfl,by simp only [A7];omega⟩ fun a4 c4 h=>?_
  (refine Ja ?_;intros)
  simp only [List.set_cons_zero,List.set_cons_succ]
  refine B9 [3,3,3,3,3] 3 rfl rfl ?_
  exact Yr (ih a3 a4 c3 c4) fun v h q=>q
theorem Jm0 (a:Option Addr) (cc:Nat) (l:List UInt8) (at0 n:Nat) (hl:at0+24*n≤l.length) (h1k:l.length≤1000):Ct A5 Q3 [.slice a l.length cc,int at0,int 24,int n,.func (.func Af4) ⟨[]⟩ ⟨[]⟩] [slC false A3 1 a l.length cc (A0 l)] fun v own =>
   ∃ a1 c1 a2 c2,v=.agg ⟨[.slice a1 n c1,.slice a2 n c2]⟩∧own [slC false A3 1 a l.length cc (A0 l),slC false A9 16 a1 n c1 (Ea9 n fun j=>(N8 (atR l at0 24 j)).1),slC false A6 1 a2 n c2 (isL n fun j=>(N8 (atR l at0 24 j)).2)]:=by
 refine Ct.of Bl8 rfl fun h r=>Tr.eq (Ex2 ..) ?_;refine Je ?_
 refine Yn fun b10 h=>?_
 refine Yn fun b11 h=>?_
 refine E6 false A6 1 (by omega) ?_
 refine E6 false A9 16 (by omega) ?_
 refine B9 [4,3,2,0,0] 0 rfl rfl ?_
 refine (?_:Tr (_::_::_::slC false A9 16 none 0 0 (Ea9 0 fun j=>(N8 (atR l at0 24 j)).1)::slC false A6 1 none 0 0 (isL 0 fun j=>(N8 (atR l at0 24 j)).2)::_) _ _ _)
 exact Yr (G14 b10 b11 a cc l at0 n hl h1k n 0 none none 0 0 (Nat.zero_add _)) fun v h q=>q
theorem Ha3 (kind:Int) (n:Nat) (a2:Option Addr) (c2:Nat) (f:Nat→Int) (hf:∀ i,i<n→f i≠2) (hn:n≤100):∀ (m i:Nat),i+m=n →
  CtJ D8 G4 Q7 [(1,int kind),(5,.slice none 0 0),(9,.slice a2 n c2),(10,int n),(11,int i)] [slC false A6 1 a2 n c2 (isL n f)] fun v own=>v=.slice none 0 0∧own [slC false A6 1 a2 n c2 (isL n f)]
 | 0,i,hi=>by
  obtain rfl:i=n:=by omega
  refine CtJ.of At3 fun h r=>Tr.eq (A89 ..) ?_;refine Je ?_
  refine Yf (by simp) ?_
  refine Ys fun o=>?_
  exact ⟨rfl,o.sub⟩
 | m+1,i,hi=>by
  have e1:=wN i
  have hx:=Du1 f (i:=i) (n:=n) (by omega)
  have h2:=hf i (by omega)
  have ih:=Ha3 kind n a2 c2 f hf hn m (i+1) (by omega)
  generalize isL n f=cs at *
  generalize f i=x at *
  refine CtJ.of At3 fun h r=>Tr.eq (A89 ..) ?_;refine Je ?_
  refine Yt (by simp;omega) ?_
  rw [e1]
  (refine Jb ?_;intros;repeat(refine Gw ?_;rintro px rfl;refine Jb ?_;intros))
  refine Yf (by simpa using h2) ?_
  exact Yr ih fun v h q=>q
theorem Jo6 (kind:Int) (n:Nat) (a1 a2:Option Addr) (c1 c2:Nat) (f:Nat→Int) (hf:∀ i,i<n→f i≠2) (hn:n≤100):Ct A5 G4 [.agg ⟨[.slice a1 n c1,.slice a2 n c2]⟩,int kind] [slC false A6 1 a2 n c2 (isL n f)] fun v own=>v=.slice none 0 0∧own [slC false A6 1 a2 n c2 (isL n f)]:=by
 refine Ct.of At3 rfl fun h r=>Tr.eq (Dw5 ..) ?_;refine Je ?_
 (refine Ja ?_;intros)
 refine B9 [1] 1 rfl rfl ?_
 exact Yr (Ha3 kind n a2 c2 f hf hn n 0 (Nat.zero_add _)) fun v h q=>q
theorem I39 (n:Nat) (a1 a2:Option Addr) (c1 c2:Nat) (f:Nat→Int) (i:Int) (hi:0≤i∧i<n):Ct A5 Ad1 [.agg ⟨[.slice a1 n c1,.slice a2 n c2]⟩,int i] [slC false A6 1 a2 n c2 (isL n f)] fun v own=>v=.bool (f i.toNat==1)∧own [slC false A6 1 a2 n c2 (isL n f)]:=by
 have hx:=Du1 f (i:=i.toNat) (n:=n) (by omega)
 generalize isL n f=cs at *
 generalize f i.toNat=x at *
 refine Ct.of Dp1 rfl fun h r=>Tr.eq (Dk3 ..) ?_;refine Je ?_
 (refine Jb ?_;intros;repeat(refine Gw ?_;rintro px rfl;refine Jb ?_;intros))
 refine Ys fun o=>?_
 exact ⟨rfl,o.sub⟩
abbrev D71 (n:Nat) (f:Nat→FileS):List Value:=(List.range n).flatMap fun i=>Ab1 (f i)
theorem Ix6 (n:Nat) (f:Nat→FileS):D71 (n+1) f=D71 n f++(Ab1 (f n)):=by unfold D71;rw [List.range_succ,List.flatMap_append];simp
theorem Gz4 (b10 b11:Nat) (a:Option Addr) (cc:Nat) (l:List UInt8) (at0 n:Nat) (hl:at0+8*n≤l.length) (h1k:l.length≤1000):∀ (m i:Nat) (a1 a2:Option Addr) (c1 c2:Nat),i+m=n →
  CtJ D8 Q2 Ap9 [(0,.slice a l.length cc),(1,int at0),(2,int 8),(4,.func (.func Ag1) ⟨[]⟩ ⟨[]⟩),(10,P0 b10),(11,P0 b11),(15,int n),(16,int i)] [slC false A3 1 a l.length cc (A0 l),pt b10 (.cells W7 false [.slice none 0 0,.slice none 0 0]),pt b11 (.cells W7 false [.slice a1 i c1,.slice a2 i c2]),slC false B7 4 a1 i c1 (D71 i fun j=>(P6 (atR l at0 8 j)).1),slC false A6 1 a2 i c2 (isL i fun j=>(P6 (atR l at0 8 j)).2)] fun v own =>
   ∃ a1 c1 a2 c2,v=.agg ⟨[.slice a1 n c1,.slice a2 n c2]⟩∧own [slC false A3 1 a l.length cc (A0 l),slC false B7 4 a1 n c1 (D71 n fun j=>(P6 (atR l at0 8 j)).1),slC false A6 1 a2 n c2 (isL n fun j=>(P6 (atR l at0 8 j)).2)]
 | 0,i,a1,a2,c1,c2,hi=>by
  obtain rfl:i=n:=by omega
  refine CtJ.of Bj2 fun h r=>Tr.eq (B01 ..) ?_;refine Je ?_
  refine Yf (by simp) ?_
  (refine Ja ?_;intros)
  refine Ys fun o=>?_
  exact ⟨a1,c1,a2,c2,rfl,o.sub⟩
 | m+1,i,a1,a2,c1,c2,hi=>by
  have e1:=wN i
  have e2:IntKind.wrap .i64 ((at0:Int)+IntKind.wrap .i64 (8*((i+1:Nat):Int)))=((at0+8*i+8:Nat):Int):=by simp only [B3];omega
  have e3:IntKind.wrap .i64 ((at0:Int)+IntKind.wrap .i64 (8*(i:Int)))=((at0+8*i:Nat):Int):=by simp only [B3];omega
  have hw:(atR l at0 8 i).length=8:=by simp;omega
  have ih:=fun a1 a2 c1 c2=>Gz4 b10 b11 a cc l at0 n hl h1k m (i+1) a1 a2 c1 c2 (by omega)
  rw [Ix6,E83] at ih
  refine CtJ.of Bj2 fun h r=>Tr.eq (B01 ..) ?_;refine Je ?_
  refine Yt (by simp;omega) ?_
  rw [e1,e2,e3]
  refine U1 0 rfl fun hl2 hc2 _=>?_
  (refine Ja ?_;intros)
  refine Tr.ck (by omega) ?_
  refine Tr.ck (by omega) ?_
  simp only [Int.toNat_natCast,show at0+8*i+8-(at0+8*i)=8 by omega]
  refine Hg1 0 rfl (at0+8*i) 8 (by omega) (by omega) fun pb hpb back=>?_
  refine (?_:Tr (pb::_) _ _ _)
  have J:=Gy4 pb false _ _ (atR l at0 8 i) hw (ks:=hpb)
  generalize P6 (atR l at0 8 i)=q at *
  rw [Nat.mul_one] at J
  simp only [List.nil_append,List.append_nil]
  refine Yc J ?_
  rintro _ h ⟨rfl,o⟩
  replace o:=back _ _ o
  clear back J hpb
  simp only [List.append_eq,List.nil_append] at o
  refine Jh o ?_
  (refine Jc ?_;intros)
  refine Yn fun b1 h=>?_
  (refine Jc ?_;intros)
  refine Yn fun b2 h=>?_
  (refine Ja ?_;intros)
  refine Tr.xApd (new:=Ab1 (q.1)) ⟨rfl,rfl,by simp only [A7];omega⟩ fun a3 c3 h=>?_
  (refine Ja ?_;intros)
  refine Tr.xApd (new:=[int q.2]) ⟨rfl,rfl,by simp only [A7];omega⟩ fun a4 c4 h=>?_
  (refine Ja ?_;intros)
  simp only [List.set_cons_zero,List.set_cons_succ]
  refine B9 [3,3,3,3,3] 3 rfl rfl ?_
  exact Yr (ih a3 a4 c3 c4) fun v h q=>q
theorem Jf8 (a:Option Addr) (cc:Nat) (l:List UInt8) (at0 n:Nat) (hl:at0+8*n≤l.length) (h1k:l.length≤1000):Ct A5 Q2 [.slice a l.length cc,int at0,int 8,int n,.func (.func Ag1) ⟨[]⟩ ⟨[]⟩] [slC false A3 1 a l.length cc (A0 l)] fun v own =>
   ∃ a1 c1 a2 c2,v=.agg ⟨[.slice a1 n c1,.slice a2 n c2]⟩∧own [slC false A3 1 a l.length cc (A0 l),slC false B7 4 a1 n c1 (D71 n fun j=>(P6 (atR l at0 8 j)).1),slC false A6 1 a2 n c2 (isL n fun j=>(P6 (atR l at0 8 j)).2)]:=by
 refine Ct.of Bj2 rfl fun h r=>Tr.eq (Ev1 ..) ?_;refine Je ?_
 refine Yn fun b10 h=>?_
 refine Yn fun b11 h=>?_
 refine E6 false A6 1 (by omega) ?_
 refine E6 false B7 4 (by omega) ?_
 refine B9 [4,3,2,0,0] 0 rfl rfl ?_
 refine (?_:Tr (_::_::_::slC false B7 4 none 0 0 (D71 0 fun j=>(P6 (atR l at0 8 j)).1)::slC false A6 1 none 0 0 (isL 0 fun j=>(P6 (atR l at0 8 j)).2)::_) _ _ _)
 exact Yr (Gz4 b10 b11 a cc l at0 n hl h1k n 0 none none 0 0 (Nat.zero_add _)) fun v h q=>q
theorem Hi9 (kind:Int) (n:Nat) (a2:Option Addr) (c2:Nat) (f:Nat→Int) (hf:∀ i,i<n→f i≠2) (hn:n≤100):∀ (m i:Nat),i+m=n →
  CtJ D8 G5 Q6 [(1,int kind),(5,.slice none 0 0),(9,.slice a2 n c2),(10,int n),(11,int i)] [slC false A6 1 a2 n c2 (isL n f)] fun v own=>v=.slice none 0 0∧own [slC false A6 1 a2 n c2 (isL n f)]
 | 0,i,hi=>by
  obtain rfl:i=n:=by omega
  refine CtJ.of Au4 fun h r=>Tr.eq (A90 ..) ?_;refine Je ?_
  refine Yf (by simp) ?_
  refine Ys fun o=>?_
  exact ⟨rfl,o.sub⟩
 | m+1,i,hi=>by
  have e1:=wN i
  have hx:=Du1 f (i:=i) (n:=n) (by omega)
  have h2:=hf i (by omega)
  have ih:=Hi9 kind n a2 c2 f hf hn m (i+1) (by omega)
  generalize isL n f=cs at *
  generalize f i=x at *
  refine CtJ.of Au4 fun h r=>Tr.eq (A90 ..) ?_;refine Je ?_
  refine Yt (by simp;omega) ?_
  rw [e1]
  (refine Jb ?_;intros;repeat(refine Gw ?_;rintro px rfl;refine Jb ?_;intros))
  refine Yf (by simpa using h2) ?_
  exact Yr ih fun v h q=>q
theorem Jt9 (kind:Int) (n:Nat) (a1 a2:Option Addr) (c1 c2:Nat) (f:Nat→Int) (hf:∀ i,i<n→f i≠2) (hn:n≤100):Ct A5 G5 [.agg ⟨[.slice a1 n c1,.slice a2 n c2]⟩,int kind] [slC false A6 1 a2 n c2 (isL n f)] fun v own=>v=.slice none 0 0∧own [slC false A6 1 a2 n c2 (isL n f)]:=by
 refine Ct.of Au4 rfl fun h r=>Tr.eq (Dw9 ..) ?_;refine Je ?_
 (refine Ja ?_;intros)
 refine B9 [1] 1 rfl rfl ?_
 exact Yr (Hi9 kind n a2 c2 f hf hn n 0 (Nat.zero_add _)) fun v h q=>q
theorem Hq0 (n:Nat) (a1 a2:Option Addr) (c1 c2:Nat) (f:Nat→Int) (i:Int) (hi:0≤i∧i<n):Ct A5 U4 [.agg ⟨[.slice a1 n c1,.slice a2 n c2]⟩,int i] [slC false A6 1 a2 n c2 (isL n f)] fun v own=>v=.bool (f i.toNat==1)∧own [slC false A6 1 a2 n c2 (isL n f)]:=by
 have hx:=Du1 f (i:=i.toNat) (n:=n) (by omega)
 generalize isL n f=cs at *
 generalize f i.toNat=x at *
 refine Ct.of Dq2 rfl fun h r=>Tr.eq (Dp8 ..) ?_;refine Je ?_
 (refine Jb ?_;intros;repeat(refine Gw ?_;rintro px rfl;refine Jb ?_;intros))
 refine Ys fun o=>?_
 exact ⟨rfl,o.sub⟩
abbrev D67 (n:Nat) (f:Nat→PipeS):List Value:=(List.range n).flatMap fun i=>I6 (f i)
theorem It6 (n:Nat) (f:Nat→PipeS):D67 (n+1) f=D67 n f++(I6 (f n)):=by unfold D67;rw [List.range_succ,List.flatMap_append];simp
theorem Gw3 (b10 b11:Nat) (a:Option Addr) (cc:Nat) (l:List UInt8) (at0 n:Nat) (hl:at0+40*n≤l.length) (h1k:l.length≤1000):∀ (m i:Nat) (a1 a2:Option Addr) (c1 c2:Nat),i+m=n →
  CtJ D8 N4 Ao8 [(0,.slice a l.length cc),(1,int at0),(2,int 40),(4,.func (.func Aa6) ⟨[]⟩ ⟨[]⟩),(10,P0 b10),(11,P0 b11),(15,int n),(16,int i)] [slC false A3 1 a l.length cc (A0 l),pt b10 (.cells W6 false [.slice none 0 0,.slice none 0 0]),pt b11 (.cells W6 false [.slice a1 i c1,.slice a2 i c2]),slC false D7 36 a1 i c1 (D67 i fun j=>(N7 (atR l at0 40 j)).1),slC false A6 1 a2 i c2 (isL i fun j=>(N7 (atR l at0 40 j)).2)] fun v own =>
   ∃ a1 c1 a2 c2,v=.agg ⟨[.slice a1 n c1,.slice a2 n c2]⟩∧own [slC false A3 1 a l.length cc (A0 l),slC false D7 36 a1 n c1 (D67 n fun j=>(N7 (atR l at0 40 j)).1),slC false A6 1 a2 n c2 (isL n fun j=>(N7 (atR l at0 40 j)).2)]
 | 0,i,a1,a2,c1,c2,hi=>by
  obtain rfl:i=n:=by omega
  refine CtJ.of Bl4 fun h r=>Tr.eq (By9 ..) ?_;refine Je ?_
  refine Yf (by simp) ?_
  (refine Ja ?_;intros)
  refine Ys fun o=>?_
  exact ⟨a1,c1,a2,c2,rfl,o.sub⟩
 | m+1,i,a1,a2,c1,c2,hi=>by
  have e1:=wN i
  have e2:IntKind.wrap .i64 ((at0:Int)+IntKind.wrap .i64 (40*((i+1:Nat):Int)))=((at0+40*i+40:Nat):Int):=by simp only [B3];omega
  have e3:IntKind.wrap .i64 ((at0:Int)+IntKind.wrap .i64 (40*(i:Int)))=((at0+40*i:Nat):Int):=by simp only [B3];omega
  have hw:(atR l at0 40 i).length=40:=by simp;omega
  have ih:=fun a1 a2 c1 c2=>Gw3 b10 b11 a cc l at0 n hl h1k m (i+1) a1 a2 c1 c2 (by omega)
  rw [It6,E83] at ih
  refine CtJ.of Bl4 fun h r=>Tr.eq (By9 ..) ?_;refine Je ?_
  refine Yt (by simp;omega) ?_
  rw [e1,e2,e3]
  refine U1 0 rfl fun hl2 hc2 _=>?_
  (refine Ja ?_;intros)
  refine Tr.ck (by omega) ?_
  refine Tr.ck (by omega) ?_
  simp only [Int.toNat_natCast,show at0+40*i+40-(at0+40*i)=40 by omega]
  refine Hg1 0 rfl (at0+40*i) 40 (by omega) (by omega) fun pb hpb back=>?_
  refine (?_:Tr (pb::_) _ _ _)
  have J:=Gw6 pb false _ _ (atR l at0 40 i) hw (ks:=hpb)
  generalize N7 (atR l at0 40 i)=q at *
  rw [Nat.mul_one] at J
  simp only [List.nil_append,List.append_nil]
  refine Yc J ?_
  rintro _ h ⟨rfl,o⟩
  replace o:=back _ _ o
  clear back J hpb
  simp only [List.append_eq,List.nil_append] at o
  refine Jh o ?_
  (refine Jc ?_;intros)
  refine Yn fun b1 h=>?_
  (refine Jc ?_;intros)
  refine Yn fun b2 h=>?_
  (refine Ja ?_;intros)
  refine Tr.xCellsB (xs:=I6 (q.1)) (Dt3 (Bm3 (Bc5 (q.1).len))) ?_
  (refine Ja ?_;intros)
  refine Tr.xApd (new:=I6 (q.1)) ⟨Bc5 (q.1).len,Hs8 q.1,by simp only [A7];omega⟩ fun a3 c3 h=>?_
  (refine Ja ?_;intros)
  refine Tr.xApd (new:=[int q.2]) ⟨rfl,rfl,by simp only [A7];omega⟩ fun a4 c4 h=>?_
  (refine Ja ?_;intros)
  simp only [List.set_cons_zero,List.set_cons_succ]
  refine B9 [3,3,3,3,3] 3 rfl rfl ?_
  exact Yr (ih a3 a4 c3 c4) fun v h q=>q
theorem Ie4 (a:Option Addr) (cc:Nat) (l:List UInt8) (at0 n:Nat) (hl:at0+40*n≤l.length) (h1k:l.length≤1000):Ct A5 N4 [.slice a l.length cc,int at0,int 40,int n,.func (.func Aa6) ⟨[]⟩ ⟨[]⟩] [slC false A3 1 a l.length cc (A0 l)] fun v own =>
   ∃ a1 c1 a2 c2,v=.agg ⟨[.slice a1 n c1,.slice a2 n c2]⟩∧own [slC false A3 1 a l.length cc (A0 l),slC false D7 36 a1 n c1 (D67 n fun j=>(N7 (atR l at0 40 j)).1),slC false A6 1 a2 n c2 (isL n fun j=>(N7 (atR l at0 40 j)).2)]:=by
 refine Ct.of Bl4 rfl fun h r=>Tr.eq (Ex4 ..) ?_;refine Je ?_
 refine Yn fun b10 h=>?_
 refine Yn fun b11 h=>?_
 refine E6 false A6 1 (by omega) ?_
 refine E6 false D7 36 (by omega) ?_
 refine B9 [4,3,2,0,0] 0 rfl rfl ?_
 refine (?_:Tr (_::_::_::slC false D7 36 none 0 0 (D67 0 fun j=>(N7 (atR l at0 40 j)).1)::slC false A6 1 none 0 0 (isL 0 fun j=>(N7 (atR l at0 40 j)).2)::_) _ _ _)
 exact Yr (Gw3 b10 b11 a cc l at0 n hl h1k n 0 none none 0 0 (Nat.zero_add _)) fun v h q=>q
theorem Hb8 (kind:Int) (n:Nat) (a2:Option Addr) (c2:Nat) (f:Nat→Int) (hf:∀ i,i<n→f i≠2) (hn:n≤100):∀ (m i:Nat),i+m=n →
  CtJ D8 E9 Q9 [(1,int kind),(5,.slice none 0 0),(9,.slice a2 n c2),(10,int n),(11,int i)] [slC false A6 1 a2 n c2 (isL n f)] fun v own=>v=.slice none 0 0∧own [slC false A6 1 a2 n c2 (isL n f)]
 | 0,i,hi=>by
  obtain rfl:i=n:=by omega
  refine CtJ.of Au0 fun h r=>Tr.eq (A87 ..) ?_;refine Je ?_
  refine Yf (by simp) ?_
  refine Ys fun o=>?_
  exact ⟨rfl,o.sub⟩
 | m+1,i,hi=>by
  have e1:=wN i
  have hx:=Du1 f (i:=i) (n:=n) (by omega)
  have h2:=hf i (by omega)
  have ih:=Hb8 kind n a2 c2 f hf hn m (i+1) (by omega)
  generalize isL n f=cs at *
  generalize f i=x at *
  refine CtJ.of Au0 fun h r=>Tr.eq (A87 ..) ?_;refine Je ?_
  refine Yt (by simp;omega) ?_
  rw [e1]
  (refine Jb ?_;intros;repeat(refine Gw ?_;rintro px rfl;refine Jb ?_;intros))
  refine Yf (by simpa using h2) ?_
  exact Yr ih fun v h q=>q
theorem Io8 (kind:Int) (n:Nat) (a1 a2:Option Addr) (c1 c2:Nat) (f:Nat→Int) (hf:∀ i,i<n→f i≠2) (hn:n≤100):Ct A5 E9 [.agg ⟨[.slice a1 n c1,.slice a2 n c2]⟩,int kind] [slC false A6 1 a2 n c2 (isL n f)] fun v own=>v=.slice none 0 0∧own [slC false A6 1 a2 n c2 (isL n f)]:=by
 refine Ct.of Au0 rfl fun h r=>Tr.eq (Ds9 ..) ?_;refine Je ?_
 (refine Ja ?_;intros)
 refine B9 [1] 1 rfl rfl ?_
 exact Yr (Hb8 kind n a2 c2 f hf hn n 0 (Nat.zero_add _)) fun v h q=>q
theorem Hv6 (n:Nat) (a1 a2:Option Addr) (c1 c2:Nat) (f:Nat→Int) (i:Int) (hi:0≤i∧i<n):Ct A5 S8 [.agg ⟨[.slice a1 n c1,.slice a2 n c2]⟩,int i] [slC false A6 1 a2 n c2 (isL n f)] fun v own=>v=.bool (f i.toNat==1)∧own [slC false A6 1 a2 n c2 (isL n f)]:=by
 have hx:=Du1 f (i:=i.toNat) (n:=n) (by omega)
 generalize isL n f=cs at *
 generalize f i.toNat=x at *
 refine Ct.of Do9 rfl fun h r=>Tr.eq (Dk7 ..) ?_;refine Je ?_
 (refine Jb ?_;intros;repeat(refine Gw ?_;rintro px rfl;refine Jb ?_;intros))
 refine Ys fun o=>?_
 exact ⟨rfl,o.sub⟩
abbrev E33 (n:Nat) (f:Nat→Int):List Value:=(List.range n).flatMap fun i=>[int (f i)]
theorem I13 (n:Nat) (f:Nat→Int):E33 (n+1) f=E33 n f++([int (f n)]):=by unfold E33;rw [List.range_succ,List.flatMap_append];simp
theorem G07 (b10 b11:Nat) (a:Option Addr) (cc:Nat) (l:List UInt8) (at0 n:Nat) (hl:at0+4*n≤l.length) (h1k:l.length≤1000):∀ (m i:Nat) (a1 a2:Option Addr) (c1 c2:Nat),i+m=n →
  CtJ D8 Ae5 A80 [(0,.slice a l.length cc),(1,int at0),(2,int 4),(4,.func (.func W4) ⟨[]⟩ ⟨[]⟩),(10,P0 b10),(11,P0 b11),(15,int n),(16,int i)] [slC false A3 1 a l.length cc (A0 l),pt b10 (.cells As2 false [.slice none 0 0,.slice none 0 0]),pt b11 (.cells As2 false [.slice a1 i c1,.slice a2 i c2]),slC false A6 1 a1 i c1 (E33 i fun j=>(Ae3 (atR l at0 4 j)).1),slC false A6 1 a2 i c2 (isL i fun j=>(Ae3 (atR l at0 4 j)).2)] fun v own =>
   ∃ a1 c1 a2 c2,v=.agg ⟨[.slice a1 n c1,.slice a2 n c2]⟩∧own [slC false A3 1 a l.length cc (A0 l),slC false A6 1 a1 n c1 (E33 n fun j=>(Ae3 (atR l at0 4 j)).1),slC false A6 1 a2 n c2 (isL n fun j=>(Ae3 (atR l at0 4 j)).2)]
 | 0,i,a1,a2,c1,c2,hi=>by
  obtain rfl:i=n:=by omega
  refine CtJ.of Df0 fun h r=>Tr.eq (Ds2 ..) ?_;refine Je ?_
  refine Yf (by simp) ?_
  (refine Ja ?_;intros)
  refine Ys fun o=>?_
  exact ⟨a1,c1,a2,c2,rfl,o.sub⟩
 | m+1,i,a1,a2,c1,c2,hi=>by
  have e1:=wN i
  have e2:IntKind.wrap .i64 ((at0:Int)+IntKind.wrap .i64 (4*((i+1:Nat):Int)))=((at0+4*i+4:Nat):Int):=by simp only [B3];omega
  have e3:IntKind.wrap .i64 ((at0:Int)+IntKind.wrap .i64 (4*(i:Int)))=((at0+4*i:Nat):Int):=by simp only [B3];omega
  have hw:(atR l at0 4 i).length=4:=by simp;omega
  have ih:=fun a1 a2 c1 c2=>G07 b10 b11 a cc l at0 n hl h1k m (i+1) a1 a2 c1 c2 (by omega)
  rw [I13,E83] at ih
  refine CtJ.of Df0 fun h r=>Tr.eq (Ds2 ..) ?_;refine Je ?_
  refine Yt (by simp;omega) ?_
  rw [e1,e2,e3]
  refine U1 0 rfl fun hl2 hc2 _=>?_
  (refine Ja ?_;intros)
  refine Tr.ck (by omega) ?_
  refine Tr.ck (by omega) ?_
  simp only [Int.toNat_natCast,show at0+4*i+4-(at0+4*i)=4 by omega]
  refine Hg1 0 rfl (at0+4*i) 4 (by omega) (by omega) fun pb hpb back=>?_
  refine (?_:Tr (pb::_) _ _ _)
  have J:=Gw8 pb false _ _ (atR l at0 4 i) hw (ks:=hpb)
  generalize Ae3 (atR l at0 4 i)=q at *
  rw [Nat.mul_one] at J
  simp only [List.nil_append,List.append_nil]
  refine Yc J ?_
  rintro _ h ⟨rfl,o⟩
  replace o:=back _ _ o
  clear back J hpb
  simp only [List.append_eq,List.nil_append] at o
  refine Jh o ?_
  (refine Jc ?_;intros)
  refine Yn fun b2 h=>?_
  (refine Ja ?_;intros)
  refine Tr.xApd (new:=[int (q.1)]) ⟨rfl,rfl,by simp only [A7];omega⟩ fun a3 c3 h=>?_
  (refine Ja ?_;intros)
  refine Tr.xApd (new:=[int q.2]) ⟨rfl,rfl,by simp only [A7];omega⟩ fun a4 c4 h=>?_
  (refine Ja ?_;intros)
  simp only [List.set_cons_zero,List.set_cons_succ]
  refine B9 [2,2,2,2,2] 2 rfl rfl ?_
  exact Yr (ih a3 a4 c3 c4) fun v h q=>q
theorem Jc6 (a:Option Addr) (cc:Nat) (l:List UInt8) (at0 n:Nat) (hl:at0+4*n≤l.length) (h1k:l.length≤1000):Ct A5 Ae5 [.slice a l.length cc,int at0,int 4,int n,.func (.func W4) ⟨[]⟩ ⟨[]⟩] [slC false A3 1 a l.length cc (A0 l)] fun v own =>
   ∃ a1 c1 a2 c2,v=.agg ⟨[.slice a1 n c1,.slice a2 n c2]⟩∧own [slC false A3 1 a l.length cc (A0 l),slC false A6 1 a1 n c1 (E33 n fun j=>(Ae3 (atR l at0 4 j)).1),slC false A6 1 a2 n c2 (isL n fun j=>(Ae3 (atR l at0 4 j)).2)]:=by
 refine Ct.of Df0 rfl fun h r=>Tr.eq (G34 ..) ?_;refine Je ?_
 refine Yn fun b10 h=>?_
 refine Yn fun b11 h=>?_
 refine E6 false A6 1 (by omega) ?_
 refine E6 false A6 1 (by omega) ?_
 refine B9 [4,3,2,0,0] 0 rfl rfl ?_
 refine (?_:Tr (_::_::_::slC false A6 1 none 0 0 (E33 0 fun j=>(Ae3 (atR l at0 4 j)).1)::slC false A6 1 none 0 0 (isL 0 fun j=>(Ae3 (atR l at0 4 j)).2)::_) _ _ _)
 exact Yr (G07 b10 b11 a cc l at0 n hl h1k n 0 none none 0 0 (Nat.zero_add _)) fun v h q=>q
theorem Hi6 (kind:Int) (n:Nat) (a2:Option Addr) (c2:Nat) (f:Nat→Int) (hf:∀ i,i<n→f i≠2) (hn:n≤100):∀ (m i:Nat),i+m=n →
  CtJ D8 J6 Aa9 [(1,int kind),(5,.slice none 0 0),(9,.slice a2 n c2),(10,int n),(11,int i)] [slC false A6 1 a2 n c2 (isL n f)] fun v own=>v=.slice none 0 0∧own [slC false A6 1 a2 n c2 (isL n f)]
 | 0,i,hi=>by
  obtain rfl:i=n:=by omega
  refine CtJ.of A95 fun h r=>Tr.eq (Bs9 ..) ?_;refine Je ?_
  refine Yf (by simp) ?_
  refine Ys fun o=>?_
  exact ⟨rfl,o.sub⟩
 | m+1,i,hi=>by
  have e1:=wN i
  have hx:=Du1 f (i:=i) (n:=n) (by omega)
  have h2:=hf i (by omega)
  have ih:=Hi6 kind n a2 c2 f hf hn m (i+1) (by omega)
  generalize isL n f=cs at *
  generalize f i=x at *
  refine CtJ.of A95 fun h r=>Tr.eq (Bs9 ..) ?_;refine Je ?_
  refine Yt (by simp;omega) ?_
  rw [e1]
  (refine Jb ?_;intros;repeat(refine Gw ?_;rintro px rfl;refine Jb ?_;intros))
  refine Yf (by simpa using h2) ?_
  exact Yr ih fun v h q=>q
theorem Jq0 (kind:Int) (n:Nat) (a1 a2:Option Addr) (c1 c2:Nat) (f:Nat→Int) (hf:∀ i,i<n→f i≠2) (hn:n≤100):Ct A5 J6 [.agg ⟨[.slice a1 n c1,.slice a2 n c2]⟩,int kind] [slC false A6 1 a2 n c2 (isL n f)] fun v own=>v=.slice none 0 0∧own [slC false A6 1 a2 n c2 (isL n f)]:=by
 refine Ct.of A95 rfl fun h r=>Tr.eq (Ej4 ..) ?_;refine Je ?_
 (refine Ja ?_;intros)
 refine B9 [1] 1 rfl rfl ?_
 exact Yr (Hi6 kind n a2 c2 f hf hn n 0 (Nat.zero_add _)) fun v h q=>q
abbrev G86:Value:=.slice none 0 0
theorem Io3 {n i:Nat} (h:i<n):(List.replicate n G86)[i]?=some (.slice none 0 0):=by rw [List.getElem?_replicate,if_pos h]
theorem Jl4:Ct A5 M0 [.slice none 0 0,int 0] [] fun v own=>v=.slice none 0 0∧own []:=by
 refine Ct.of A88 rfl fun h r=>Tr.eq (Di6 ..) ?_;refine Je ?_
 refine Yf rfl ?_
 refine Tr.jmp A88 (Tr.eq (B72 ..) ?_);(try simp only[Nr,Nl,wl,Nat.reduceAdd,Nat.reduceMul,Int.reduceToNat])
 dsimp only [Gm3]
 refine Yf (by decide) ?_
 refine Ys fun o=>?_
 exact ⟨rfl,o.sub⟩
theorem Hq8 (a:Option Addr) (c n:Nat) (hn:n≤100):∀ (m i:Nat),i+m=n →
  CtJ D8 D3 S9 [(6,.slice none 0 0),(25,.slice a n c),(26,int n),(27,int i)] [slC false Da5 1 a n c (List.replicate n G86)] fun v own=>v=.slice none 0 0∧own []
 | 0,i,hi=>by
  obtain rfl:i=n:=by omega
  refine CtJ.of P2 fun h r=>Tr.eq (Aw9 ..) ?_;refine Je ?_
  refine Yf (by simp) ?_
  refine Ys fun o=>?_
  exact ⟨rfl,o.sub⟩
 | m+1,i,hi=>by
  have e1:=wN i
  have hx:=Io3 (n:=n) (i:=i) (by omega)
  have ih:=Hq8 a c n hn m (i+1) (by omega)
  generalize List.replicate n G86=cs at *
  refine CtJ.of P2 fun h r=>Tr.eq (Aw9 ..) ?_;refine Je ?_
  refine Yt (by simp;omega) ?_
  rw [e1]
  (refine Jb ?_;intros;repeat(refine Gw ?_;rintro px rfl;refine Jb ?_;intros))
  exact Yr ih fun v h q=>q
theorem Hr1 (a:Option Addr) (c n:Nat) (hn:n≤100):∀ (m i:Nat),i+m=n →
  CtJ D8 D3 U3 [(0,.slice a n c),(3,int 0),(9,.slice a n c),(10,int n),(11,int i)] [slC false Da5 1 a n c (List.replicate n G86)] fun v own=>v=.slice none 0 0∧own []
 | 0,i,hi=>by
  obtain rfl:i=n:=by omega
  refine CtJ.of P2 fun h r=>Tr.eq (Av5 ..) ?_;refine Je ?_
  refine Yf (by simp) ?_
  refine Yc (Jl4) ?_;rintro _ h ⟨rfl,o⟩<;>refine Jh o ?_
  (refine Ja ?_;intros)
  exact Yr (Hq8 a c i hn i 0 (Nat.zero_add _)) fun v h q=>q
 | m+1,i,hi=>by
  have e1:=wN i
  have hx:=Io3 (n:=n) (i:=i) (by omega)
  have ih:=Hr1 a c n hn m (i+1) (by omega)
  generalize List.replicate n G86=cs at *
  refine CtJ.of P2 fun h r=>Tr.eq (Av5 ..) ?_;refine Je ?_
  refine Yt (by simp;omega) ?_
  rw [e1]
  (refine Jb ?_;intros;repeat(refine Gw ?_;rintro px rfl;refine Jb ?_;intros))
  refine Yf (by decide) ?_
  exact Yr ih fun v h q=>q
theorem Jx5 (a:Option Addr) (c n:Nat) (hn:n≤100):Ct A5 D3 [.slice a n c] [slC false Da5 1 a n c (List.replicate n G86)] fun v own=>v=.slice none 0 0∧own []:=by
 refine Ct.of P2 rfl fun h r=>Tr.eq (B86 ..) ?_;refine Je ?_
 exact Yr (Hr1 a c n hn n 0 (Nat.zero_add _)) fun v h q=>q
abbrev auS (l:List UInt8) (j:Nat):ProcS × Int:=N8 (atR l 0 24 j)
abbrev auF (l:List UInt8) (j:Nat):FileS × Int:=P6 (atR l 192 8 j)
abbrev auP (l:List UInt8) (j:Nat):PipeS × Int:=N7 (atR l 288 40 j)
abbrev auT (l:List UInt8) (j:Nat):PipeS × Int:=N7 (atR l 448 40 j)
abbrev auG (l:List UInt8) (j:Nat):Int × Int:=Ae3 (atR l 488 4 j)
theorem Jm7 (a:Option Addr) (cc:Nat) (l:List UInt8) (hl:l.length=492):Ct A5 Dj3 [.slice a l.length cc] [slC false A3 1 a l.length cc (A0 l)] fun v own =>
  ∃ xb a1 c1 a2 c2 a3 c3 a4 c4 a5 c5 a6 c6 a7 c7 a8 c8 a9 c9 a10 c10,v=P0 xb∧own [slC false A3 1 a l.length cc (A0 l),pt xb (.cells Eo5 false [.slice a1 8 c1,.slice a2 8 c2,.slice a3 12 c3,.slice a4 12 c4,.slice a5 4 c5,.slice a6 4 c6,.slice a7 1 c7,.slice a8 1 c8,.slice a9 1 c9,.slice a10 1 c10]),
   slC false A9 16 a1 8 c1 (Ea9 8 fun j=>(auS l j).1),slC false A6 1 a2 8 c2 (isL 8 fun j=>(auS l j).2),slC false B7 4 a3 12 c3 (D71 12 fun j=>(auF l j).1),slC false A6 1 a4 12 c4 (isL 12 fun j=>(auF l j).2),
   slC false D7 36 a5 4 c5 (D67 4 fun j=>(auP l j).1),slC false A6 1 a6 4 c6 (isL 4 fun j=>(auP l j).2),slC false A6 1 a8 1 c8 (isL 1 fun j=>(auT l j).2),slC false A6 1 a10 1 c10 (isL 1 fun j=>(auG l j).2)]:=by
 refine Ct.of Ix9 rfl fun h r=>Tr.eq (Iz4 ..) ?_;refine Je ?_
 refine Yc (Jm0 a cc l 0 8 (by omega) (by omega)) ?_
 rintro _ h ⟨a1,c1,a2,c2,rfl,o⟩
 refine Jh o ?_
 (refine Ja ?_;intros)
 refine Yc (Jf8 a cc l 192 12 (by omega) (by omega)) ?_
 rintro _ h ⟨a3,c3,a4,c4,rfl,o⟩
 refine Jh o ?_
 (refine Ja ?_;intros)
 refine Yc (Ie4 a cc l 288 4 (by omega) (by omega)) ?_
 rintro _ h ⟨a5,c5,a6,c6,rfl,o⟩
 refine Jh o ?_
 (refine Ja ?_;intros)
 refine Yc (Ie4 a cc l 448 1 (by omega) (by omega)) ?_
 rintro _ h ⟨a7,c7,a8,c8,rfl,o⟩
 refine Jh o ?_
 (refine Ja ?_;intros)
 refine Yc (Jc6 a cc l 488 1 (by omega) (by omega)) ?_
 rintro _ h ⟨a9,c9,a10,c10,rfl,o⟩
 refine Jh o ?_
 (refine Ja ?_;intros)
 simp only [List.append_nil,List.cons_append,List.nil_append]
 refine Ys fun o=>?_
 exact ⟨_,a1,c1,a2,c2,a3,c3,a4,c4,a5,c5,a6,c6,a7,c7,a8,c8,a9,c9,a10,c10,rfl,o.sub⟩
theorem Dx6 (a:Option Addr) (n c:Nat) (a2:Option Addr) (n2 c2:Nat):Ax5 (.agg ⟨[.slice a n c,.slice a2 n2 c2]⟩) (.agg ⟨[.slice a n c,.slice a2 n2 c2]⟩)=true:=by
 show (Ay0 (.slice a n c) (.slice a n c) && (Ay0 (.slice a2 n2 c2) (.slice a2 n2 c2) && true))=true
 rw [show Ay0 (.slice a n c) (.slice a n c)=true from G77 a n c,show Ay0 (.slice a2 n2 c2) (.slice a2 n2 c2)=true from G77 a2 n2 c2];rfl
structure NoBad (l:List UInt8):Prop where
 len:l.length=492
 s:∀ i:Nat,i<8→(auS l i).2≠2
 f:∀ i:Nat,i<12→(auF l i).2≠2
 p:∀ i:Nat,i<4→(auP l i).2≠2
 t:∀ i:Nat,i<1→(auT l i).2≠2
 g:∀ i:Nat,i<1→(auG l i).2≠2
theorem Jp8 (a:Option Addr) (cc:Nat) (l:List UInt8) (N:NoBad l):Ct A5 Dx5 [.slice a l.length cc] [slC false A3 1 a l.length cc (A0 l)] fun v own=>v=.slice none 0 0∧own [slC false A3 1 a l.length cc (A0 l)]:=by
 refine Ct.of In0 rfl fun h r=>Tr.eq (Ig4 ..) ?_;refine Je ?_
 refine Yf (by rw [N.len];rfl) ?_
 refine Yc (Jm7 a cc l N.len) ?_
 rintro _ h ⟨xb,a1,c1,a2,c2,a3,c3,a4,c4,a5,c5,a6,c6,a7,c7,a8,c8,a9,c9,a10,c10,rfl,o⟩
 refine Jh o ?_
 (refine Ja ?_;intros)
 refine Je ?_
 (refine Ja ?_;intros)
 refine Yc (Jo6 1 8 a1 a2 c1 c2 _ N.s (by omega)) ?_;rintro _ h ⟨rfl,o⟩<;>refine Jh o ?_
 (refine Ja ?_;intros)
 refine Tr.same (Dx6 ..) ?_
 (refine Ja ?_;intros)
 refine Tr.same (Dx6 ..) ?_
 (refine Ja ?_;intros)
 refine Tr.same (Dx6 ..) ?_
 (refine Ja ?_;intros)
 refine Tr.same (Dx6 ..) ?_
 (refine Ja ?_;intros)
 refine Yc (Jt9 2 12 a3 a4 c3 c4 _ N.f (by omega)) ?_;rintro _ h ⟨rfl,o⟩<;>refine Jh o ?_
 (refine Ja ?_;intros)
 refine Tr.same (Dx6 ..) ?_
 (refine Ja ?_;intros)
 refine Tr.same (Dx6 ..) ?_
 (refine Ja ?_;intros)
 refine Tr.same (Dx6 ..) ?_
 (refine Ja ?_;intros)
 refine Yc (Io8 3 4 a5 a6 c5 c6 _ N.p (by omega)) ?_;rintro _ h ⟨rfl,o⟩<;>refine Jh o ?_
 (refine Ja ?_;intros)
 refine Tr.same (Dx6 ..) ?_
 (refine Ja ?_;intros)
 refine Tr.same (Dx6 ..) ?_
 (refine Ja ?_;intros)
 refine Yc (Io8 4 1 a7 a8 c7 c8 _ N.t (by omega)) ?_;rintro _ h ⟨rfl,o⟩<;>refine Jh o ?_
 (refine Ja ?_;intros)
 refine Tr.same (Dx6 ..) ?_
 (refine Ja ?_;intros)
 refine Yc (Jq0 5 1 a9 a10 c9 c10 _ N.g (by omega)) ?_;rintro _ h ⟨rfl,o⟩<;>refine Jh o ?_
 (refine Jc ?_;intros)
 refine Yn fun b2 h=>?_
 refine Ai1 0 rfl 1 5 rfl (by omega) ?_
 refine (?_:Tr (slC false Da5 1 (some ⟨b2,0,none⟩) 5 5 (List.replicate 5 G86)::_) _ _ _)
 refine Yc (Jx5 (some ⟨b2,0,none⟩) 5 5 (by omega)) ?_;rintro _ h ⟨rfl,o⟩<;>refine Jh o ?_
 (refine Ja ?_;intros)
 refine Ys fun o=>?_
 exact ⟨rfl,o.sub⟩
def Ds7 (g:Nat→Int):Nat→Int
 | 0=>0
 | m+1=>Ds7 g m+g m
theorem H94 (g:Int→Int):∀ m:Nat,Bi5 g m=Ds7 (fun j=>g j) m
 | 0=>rfl
 | m+1=>by rw [Bi5,Ds7,H94 g m]
theorem E15 {g g':Nat→Int}:∀ (m:Nat),(∀ j,j<m→g j=g' j)→Ds7 g m=Ds7 g' m
 | 0,_=>rfl
 | m+1,h=>by rw [Ds7,Ds7,E15 m fun j h1=>h j (by omega),h m (by omega)]
abbrev Ax2 (fS:Nat→ProcS × Int) (k:Nat) (m:Nat):Int:=Ds7 (fun i=>ctn ((k:Int)+1) (fS i).1.fds) m
abbrev A92 (fF:Nat→FileS × Int) (kd:Int) (j m:Nat):Int:=Ds7 (fun f=>N1 kd j (fF f).1) m
structure SndB (fS:Nat→ProcS × Int) (fF:Nat→FileS × Int) (fP:Nat→PipeS × Int):Prop where
 par:∀ i:Nat,i<8→(fS i).1.parent>0→(fS i).1.parent≠i+1∧∃ k:Nat,(fS i).1.parent=k+1∧k<8∧(fS k).2=1
 fd:∀ i:Nat,i<8→∀ f ∈ (fS i).1.fds,f>0→∃ k:Nat,f=k+1∧k<12∧(fF k).2=1
 refs:∀ f:Nat,f<12→(fF f).2=1→(fF f).1.refs=Ax2 fS f 8
 pipe:∀ f:Nat,f<12→((fF f).1.kind=1∨(fF f).1.kind=2)→∃ k:Nat,(fF f).1.pipe=k∧k<4∧(fP k).2=1
 ends:∀ j:Nat,j<4→(fP j).2=1→(fP j).1.readers=A92 fF 1 j 12∧(fP j).1.writers=A92 fF 2 j 12∧A92 fF 1 j 12+A92 fF 2 j 12≠0
theorem rd0 {X:CX} (c:Clean 3 X) {r:RecS} {a n:Nat} (e:E7 3 r=some (0,a,n)):rd X r=slice (X.m.getD 0 []) a n:=by
 unfold rd;rw [c.len,e]
theorem Jv7 {X:CX} (c:Clean 3 X) (i:Nat) (h:i<8):auS (X.m.getD 0 []) i=vS X i:=by
 have e:E7 3 ⟨1,(i:Int)⟩=some (0,24*i,24):=by
  unfold E7;rw [if_neg (by simp [J8];omega)];rfl
 show N8 _=N8 _
 rw [rd0 c e];unfold slice atR;rw [Nat.zero_add]
theorem Jx2 {X:CX} (c:Clean 3 X) (i:Nat) (h:i<12):auF (X.m.getD 0 []) i=vF X i:=by
 have e:E7 3 ⟨2,(i:Int)⟩=some (0,192+8*i,8):=by
  unfold E7;rw [if_neg (by simp [J8];omega)];rfl
 show P6 _=P6 _
 rw [rd0 c e];rfl
theorem Jw9 {X:CX} (c:Clean 3 X) (i:Nat) (h:i<4):auP (X.m.getD 0 []) i=vP X i:=by
 have e:E7 3 ⟨3,(i:Int)⟩=some (0,288+40*i,40):=by
  unfold E7;rw [if_neg (by simp [J8];omega)];simp;omega
 show N7 _=N7 _
 rw [rd0 c e];rfl
theorem Jd5 {X:CX} (c:Clean 3 X):NoBad (X.m.getD 0 []) where
 len:=c.own
 s i h:=by rw [Jv7 c i h];exact c.ok ⟨1,i⟩ (by simp) (by simp) (by simp) (by simp [J8];omega)
 f i h:=by rw [Jx2 c i h];exact c.ok ⟨2,i⟩ (by simp) (by simp) (by simp) (by simp [J8];omega)
 p i h:=by rw [Jw9 c i h];exact c.ok ⟨3,i⟩ (by simp) (by simp) (by simp) (by simp [J8];omega)
 t i h:=by
  obtain rfl:i=0:=by omega
  have:=c.ok ⟨4,0⟩ (by simp) (by simp) (by simp) (by simp [J8])
  rw [rd0 c (show E7 3 ⟨4,0⟩=some (0,448,40) by rfl)] at this
  exact this
 g i h:=by
  obtain rfl:i=0:=by omega
  have:=c.ok ⟨5,0⟩ (by simp) (by simp) (by simp) (by simp [J8])
  rw [rd0 c (show E7 3 ⟨5,0⟩=some (0,488,4) by rfl)] at this
  exact this
theorem SX.snd {X:CX} (H:SX X):Clean 3 X∧SndB (auS (X.m.getD 0 [])) (auF (X.m.getD 0 [])) (auP (X.m.getD 0 [])):=by
 obtain ⟨V,A,B⟩:=H
 have eS:∀ i:Nat,i<8→auS (X.m.getD 0 []) i=V.S i:=fun i h=>(Jv7 A.c i h).trans (A.s i (by omega))
 have eF:∀ i:Nat,i<12→auF (X.m.getD 0 []) i=V.F i:=fun i h=>(Jx2 A.c i h).trans (A.f i (by omega))
 have eP:∀ i:Nat,i<4→auP (X.m.getD 0 []) i=V.P i:=fun i h=>(Jw9 A.c i h).trans (A.p i (by omega))
 have ok:∀ i:Nat,i<8→okS (V.S i).1=true∨(V.S i).1=.zero:=fun i h=>by
  rcases B.sz i (by omega) (by omega) with e|e
  ·exact .inr (by rw [e])
  ·exact .inl e.2
 have eE:∀ (kd:Int) (j:Nat),A92 (auF (X.m.getD 0 [])) kd j 12=Aa4 V.F kd j:=fun kd j=>by
  unfold Aa4 A92;rw [H94]
  exact E15 12 fun f h=>by rw [eF f h]
 refine ⟨A.c,fun i h hp=>?_,fun i h f hf h0=>?_,fun f h h1=>?_,fun f h hk=>?_,fun j h h1=>?_⟩
 ·rw [eS i h] at hp ⊢
  obtain ⟨h1,h2,_⟩:=B.par i (by omega) (by omega) hp
  have hr:(V.S i).1.parent≤8:=by
   rcases ok i h with e|e
   ·unfold okS at e
    simp only [Bool.and_eq_true,Bool.not_eq_true',Bool.or_eq_false_iff,decide_eq_false_iff_not] at e
    omega
   ·rw [e];decide
  refine ⟨h1,((V.S i).1.parent-1).toNat,by omega,by omega,?_⟩
  rw [eS _ (by omega),show (((V.S i).1.parent-1).toNat:Int)=(V.S i).1.parent-1 by omega];exact h2
 ·rw [eS i h] at hf
  have h1:=B.fd i (by omega) (by omega) f hf h0
  have hr:f≤12:=by
   rcases ok i h with e|e
   ·have:=Ba3 e f hf;omega
   ·rw [e] at hf;simp at hf;omega
  refine ⟨(f-1).toNat,by omega,by omega,?_⟩
  rw [eF _ (by omega),show ((f-1).toNat:Int)=f-1 by omega];exact h1
 ·rw [eF f h] at h1 ⊢
  rw [B.refs0 (by omega) (by omega) h1]
  unfold Al7 Ax2;rw [H94]
  exact E15 8 fun i hi=>by rw [eS i hi]
 ·rw [eF f h] at hk ⊢
  have h1:=B.pipe f (by omega) (by omega) hk
  rcases B.fz f (by omega) (by omega) with e|⟨_,_,e|⟨_,e1,e2⟩⟩
  ·rw [e] at hk;rcases hk with hk|hk<;>cases hk
  ·omega
  ·refine ⟨(V.F f).1.pipe.toNat,by omega,by omega,?_⟩
   rw [eP _ (by omega),show ((V.F f).1.pipe.toNat:Int)=(V.F f).1.pipe by omega];exact h1
 ·rw [eP j h] at h1 ⊢
  rw [eE,eE];exact B.ends j (by omega) (by omega) h1
structure AuA where
 a1:Option Addr
 c1:Nat
 a2:Option Addr
 c2:Nat
 a3:Option Addr
 c3:Nat
 a4:Option Addr
 c4:Nat
 a5:Option Addr
 c5:Nat
 a6:Option Addr
 c6:Nat
 a7:Option Addr
 c7:Nat
 a8:Option Addr
 c8:Nat
 a9:Option Addr
 c9:Nat
 a0:Option Addr
 c0:Nat
def rS (S:Nat→ProcS × Int):List Value:=Ea9 8 fun j=>(S j).1
def rF (S:Nat→FileS × Int):List Value:=D71 12 fun j=>(S j).1
def rP (S:Nat→PipeS × Int):List Value:=D67 4 fun j=>(S j).1
abbrev iS {α:Type} (n:Nat) (S:Nat→α × Int):List Value:=isL n fun j=>(S j).2
abbrev Bo0 (xb:Nat) (x:AuA):HP:=pt xb (.cells Eo5 false [.slice x.a1 8 x.c1,.slice x.a2 8 x.c2,.slice x.a3 12 x.c3,.slice x.a4 12 x.c4,.slice x.a5 4 x.c5,.slice x.a6 4 x.c6,.slice x.a7 1 x.c7,.slice x.a8 1 x.c8,.slice x.a9 1 x.c9,.slice x.a0 1 x.c0])
abbrev lS (x:AuA) (S:Nat→ProcS × Int):HP:=slC false A9 16 x.a1 8 x.c1 (rS S)
abbrev jS (x:AuA) (S:Nat→ProcS × Int):HP:=slC false A6 1 x.a2 8 x.c2 (iS 8 S)
abbrev lF (x:AuA) (S:Nat→FileS × Int):HP:=slC false B7 4 x.a3 12 x.c3 (rF S)
abbrev jF (x:AuA) (S:Nat→FileS × Int):HP:=slC false A6 1 x.a4 12 x.c4 (iS 12 S)
abbrev lP (x:AuA) (S:Nat→PipeS × Int):HP:=slC false D7 36 x.a5 4 x.c5 (rP S)
abbrev jP (x:AuA) (S:Nat→PipeS × Int):HP:=slC false A6 1 x.a6 4 x.c6 (iS 4 S)
theorem En9 {n i:Nat} (h:i<n):(List.range n)[i]?=some i:=List.getElem?_range h
theorem Iz0 (S:Nat→ProcS × Int) {i:Nat} (h:i<8):((rS S).drop (i*16)).take 16=B8 (S i).1:=Ak0 (f:=fun i=>B8 (S i).1) (fun x=>Ah9 _) (En9 h)
theorem Iu1 (S:Nat→FileS × Int) {i:Nat} (h:i<12):((rF S).drop (i*4)).take 4=Ab1 (S i).1:=Ak0 (f:=fun i=>Ab1 (S i).1) (fun x=>rfl) (En9 h)
theorem J15 (S:Nat→PipeS × Int) {i:Nat} (h:i<4):((rP S).drop (i*36)).take 36=I6 (S i).1:=Ak0 (f:=fun i=>I6 (S i).1) (fun x=>Bc5 (S x).1.len) (En9 h)
theorem H21 (S:Nat→ProcS × Int):(rS S).length=128:=by
 have:=O7 (f:=fun i=>B8 (S i).1) (k:=16) (fun x=>Ah9 _) (List.range 8)
 rw [List.length_range] at this;exact this
theorem H40 (S:Nat→FileS × Int):(rF S).length=48:=by
 have:=O7 (f:=fun i=>Ab1 (S i).1) (k:=4) (fun x=>rfl) (List.range 12)
 rw [List.length_range] at this;exact this
theorem Jx7 (S:Nat→PipeS × Int):(rP S).length=144:=by
 have:=O7 (f:=fun i=>I6 (S i).1) (k:=36) (fun x=>Bc5 (S x).1.len) (List.range 4)
 rw [List.length_range] at this;exact this
theorem Gk0 (xb:Nat) (S:Nat→ProcS × Int) (F:Nat→FileS × Int) (P:Nat→PipeS × Int) (x:AuA) (A:SndB S F P):∀ (m i:Nat),i+m=8 →
  CtJ D8 Z5 Ax4 [(0,P0 xb),(9,.slice x.a1 8 x.c1),(10,int 8),(11,int i)] [Bo0 xb x,lS x S,jS x S] fun v own=>v=.bool false∧own [Bo0 xb x,lS x S,jS x S]
 | 0,i,hi=>by
  obtain rfl:i=8:=by omega
  refine CtJ.of B03 fun h r=>Tr.eq (Dh5 ..) ?_;refine Je ?_
  refine Yf (by simp) ?_
  refine Ys fun o=>?_
  exact ⟨rfl,o.sub⟩
 | m+1,i,hi=>by
  have e1:=wN i
  have ih:=Gk0 xb S F P x A m (i+1) (by omega)
  have hx:=Iz0 S (i:=i) (by omega)
  have hl:=H21 S
  have hp:=A.par i (by omega)
  have ht:=fun k hk=>I39 8 x.a1 x.a2 x.c1 x.c2 (fun j=>(S j).2) k hk
  generalize (S i).1=p at *
  obtain ⟨a1,c1,a2,c2,a3,c3,a4,c4,a5,c5,a6,c6,a7,c7,a8,c8,a9,c9,a0,c0⟩:=x
  dsimp only at ih ht ⊢
  refine CtJ.of B03 fun h r=>Tr.eq (Dh5 ..) ?_;refine Je ?_
  refine Yt (by simp;omega) ?_
  rw [e1]
  (refine Jc ?_;intros;repeat(refine Gw ?_;rintro px rfl;refine Jc ?_;intros))
  rw [Int.toNat_natCast]
  refine Tr.xAggS (xs:=B8 p) ⟨by omega,by omega,hx⟩ ?_
  refine Yn fun b2 h=>?_
  (refine Jb ?_;intros)
  by_cases h1:p.parent>0
  ·obtain ⟨h2,k,h3,h4,h5⟩:=hp h1
   refine Yb (Yt (by simpa using h1) ?_)
   (refine Jb ?_;intros)
   refine Yb (Yf (by rw [beq_eq_false_iff_ne];omega) ?_)
   (refine Jb ?_;intros)
   have e2:IntKind.wrap .i64 (p.parent-1)=(k:Int):=by rw [B3];omega
   rw [e2]
   have J:=ht k (by omega)
   rw [Int.toNat_natCast,h5] at J
   refine Yc (J) ?_;rintro _ h ⟨rfl,o⟩<;>refine Jh o ?_
   (refine Jb ?_;intros)
   refine Ys fun o=>(?_:Tr _ _ _ _) o;refine Je ?_
   refine Ys fun o=>(?_:Tr _ _ _ _) o;refine Je ?_
   refine Yf rfl ?_
   refine B9 [2,2,0] 1 rfl rfl ?_
   exact Yr ih fun v h q=>q
  ·refine Yb (Yf (by simpa using h1) ?_)
   refine Ys fun o=>(?_:Tr _ _ _ _) o;refine Je ?_
   refine Yf rfl ?_
   refine B9 [1,1,1] 1 rfl rfl ?_
   exact Yr ih fun v h q=>q
theorem I55 (xb:Nat) (S:Nat→ProcS × Int) (F:Nat→FileS × Int) (P:Nat→PipeS × Int) (x:AuA) (A:SndB S F P):Ct A5 Z5 [P0 xb] [Bo0 xb x,lS x S,jS x S] fun v own=>v=.bool false∧own [Bo0 xb x,lS x S,jS x S]:=by
 have J:=Gk0 xb S F P x A 8 0 rfl
 obtain ⟨a1,c1,a2,c2,a3,c3,a4,c4,a5,c5,a6,c6,a7,c7,a8,c8,a9,c9,a0,c0⟩:=x
 dsimp only at J ⊢
 refine Ct.of B03 rfl fun h r=>Tr.eq (Gn8 ..) ?_;refine Je ?_
 (refine Ja ?_;intros)
 exact Yr J fun v h q=>q
theorem H09 (S:Nat→ProcS × Int) (f:Nat):∀ m,0≤Ax2 S f m∧Ax2 S f m≤8*m
 | 0=>⟨Int.le_refl 0,by simp [Ax2,Ds7]⟩
 | m+1=>by
  have h1:=H09 S f m
  have h2:=Ja1 ((f:Int)+1) (S m).1.fds
  have h3:=Ex5 ((f:Int)+1) (S m).1.fds
  have:=(S m).1.len
  unfold Ax2 at h1 ⊢;rw [Ds7];omega
theorem G11 (f:Nat) (hf:f<12) (S:Nat→ProcS × Int) (a:Option Addr) (c:Nat) (i:Nat) (hi:i<8) (K:CtJ D8 I0 Ap0 [(1,int f),(5,int (Ax2 S f (i+1))),(14,.slice a 8 c),(15,int 8),(16,int ((i+1:Nat):Int))] [slC false A9 16 a 8 c (rS S)] fun v own=>v=int (Ax2 S f 8)∧own [slC false A9 16 a 8 c (rS S)]):∀ (m j:Nat),j+m=8 →
  CtJ D8 I0 Aq1 [(1,int f),(5,int (Ax2 S f i+ctn ((f:Int)+1) ((S i).1.fds.take j))),(14,.slice a 8 c),(15,int 8),(16,int i),(21,.agg ⟨(S i).1.fds.map int⟩),(22,int j)] [slC false A9 16 a 8 c (rS S)] fun v own=>v=int (Ax2 S f 8)∧own [slC false A9 16 a 8 c (rS S)]
 | 0,j,hj=>by
  obtain rfl:j=8:=by omega
  have e1:=wN i
  have hl:=(S i).1.len
  rw [List.take_of_length_le (by omega),show Ax2 S f i+ctn ((f:Int)+1) (S i).1.fds=Ax2 S f (i+1) from rfl]
  generalize (S i).1.fds=d at *
  refine CtJ.of Az6 fun h r=>Tr.eq (Dp5 ..) ?_;refine Je ?_
  refine Yf (by simp) ?_
  rw [e1]
  exact Yr K fun v h q=>q
 | m+1,j,hj=>by
  have e1:=wN j
  have e2:IntKind.wrap .i64 ((f:Int)+1)=(f:Int)+1:=by rw [B3];omega
  have ih:=G11 f hf S a c i hi K m (j+1) (by omega)
  have hl:=(S i).1.len
  have hb:=H09 S f i
  have hc:=Ja1 ((f:Int)+1) ((S i).1.fds.take j)
  have hc0:=Ex5 ((f:Int)+1) ((S i).1.fds.take j)
  rw [List.length_take] at hc
  have ht:(S i).1.fds.take (j+1)=(S i).1.fds.take j++[(S i).1.fds.getD j 0]:=by
   rw [List.take_add_one,List.getD_eq_getElem?_getD,List.getElem?_eq_getElem (by omega)];rfl
  have hx:((S i).1.fds.map int)[j]?=some (int ((S i).1.fds.getD j 0)):=Eu9 (by omega)
  rw [ht,Gr4,Az0,Eb6] at ih
  generalize (S i).1.fds.getD j 0=d at *
  generalize (S i).1.fds=ds at *
  generalize ctn ((f:Int)+1) (ds.take j)=n at *
  generalize Ax2 S f i=n0 at *
  have e3:IntKind.wrap .i64 (n0+n+1)=n0+(n+(0+1)):=by rw [B3];omega
  refine CtJ.of Az6 fun h r=>Tr.eq (Dp5 ..) ?_;refine Je ?_
  refine Yt (by simp;omega) ?_
  rw [e1,e2]
  (refine Jb ?_;intros)
  by_cases hd:d=(f:Int)+1
  ·refine Yt (by rw [beq_iff_eq];exact hd) ?_
   rw [e3]
   rw [if_pos hd] at ih
   exact Yr ih fun v h q=>q
  ·refine Yf (by rw [beq_eq_false_iff_ne];exact hd) ?_
   rw [if_neg hd,Int.add_zero,Int.add_zero] at ih
   exact Yr ih fun v h q=>q
theorem Gy8 (f:Nat) (hf:f<12) (S:Nat→ProcS × Int) (a:Option Addr) (c:Nat):∀ (m i:Nat),i+m=8 →
  CtJ D8 I0 Ap0 [(1,int f),(5,int (Ax2 S f i)),(14,.slice a 8 c),(15,int 8),(16,int i)] [slC false A9 16 a 8 c (rS S)] fun v own=>v=int (Ax2 S f 8)∧own [slC false A9 16 a 8 c (rS S)]
 | 0,i,hi=>by
  obtain rfl:i=8:=by omega
  generalize Ax2 S f 8=n
  refine CtJ.of Az6 fun h r=>Tr.eq (Dn0 ..) ?_;refine Je ?_
  refine Yf (by simp) ?_
  refine Ys fun o=>?_
  exact ⟨rfl,o.sub⟩
 | m+1,i,hi=>by
  have J:=G11 f hf S a c i (by omega) (Gy8 f hf S a c m (i+1) (by omega)) 8 0 rfl
  have hx:=Iz0 S (i:=i) (by omega)
  have hl:=H21 S
  rw [List.take_zero,Eb6,Int.add_zero] at J
  generalize (S i).1=p at *
  generalize Ax2 S f i=n0 at *
  refine CtJ.of Az6 fun h r=>Tr.eq (Dn0 ..) ?_;refine Je ?_
  refine Yt (by simp;omega) ?_
  (refine Jc ?_;intros;repeat(refine Gw ?_;rintro px rfl;refine Jc ?_;intros))
  rw [Int.toNat_natCast]
  refine Tr.xAggS (xs:=B8 p) ⟨by omega,by omega,hx⟩ ?_
  refine Yn fun b2 h=>?_
  (refine Ja ?_;intros)
  refine B9 [1] 1 rfl rfl ?_
  exact Yr J fun v h q=>q
theorem Jl5 (f:Nat) (hf:f<12) (xb:Nat) (S:Nat→ProcS × Int) (x:AuA):Ct A5 I0 [P0 xb,int f] [Bo0 xb x,lS x S] fun v own=>v=int (Ax2 S f 8)∧own [Bo0 xb x,lS x S]:=by
 have J:=Gy8 f hf S x.a1 x.c1 8 0 rfl
 obtain ⟨a1,c1,a2,c2,a3,c3,a4,c4,a5,c5,a6,c6,a7,c7,a8,c8,a9,c9,a0,c0⟩:=x
 dsimp only at J ⊢
 rw [show Ax2 S f 0=0 from rfl] at J
 refine Ct.of Az6 rfl fun h r=>Tr.eq (Gu1 ..) ?_;refine Je ?_
 (refine Ja ?_;intros)
 refine Yr J fun v h q=>?_
 obtain ⟨rfl,o⟩:=q
 exact ⟨rfl,by first|exact o|exact Own.fin o [1,0] 0 rfl rfl⟩
theorem He6 (xb:Nat) (S:Nat→ProcS × Int) (F:Nat→FileS × Int) (P:Nat→PipeS × Int) (x:AuA) (A:SndB S F P):∀ (m i:Nat),i+m=12 →
  CtJ D8 Ae4 A85 [(0,P0 xb),(9,.slice x.a3 12 x.c3),(10,int 12),(11,int i)] [Bo0 xb x,lS x S,lF x F,jF x F] fun v own=>v=.bool false∧own [Bo0 xb x,lS x S,lF x F,jF x F]
 | 0,i,hi=>by
  obtain rfl:i=12:=by omega
  refine CtJ.of Dd0 fun h r=>Tr.eq (Dr8 ..) ?_;refine Je ?_
  refine Yf (by simp) ?_
  refine Ys fun o=>?_
  exact ⟨rfl,o.sub⟩
 | m+1,i,hi=>by
  have e1:=wN i
  have ih:=He6 xb S F P x A m (i+1) (by omega)
  have hx:=Iu1 F (i:=i) (by omega)
  have hl:=H40 F
  have hp:=A.refs i (by omega)
  have ht:=Hq0 12 x.a3 x.a4 x.c3 x.c4 (fun j=>(F j).2) i (by omega)
  have hn:=Jl5 i (by omega) xb S x
  rw [Int.toNat_natCast] at ht
  generalize (F i).1=p at *
  generalize (F i).2=z at *
  generalize Ax2 S i 8=n at *
  obtain ⟨a1,c1,a2,c2,a3,c3,a4,c4,a5,c5,a6,c6,a7,c7,a8,c8,a9,c9,a0,c0⟩:=x
  dsimp only at ih ht hn ⊢
  refine CtJ.of Dd0 fun h r=>Tr.eq (Dr8 ..) ?_;refine Je ?_
  refine Yt (by simp;omega) ?_
  rw [e1]
  (refine Jc ?_;intros;repeat(refine Gw ?_;rintro px rfl;refine Jc ?_;intros))
  rw [Int.toNat_natCast]
  refine Tr.xAggS (xs:=Ab1 p) ⟨by omega,by omega,hx⟩ ?_
  refine Yn fun b2 h=>?_
  (refine Jb ?_;intros)
  refine Yc (ht) ?_;rintro _ h ⟨rfl,o⟩<;>refine Jh o ?_
  (refine Jb ?_;intros)
  by_cases h1:z=1
  ·have h2:=hp h1
   refine Yb (Yt (by rw [beq_iff_eq];exact h1) ?_)
   (refine Jb ?_;intros)
   refine Yc (hn) ?_;rintro _ h ⟨rfl,o⟩<;>refine Jh o ?_
   (refine Jb ?_;intros)
   refine Ys fun o=>(?_:Tr _ _ _ _) o;refine Je ?_
   refine Yf (by rw [h2];simp) ?_
   refine B9 [0,0,2,0] 1 rfl rfl ?_
   exact Yr ih fun v h q=>q
  ·refine Yb (Yf (by rw [beq_eq_false_iff_ne];exact h1) ?_)
   refine Ys fun o=>(?_:Tr _ _ _ _) o;refine Je ?_
   refine Yf rfl ?_
   refine B9 [2,2,2,0] 1 rfl rfl ?_
   exact Yr ih fun v h q=>q
theorem Js7 (xb:Nat) (S:Nat→ProcS × Int) (F:Nat→FileS × Int) (P:Nat→PipeS × Int) (x:AuA) (A:SndB S F P):Ct A5 Ae4 [P0 xb] [Bo0 xb x,lS x S,lF x F,jF x F] fun v own=>v=.bool false∧own [Bo0 xb x,lS x S,lF x F,jF x F]:=by
 have J:=He6 xb S F P x A 12 0 rfl
 obtain ⟨a1,c1,a2,c2,a3,c3,a4,c4,a5,c5,a6,c6,a7,c7,a8,c8,a9,c9,a0,c0⟩:=x
 dsimp only at J ⊢
 refine Ct.of Dd0 rfl fun h r=>Tr.eq (G51 ..) ?_;refine Je ?_
 (refine Ja ?_;intros)
 exact Yr J fun v h q=>q
def clC (fb xb:Nat) (x:AuA) (q:HP):HP:=hex fun _:Unit=>sl [pt fb (.cells Dc4 false [P0 xb]),Bo0 xb x,q]
instance {fb xb:Nat} {x:AuA} {q:HP}:Chk (clC fb xb x q) (fun _:Unit=>[pt fb (.cells Dc4 false [P0 xb]),Bo0 xb x,q]):=⟨rfl⟩
theorem Jt4 (fb xb:Nat) (F:Nat→FileS × Int) (x:AuA) (f:Int) (hf:f>0→∃ k:Nat,f=k+1∧k<12∧(F k).2=1):Ct A5 Av7 [int f,P0 fb] [clC fb xb x (jF x F)] fun v own=>v=.bool false∧own [clC fb xb x (jF x F)]:=by
 refine Ct.of Gd3 rfl fun h r=>Tr.eq (Gi9 ..) ?_;refine Je ?_
 refine B5 (clC fb xb x (jF x F)) fun u=>?_;refine Je ?_
 by_cases h1:f>0
 ·obtain ⟨k,h3,h4,h5⟩:=hf h1
  have e2:IntKind.wrap .i64 (f-1)=(k:Int):=by rw [B3];omega
  have J:=Hq0 12 x.a3 x.a4 x.c3 x.c4 (fun j=>(F j).2) k (by omega)
  rw [Int.toNat_natCast,h5] at J
  refine Yb (Yt (by simpa using h1) ?_)
  (refine Ja ?_;intros)
  refine Je ?_
  (refine Ja ?_;intros)
  rw [e2]
  refine Yc (J) ?_;rintro _ h ⟨rfl,o⟩<;>refine Jh o ?_
  (refine Ja ?_;intros)
  refine Ys fun o=>(?_:Tr _ _ _ _) o;refine Je ?_
  refine B4 (clC fb xb x (jF x F)) () ?_;refine Je ?_
  refine Ys fun o=>?_
  exact ⟨rfl,o.sub⟩
 ·refine Yb (Yf (by simpa using h1) ?_)
  refine Ys fun o=>(?_:Tr _ _ _ _) o;refine Je ?_
  refine B4 (clC fb xb x (jF x F)) () ?_;refine Je ?_
  refine Ys fun o=>?_
  exact ⟨rfl,o.sub⟩
theorem Hd3 (pb pr:HP) (a:Option Addr) (ro:Bool) (e:TypeId) (n c:Nat) (ds:List Int) (hn:ds.length=n) (h9:n≤100) [ks:IsSl pb a ro e 1 n c (ds.map int)] (g:FuncId) (cp:List Value) (hq:∀ d ∈ ds,Ct A5 g (int d::cp) [pr] fun v own=>v=.bool false∧own [pr]):∀ (m i:Nat),i+m=n →
  CtJ D8 D6 L9 [(0,.slice a n c),(1,.func (.func g) ⟨[]⟩ ⟨cp⟩),(7,int n),(8,int i)] [pb,pr] fun v own=>v=int (-1)∧own [pb,pr]
 | 0,i,hi=>by
  obtain rfl:i=n:=by omega
  refine CtJ.of G6 fun h r=>Tr.eq (L8 ..) ?_;refine Je ?_
  refine Yf (by simp) ?_
  (refine Ja ?_;intros)
  refine Ys fun o=>?_
  exact ⟨rfl,o.sub⟩
 | m+1,i,hi=>by
  have e1:=wN i
  have ih:=Hd3 pb pr a ro e n c ds hn h9 g cp hq m (i+1) (by omega)
  have hx:(ds.map int)[i]?=some (int (ds.getD i 0)):=Eu9 (by omega)
  have hm:=hq _ (Ag9 (l:=ds) (j:=i) (by omega))
  generalize ds.getD i 0=d at *
  refine CtJ.of G6 fun h r=>Tr.eq (L8 ..) ?_;refine Je ?_
  refine Yt (by simp;omega) ?_
  rw [e1]
  (refine Jb ?_;intros;repeat(refine Gw ?_;rintro px rfl;refine Jb ?_;intros))
  refine Yc (hm) ?_;rintro _ h ⟨rfl,o⟩<;>refine Jh o ?_
  (refine Jb ?_;intros)
  refine B9 [1,0] 0 rfl rfl ?_
  exact Yr ih fun v h q=>q
theorem H38 (pb pr:HP) (a:Option Addr) (ro:Bool) (e:TypeId) (n c:Nat) (ds:List Int) (hn:ds.length=n) (h9:n≤100) [ks:IsSl pb a ro e 1 n c (ds.map int)] (g:FuncId) (cp:List Value) (hq:∀ d ∈ ds,Ct A5 g (int d::cp) [pr] fun v own=>v=.bool false∧own [pr]) :
  Ct A5 E2 [.slice a n c,.func (.func g) ⟨[]⟩ ⟨cp⟩] [pb,pr] fun v own=>v=.bool false∧own [pb,pr]:=by
 have J:Ct A5 D6 [.slice a n c,.func (.func g) ⟨[]⟩ ⟨cp⟩] [pb,pr] fun v own=>v=int (-1)∧own [pb,pr]:=by
  have K:=Hd3 pb pr a ro e n c ds hn h9 g cp hq n 0 (Nat.zero_add _)
  refine Ct.of G6 rfl fun h r=>Tr.eq (At8 ..) ?_;refine Je ?_
  exact Yr K fun v h q=>q
 refine Ct.of Am6 rfl fun h r=>Tr.eq (Am3 ..) ?_;refine Je ?_
 refine Yc (J) ?_;rintro _ h ⟨rfl,o⟩<;>refine Jh o ?_
 (refine Jb ?_;intros)
 refine Ys fun o=>?_
 exact ⟨rfl,o.sub⟩
abbrev hd8 (p:ProcS):List Value:=[int p.state,int p.parent,int p.group,int p.code,int p.pending,int p.mask,int p.ignored,int p.caught]
theorem Jx0 (fb xb:Nat) (F:Nat→FileS × Int) (x:AuA) (p:ProcS) (hf:∀ f ∈ p.fds,f>0→∃ k:Nat,f=k+1∧k<12∧(F k).2=1):Ct A5 A54 [.agg ⟨B8 p⟩,P0 fb] [clC fb xb x (jF x F)] fun v own=>v=.bool false∧own [clC fb xb x (jF x F)]:=by
 refine Ct.of G88 rfl fun h r=>Tr.eq (G72 ..) ?_;refine Je ?_
 refine Yn fun b h=>?_
 (refine Jb ?_;intros)
 refine Gr1 0 rfl (hd8 p) (p.fds.map int) [] (by simp) 1 8 8 8 ⟨by simp [p.len],by omega,by simp,fun _=>rfl,by omega,fun h=>by omega⟩ ?_
 refine (?_:Tr (slX false A9 1 (some ⟨b,8,none⟩) 8 8 (hd8 p,[]) (p.fds.map int)::clC fb xb x (jF x F)::_) _ _ _)
 refine Yc (H38 (slX false A9 1 (some ⟨b,8,none⟩) 8 8 (hd8 p,[]) (p.fds.map int)) (clC fb xb x (jF x F)) (some ⟨b,8,none⟩) false A9 8 8 p.fds p.len (by omega) Av7 [P0 fb] (fun d hd=>Jt4 fb xb F x d (hf d hd))) ?_;rintro _ h ⟨rfl,o⟩<;>refine Jh o ?_
 (refine Jb ?_;intros)
 refine Ys fun o=>?_
 exact ⟨rfl,o.sub⟩
theorem Ha5 (pr:HP) (a:Option Addr) (c:Nat) (S:Nat→ProcS × Int) (g:FuncId) (cp:List Value) (hq:∀ i:Nat,i<8→Ct A5 g (.agg ⟨B8 (S i).1⟩::cp) [pr] fun v own=>v=.bool false∧own [pr]):∀ (m i:Nat),i+m=8 →
  CtJ D8 E1 O3 [(0,.slice a 8 c),(1,.func (.func g) ⟨[]⟩ ⟨cp⟩),(7,int 8),(8,int i)] [slC false A9 16 a 8 c (rS S),pr] fun v own=>v=int (-1)∧own [slC false A9 16 a 8 c (rS S),pr]
 | 0,i,hi=>by
  obtain rfl:i=8:=by omega
  refine CtJ.of Ac2 fun h r=>Tr.eq (An0 ..) ?_;refine Je ?_
  refine Yf (by simp) ?_
  (refine Ja ?_;intros)
  refine Ys fun o=>?_
  exact ⟨rfl,o.sub⟩
 | m+1,i,hi=>by
  have e1:=wN i
  have ih:=Ha5 pr a c S g cp hq m (i+1) (by omega)
  have hx:=Iz0 S (i:=i) (by omega)
  have hl:=H21 S
  have hm:=hq i (by omega)
  generalize (S i).1=p at *
  refine CtJ.of Ac2 fun h r=>Tr.eq (An0 ..) ?_;refine Je ?_
  refine Yt (by simp;omega) ?_
  rw [e1]
  (refine Jc ?_;intros;repeat(refine Gw ?_;rintro px rfl;refine Jc ?_;intros))
  rw [Int.toNat_natCast]
  refine Tr.xAggS (xs:=B8 p) ⟨by omega,by omega,hx⟩ ?_
  (refine Jb ?_;intros)
  refine Yc (hm) ?_;rintro _ h ⟨rfl,o⟩<;>refine Jh o ?_
  (refine Jb ?_;intros)
  refine B9 [1,0] 0 rfl rfl ?_
  exact Yr ih fun v h q=>q
theorem Ib0 (pr:HP) (a:Option Addr) (c:Nat) (S:Nat→ProcS × Int) (g:FuncId) (cp:List Value) (hq:∀ i:Nat,i<8→Ct A5 g (.agg ⟨B8 (S i).1⟩::cp) [pr] fun v own=>v=.bool false∧own [pr]) :
  Ct A5 O2 [.slice a 8 c,.func (.func g) ⟨[]⟩ ⟨cp⟩] [slC false A9 16 a 8 c (rS S),pr] fun v own=>v=.bool false∧own [slC false A9 16 a 8 c (rS S),pr]:=by
 have J:Ct A5 E1 [.slice a 8 c,.func (.func g) ⟨[]⟩ ⟨cp⟩] [slC false A9 16 a 8 c (rS S),pr] fun v own=>v=int (-1)∧own [slC false A9 16 a 8 c (rS S),pr]:=by
  have K:=Ha5 pr a c S g cp hq 8 0 (Nat.zero_add _)
  refine Ct.of Ac2 rfl fun h r=>Tr.eq (Bv5 ..) ?_;refine Je ?_
  exact Yr K fun v h q=>q
 refine Ct.of Bl9 rfl fun h r=>Tr.eq (Bm0 ..) ?_;refine Je ?_
 refine Yc (J) ?_;rintro _ h ⟨rfl,o⟩<;>refine Jh o ?_
 (refine Jb ?_;intros)
 refine Ys fun o=>?_
 exact ⟨rfl,o.sub⟩
theorem J08 (xb:Nat) (S:Nat→ProcS × Int) (F:Nat→FileS × Int) (P:Nat→PipeS × Int) (x:AuA) (A:SndB S F P):Ct A5 B48 [P0 xb] [Bo0 xb x,lS x S,jF x F] fun v own=>v=.bool false∧own [Bo0 xb x,lS x S,jF x F]:=by
 refine Ct.of Hn9 rfl fun h r=>Tr.eq (Hn3 ..) ?_;refine Je ?_
 refine Yn fun fb h=>?_
 (refine Jb ?_;intros)
 refine Je ?_
 (refine Jb ?_;intros)
 refine G1 (clC fb xb x (jF x F)) () [0,0,1] rfl ?_;refine Je ?_
 refine Yc (Ib0 (clC fb xb x (jF x F)) x.a1 x.c1 S A54 [P0 fb] (fun i hi=>Jx0 fb xb F x (S i).1 (A.fd i hi))) ?_;rintro _ h ⟨rfl,o⟩<;>refine Jh o ?_
 (refine Jb ?_;intros)
 refine B5 (clC fb xb x (jF x F)) fun u=>?_;refine Je ?_
 refine Ys fun o=>?_
 exact ⟨rfl,o.fin [1,2,1] 1 rfl rfl⟩
def Go1 (f:FileS):Bool:=(f.kind==1 || f.kind==2) && decide (f.pipe<4)
theorem I33 (f:FileS):Ct A5 Da4 [.agg ⟨Ab1 f⟩] [] fun v own=>v=.bool (Go1 f)∧own []:=by
 unfold Go1
 refine Ct.of Im9 rfl fun h r=>Tr.eq (Ii3 ..) ?_;refine Je ?_
 refine Yn fun b h=>?_
 (refine Jb ?_;intros)
 by_cases h1:f.kind=1
 ·refine Yb (Yt (by rw [beq_iff_eq];exact h1) ?_)
  refine Ys fun o=>(?_:Tr _ _ _ _) o;refine Je ?_
  refine Yb (Yt rfl ?_)
  (refine Jb ?_;intros)
  refine Ys fun o=>(?_:Tr _ _ _ _) o;refine Je ?_
  refine Ys fun o=>?_
  exact ⟨by simp [h1],o.sub⟩
 ·refine Yb (Yf (by rw [beq_eq_false_iff_ne];exact h1) ?_)
  (refine Jb ?_;intros)
  refine Ys fun o=>(?_:Tr _ _ _ _) o;refine Je ?_
  by_cases h2:f.kind=2
  ·refine Yb (Yt (by rw [beq_iff_eq];exact h2) ?_)
   (refine Jb ?_;intros)
   refine Ys fun o=>(?_:Tr _ _ _ _) o;refine Je ?_
   refine Ys fun o=>?_
   exact ⟨by simp [h2],o.sub⟩
  ·refine Yb (Yf (by rw [beq_eq_false_iff_ne];exact h2) ?_)
   refine Ys fun o=>(?_:Tr _ _ _ _) o;refine Je ?_
   refine Ys fun o=>?_
   exact ⟨by simp [h1,h2],o.sub⟩
theorem G52 (f:FileS):Go1 f=true↔(f.kind=1∨f.kind=2)∧f.pipe<4:=by unfold Go1;simp
theorem Jk7 (fb xb:Nat) (P:Nat→PipeS × Int) (x:AuA) (f:FileS) (hf:(f.kind=1∨f.kind=2)→∃ k:Nat,f.pipe=k∧k<4∧(P k).2=1):Ct A5 Aw2 [.agg ⟨Ab1 f⟩,P0 fb] [clC fb xb x (jP x P)] fun v own=>v=.bool false∧own [clC fb xb x (jP x P)]:=by
 refine Ct.of Gj7 rfl fun h r=>Tr.eq (Go4 ..) ?_;refine Je ?_
 refine Yn fun b h=>?_
 (refine Jb ?_;intros)
 refine Yc (I33 f) ?_;rintro _ h ⟨rfl,o⟩<;>refine Jh o ?_
 (refine Jb ?_;intros)
 by_cases h1:Go1 f=true
 ·obtain ⟨k,h3,h4,h5⟩:=hf ((G52 f).1 h1).1
  have J:=Hv6 4 x.a5 x.a6 x.c5 x.c6 (fun j=>(P j).2) k (by omega)
  rw [Int.toNat_natCast,h5] at J
  refine Yb (Yt h1 ?_)
  refine B5 (clC fb xb x (jP x P)) fun u=>?_;refine Je ?_
  (refine Jb ?_;intros)
  refine Je ?_
  (refine Jb ?_;intros)
  rw [h3]
  refine Yc (J) ?_;rintro _ h ⟨rfl,o⟩<;>refine Jh o ?_
  (refine Jb ?_;intros)
  refine Ys fun o=>(?_:Tr _ _ _ _) o;refine Je ?_
  refine G1 (clC fb xb x (jP x P)) () [1,1,0] rfl ?_;refine Je ?_
  refine Ys fun o=>?_
  exact ⟨rfl,o.sub⟩
 ·refine Yb (Yf (by simpa using h1) ?_)
  refine Ys fun o=>(?_:Tr _ _ _ _) o;refine Je ?_
  refine Ys fun o=>?_
  exact ⟨rfl,o.sub⟩
theorem Hg9 (pr:HP) (a:Option Addr) (c:Nat) (S:Nat→FileS × Int) (g:FuncId) (cp:List Value) (hq:∀ i:Nat,i<12→Ct A5 g (.agg ⟨Ab1 (S i).1⟩::cp) [pr] fun v own=>v=.bool false∧own [pr]):∀ (m i:Nat),i+m=12 →
  CtJ D8 E0 O4 [(0,.slice a 12 c),(1,.func (.func g) ⟨[]⟩ ⟨cp⟩),(7,int 12),(8,int i)] [slC false B7 4 a 12 c (rF S),pr] fun v own=>v=int (-1)∧own [slC false B7 4 a 12 c (rF S),pr]
 | 0,i,hi=>by
  obtain rfl:i=12:=by omega
  refine CtJ.of Ac4 fun h r=>Tr.eq (Am9 ..) ?_;refine Je ?_
  refine Yf (by simp) ?_
  (refine Ja ?_;intros)
  refine Ys fun o=>?_
  exact ⟨rfl,o.sub⟩
 | m+1,i,hi=>by
  have e1:=wN i
  have ih:=Hg9 pr a c S g cp hq m (i+1) (by omega)
  have hx:=Iu1 S (i:=i) (by omega)
  have hl:=H40 S
  have hm:=hq i (by omega)
  generalize (S i).1=p at *
  refine CtJ.of Ac4 fun h r=>Tr.eq (Am9 ..) ?_;refine Je ?_
  refine Yt (by simp;omega) ?_
  rw [e1]
  (refine Jc ?_;intros;repeat(refine Gw ?_;rintro px rfl;refine Jc ?_;intros))
  rw [Int.toNat_natCast]
  refine Tr.xAggS (xs:=Ab1 p) ⟨by omega,by omega,hx⟩ ?_
  (refine Jb ?_;intros)
  refine Yc (hm) ?_;rintro _ h ⟨rfl,o⟩<;>refine Jh o ?_
  (refine Jb ?_;intros)
  refine B9 [1,0] 0 rfl rfl ?_
  exact Yr ih fun v h q=>q
theorem H71 (pr:HP) (a:Option Addr) (c:Nat) (S:Nat→FileS × Int) (g:FuncId) (cp:List Value) (hq:∀ i:Nat,i<12→Ct A5 g (.agg ⟨Ab1 (S i).1⟩::cp) [pr] fun v own=>v=.bool false∧own [pr]) :
  Ct A5 O1 [.slice a 12 c,.func (.func g) ⟨[]⟩ ⟨cp⟩] [slC false B7 4 a 12 c (rF S),pr] fun v own=>v=.bool false∧own [slC false B7 4 a 12 c (rF S),pr]:=by
 have J:Ct A5 E0 [.slice a 12 c,.func (.func g) ⟨[]⟩ ⟨cp⟩] [slC false B7 4 a 12 c (rF S),pr] fun v own=>v=int (-1)∧own [slC false B7 4 a 12 c (rF S),pr]:=by
  have K:=Hg9 pr a c S g cp hq 12 0 (Nat.zero_add _)
  refine Ct.of Ac4 rfl fun h r=>Tr.eq (Bu5 ..) ?_;refine Je ?_
  exact Yr K fun v h q=>q
 refine Ct.of Bm2 rfl fun h r=>Tr.eq (Bm1 ..) ?_;refine Je ?_
 refine Yc (J) ?_;rintro _ h ⟨rfl,o⟩<;>refine Jh o ?_
 (refine Jb ?_;intros)
 refine Ys fun o=>?_
 exact ⟨rfl,o.sub⟩
theorem Js1 (xb:Nat) (S:Nat→ProcS × Int) (F:Nat→FileS × Int) (P:Nat→PipeS × Int) (x:AuA) (A:SndB S F P):Ct A5 Bn7 [P0 xb] [Bo0 xb x,lF x F,jP x P] fun v own=>v=.bool false∧own [Bo0 xb x,lF x F,jP x P]:=by
 refine Ct.of G74 rfl fun h r=>Tr.eq (G24 ..) ?_;refine Je ?_
 refine Yn fun fb h=>?_
 (refine Jb ?_;intros)
 refine Je ?_
 (refine Jb ?_;intros)
 refine G1 (clC fb xb x (jP x P)) () [0,0,1] rfl ?_;refine Je ?_
 refine Yc (H71 (clC fb xb x (jP x P)) x.a3 x.c3 F Aw2 [P0 fb] (fun i hi=>Jk7 fb xb P x (F i).1 (A.pipe i hi))) ?_;rintro _ h ⟨rfl,o⟩<;>refine Jh o ?_
 (refine Jb ?_;intros)
 refine B5 (clC fb xb x (jP x P)) fun u=>?_;refine Je ?_
 refine Ys fun o=>?_
 exact ⟨rfl,o.fin [1,2,1] 1 rfl rfl⟩
theorem Ju2 (kd j:Int) (f:FileS):N1 kd j f≤1:=by unfold N1;split<;>omega
theorem Eu0 (F:Nat→FileS × Int) (kd:Int) (j:Nat):∀ m,0≤A92 F kd j m∧A92 F kd j m≤m
 | 0=>⟨Int.le_refl 0,by simp [A92,Ds7]⟩
 | m+1=>by
  have h1:=Eu0 F kd j m
  have h2:=Ju2 kd j (F m).1
  have h3:=Gr2 kd j (F m).1
  unfold A92 at h1 ⊢;rw [Ds7];omega
abbrev G83 (xb:Nat) (x:AuA) (F:Nat→FileS × Int) (P:Nat→PipeS × Int):List HP:=[Bo0 xb x,lF x F,lP x P,jP x P]
theorem G99 (xb b:Nat) (S:Nat→ProcS × Int) (F:Nat→FileS × Int) (P:Nat→PipeS × Int) (x:AuA) (A:SndB S F P) (i:Nat) (hi:i<4) (K:CtJ D8 H8 As3 [(0,P0 xb),(13,.slice x.a5 4 x.c5),(14,int 4),(15,int ((i+1:Nat):Int))] (G83 xb x F P) fun v own=>v=.bool false∧own (G83 xb x F P)):∀ (m k:Nat),k+m=12 →
  CtJ D8 H8 Ai0 [(0,P0 xb),(3,int i),(4,P0 b),(5,int (A92 F 1 i k)),(6,int (A92 F 2 i k)),(13,.slice x.a5 4 x.c5),(14,int 4),(15,int i),(24,.slice x.a3 12 x.c3),(25,int 12),(26,int k)] [Bo0 xb x,lF x F,lP x P,jP x P,pt b (.cells D7 false (I6 (P i).1))] fun v own=>v=.bool false∧own (G83 xb x F P)
 | 0,k,hk=>by
  obtain rfl:k=12:=by omega
  have e1:=wN i
  have hp:=A.ends i hi
  have ht:=Hv6 4 x.a5 x.a6 x.c5 x.c6 (fun j=>(P j).2) i (by omega)
  have b1:=Eu0 F 1 i 12
  have b2:=Eu0 F 2 i 12
  rw [Int.toNat_natCast] at ht
  generalize A92 F 1 i 12=n1 at *
  generalize A92 F 2 i 12=n2 at *
  have e2:IntKind.wrap .i64 (n1+n2)=n1+n2:=by rw [B3];omega
  generalize (P i).1=p at *
  generalize (P i).2=z at *
  obtain ⟨a1,c1,a2,c2,a3,c3,a4,c4,a5,c5,a6,c6,a7,c7,a8,c8,a9,c9,a0,c0⟩:=x
  dsimp only at K ht ⊢
  refine CtJ.of A57 fun h r=>Tr.eq (Dr5 ..) ?_;refine Je ?_
  refine Yf (by simp) ?_
  (refine Jb ?_;unhygienic intros)
  refine Yc (ht) ?_;rintro _ h ⟨rfl,o⟩<;>refine Jh o ?_
  (refine Jb ?_;unhygienic intros)
  rw [e1,e2]
  by_cases h1:z=1
  ·obtain ⟨p1,p2,p3⟩:=hp h1
   refine Yb (Yt (by rw [beq_iff_eq];exact h1) ?_)
   (refine Jb ?_;unhygienic intros)
   refine Yb (Yf (by rw [p1];simp) ?_)
   (refine Jb ?_;unhygienic intros)
   refine Ys fun o=>(?_:Tr _ _ _ _) o;refine Je ?_
   refine Yb (Yf (by rw [p2];simp) ?_)
   refine Ys fun o=>(?_:Tr _ _ _ _) o;refine Je ?_
   refine Ys fun o=>(?_:Tr _ _ _ _) o;refine Je ?_
   refine Yf (by rw [beq_eq_false_iff_ne];exact p3) ?_
   refine B9 [1,1,1,0] 1 rfl rfl ?_
   exact Yr K fun v h q=>q
  ·refine Yb (Yf (by rw [beq_eq_false_iff_ne];exact h1) ?_)
   refine Ys fun o=>(?_:Tr _ _ _ _) o;refine Je ?_
   refine Yf rfl ?_
   refine B9 [1,1,1,0] 1 rfl rfl ?_
   exact Yr K fun v h q=>q
 | m+1,k,hk=>by
  have e1:=wN k
  have ih:=G99 xb b S F P x A i hi K m (k+1) (by omega)
  have hx:=Iu1 F (i:=k) (by omega)
  have hl:=H40 F
  have b1:=Eu0 F 1 i k
  have b2:=Eu0 F 2 i k
  have s1:A92 F 1 i (k+1)=A92 F 1 i k+N1 1 i (F k).1:=rfl
  have s2:A92 F 2 i (k+1)=A92 F 2 i k+N1 2 i (F k).1:=rfl
  rw [s1,s2] at ih
  clear s1 s2
  generalize A92 F 1 i k=n1 at *
  generalize A92 F 2 i k=n2 at *
  have e2:=wI n1
  have e3:=wI n2
  have ho:((F k).1.kind=1∨(F k).1.kind=2)∧(F k).1.pipe=i→Go1 (F k).1=true:=fun h=>(G52 _).2 ⟨h.1,by omega⟩
  have ho2:Go1 (F k).1=true→(F k).1.kind=1∨(F k).1.kind=2:=fun h=>((G52 _).1 h).1
  generalize (F k).1=f at *
  generalize (P i).1=p at *
  obtain ⟨a1,c1,a2,c2,a3,c3,a4,c4,a5,c5,a6,c6,a7,c7,a8,c8,a9,c9,a0,c0⟩:=x
  dsimp only at ih ⊢
  refine CtJ.of A57 fun h r=>Tr.eq (Dr5 ..) ?_;refine Je ?_
  refine Yt (by simp;omega) ?_
  rw [e1,e2,e3]
  (refine Jc ?_;unhygienic intros;repeat(refine Gw ?_;rintro px rfl;refine Jc ?_;unhygienic intros))
  rw [Int.toNat_natCast]
  refine Tr.xAggS (xs:=Ab1 f) ⟨by omega,by omega,hx⟩ ?_
  refine Yn fun b2 h=>?_
  (refine Jb ?_;unhygienic intros)
  refine Yc (I33 f) ?_;rintro _ h ⟨rfl,o⟩<;>refine Jh o ?_
  (refine Jb ?_;unhygienic intros)
  by_cases h1:Go1 f=true
  ·refine Yb (Yf (by rw [h1];rfl) ?_)
   (refine Jb ?_;unhygienic intros)
   refine Ys fun o=>(?_:Tr _ _ _ _) o;refine Je ?_
   by_cases h2:f.pipe=i
   ·refine Yf (by rw [h2];simp) ?_
    (refine Jb ?_;unhygienic intros)
    by_cases h3:f.kind=1
    ·refine Yt (by rw [beq_iff_eq];exact h3) ?_
     have o1:N1 1 i f=1:=by unfold N1;rw [if_pos ⟨h3,h2⟩]
     have o2:N1 2 i f=0:=by unfold N1;rw [if_neg (by omega)]
     rw [o1,o2,Int.add_zero] at ih
     refine B9 [1,1,1,1,1] 1 rfl rfl ?_
     exact Yr ih fun v h q=>q
    ·refine Yf (by rw [beq_eq_false_iff_ne];exact h3) ?_
     have o1:N1 1 i f=0:=by unfold N1;rw [if_neg (by omega)]
     have o2:N1 2 i f=1:=by unfold N1;rw [if_pos ⟨(ho2 h1).resolve_left h3,h2⟩]
     rw [o1,o2,Int.add_zero] at ih
     refine B9 [1,1,1,1,1] 1 rfl rfl ?_
     exact Yr ih fun v h q=>q
   ·refine Yt (by rw [bne_iff_ne];exact h2) ?_
    have o1:N1 1 i f=0:=by unfold N1;rw [if_neg (by omega)]
    have o2:N1 2 i f=0:=by unfold N1;rw [if_neg (by omega)]
    rw [o1,o2,Int.add_zero,Int.add_zero] at ih
    refine B9 [1,1,1,1,1] 1 rfl rfl ?_
    exact Yr ih fun v h q=>q
  ·refine Yb (Yt (by simpa using h1) ?_)
   refine Ys fun o=>(?_:Tr _ _ _ _) o;refine Je ?_
   refine Yt rfl ?_
   have o1:N1 1 i f=0:=by unfold N1;rw [if_neg (fun h=>h1 (ho ⟨.inl h.1,h.2⟩))]
   have o2:N1 2 i f=0:=by unfold N1;rw [if_neg (fun h=>h1 (ho ⟨.inr h.1,h.2⟩))]
   rw [o1,o2,Int.add_zero,Int.add_zero] at ih
   refine B9 [1,1,1,1,1] 1 rfl rfl ?_
   exact Yr ih fun v h q=>q
theorem Ha1 (xb:Nat) (S:Nat→ProcS × Int) (F:Nat→FileS × Int) (P:Nat→PipeS × Int) (x:AuA) (A:SndB S F P):∀ (m i:Nat),i+m=4 →
  CtJ D8 H8 As3 [(0,P0 xb),(13,.slice x.a5 4 x.c5),(14,int 4),(15,int i)] (G83 xb x F P) fun v own=>v=.bool false∧own (G83 xb x F P)
 | 0,i,hi=>by
  obtain rfl:i=4:=by omega
  refine CtJ.of A57 fun h r=>Tr.eq (Dr6 ..) ?_;refine Je ?_
  refine Yf (by simp) ?_
  refine Ys fun o=>?_
  exact ⟨rfl,o.sub⟩
 | m+1,i,hi=>by
  have J:=fun b=>G99 xb b S F P x A i (by omega) (Ha1 xb S F P x A m (i+1) (by omega)) 12 0 rfl
  have hx:=J15 P (i:=i) (by omega)
  have hl:=Jx7 P
  have z1:A92 F 1 i 0=0:=rfl
  have z2:A92 F 2 i 0=0:=rfl
  rw [z1,z2] at J
  clear z1 z2
  have hq:(I6 (P i).1).length=36:=Bc5 (P i).1.len
  generalize (P i).1=p at *
  obtain ⟨a1,c1,a2,c2,a3,c3,a4,c4,a5,c5,a6,c6,a7,c7,a8,c8,a9,c9,a0,c0⟩:=x
  dsimp only at J ⊢
  refine CtJ.of A57 fun h r=>Tr.eq (Dr6 ..) ?_;refine Je ?_
  refine Yt (by simp;omega) ?_
  (refine Jc ?_;unhygienic intros;repeat(refine Gw ?_;rintro px rfl;refine Jc ?_;unhygienic intros))
  rw [Int.toNat_natCast]
  refine Tr.xAggS (xs:=I6 p) ⟨by omega,by omega,hx⟩ ?_
  refine Yn fun b2 h=>?_
  (refine Jb ?_;unhygienic intros)
  refine B9 [1,1,1,1,0] 0 rfl rfl ?_
  exact Yr (J b2) fun v h q=>q
theorem Jq6 (xb:Nat) (S:Nat→ProcS × Int) (F:Nat→FileS × Int) (P:Nat→PipeS × Int) (x:AuA) (A:SndB S F P):Ct A5 H8 [P0 xb] (G83 xb x F P) fun v own=>v=.bool false∧own (G83 xb x F P):=by
 have J:=Ha1 xb S F P x A 4 0 rfl
 obtain ⟨a1,c1,a2,c2,a3,c3,a4,c4,a5,c5,a6,c6,a7,c7,a8,c8,a9,c9,a0,c0⟩:=x
 dsimp only at J ⊢
 refine Ct.of A57 rfl fun h r=>Tr.eq (G30 ..) ?_;refine Je ?_
 (refine Ja ?_;unhygienic intros)
 exact Yr J fun v h q=>q
theorem Gg3 (a:Option Addr) (c:Nat) (ns:Nat→ByteArray):∀ (m i:Nat),i+m=5 →
  CtJ D8 Ag0 A03 [(4,.slice none 0 0),(29,.slice a 5 c),(30,int 5),(31,int i)] [slC false As0 2 a 5 c ((List.range 5).flatMap fun i=>[.string (ns i),.bool false])] fun v own=>v=.slice none 0 0∧own []
 | 0,i,hi=>by
  obtain rfl:i=5:=by omega
  refine CtJ.of Du0 fun h r=>Tr.eq (D61 ..) ?_;refine Je ?_
  refine Yf (by simp) ?_
  refine Ys fun o=>?_
  exact ⟨rfl,o.sub⟩
 | m+1,i,hi=>by
  have e1:=wN i
  have ih:=Gg3 a c ns m (i+1) (by omega)
  have hx:=Ak0 (f:=fun i=>[Value.string (ns i),.bool false]) (k:=2) (fun x=>rfl) (En9 (n:=5) (i:=i) (by omega))
  have hl:=O7 (f:=fun i=>[Value.string (ns i),.bool false]) (k:=2) (fun x=>rfl) (List.range 5)
  rw [List.length_range] at hl
  generalize ((List.range 5).flatMap fun i=>[Value.string (ns i),.bool false])=cs at *
  refine CtJ.of Du0 fun h r=>Tr.eq (D61 ..) ?_;refine Je ?_
  refine Yt (by simp;omega) ?_
  rw [e1]
  (refine Jc ?_;unhygienic intros;repeat(refine Gw ?_;rintro px rfl;refine Jc ?_;unhygienic intros))
  rw [Int.toNat_natCast]
  refine Tr.xAggS (xs:=[.string (ns i),.bool false]) ⟨by omega,by omega,hx⟩ ?_
  refine Yn fun b2 h=>?_
  (refine Jb ?_;unhygienic intros)
  refine B9 [1] 1 rfl rfl ?_
  exact Yr ih fun v h q=>q
def nsF (i:Nat):ByteArray:=[ByteArray.mk ⟨[112,97,114,101,110,116]⟩,ByteArray.mk ⟨[102,100]⟩,ByteArray.mk ⟨[114,101,102,115]⟩,ByteArray.mk ⟨[112,105,112,101]⟩,ByteArray.mk ⟨[101,110,100,115]⟩].getD i ⟨⟨[]⟩⟩
theorem I79 (a:Option Addr) (cc:Nat) (l:List UInt8) (N:NoBad l) (A:SndB (auS l) (auF l) (auP l)):Ct A5 Ag0 [.slice a l.length cc] [slC false A3 1 a l.length cc (A0 l)] fun v own=>v=.slice none 0 0∧own [slC false A3 1 a l.length cc (A0 l)]:=by
 refine Ct.of Du0 rfl fun h r=>Tr.eq (Ho8 ..) ?_;refine Je ?_
 refine Yc (Jp8 a cc l N) ?_;rintro _ h ⟨rfl,o⟩<;>refine Jh o ?_
 (refine Jb ?_;unhygienic intros)
 refine Yc (Jm7 a cc l N.len) ?_
 rintro _ h ⟨xb,a1,c1,a2,c2,a3,c3,a4,c4,a5,c5,a6,c6,a7,c7,a8,c8,a9,c9,a0,c0,rfl,o⟩
 obtain ⟨x,hx⟩:∃ x:AuA,x=⟨a1,c1,a2,c2,a3,c3,a4,c4,a5,c5,a6,c6,a7,c7,a8,c8,a9,c9,a0,c0⟩:=⟨_,rfl⟩
 have o2:Own h (slC false A3 1 a l.length cc (A0 l)::Bo0 xb x::lS x (auS l)::jS x (auS l)::lF x (auF l)::jF x (auF l)::lP x (auP l)::jP x (auP l)::slC false A6 1 a8 1 c8 (isL 1 fun j=>(auT l j).2)::slC false A6 1 a0 1 c0 (isL 1 fun j=>(auG l j).2)::r):=by rw [hx];exact o
 clear o hx
 refine (?_:Tr _ _ _ _) o2
 (refine Jb ?_;unhygienic intros)
 refine Yc (I55 xb (auS l) (auF l) (auP l) x A) ?_;rintro _ h ⟨rfl,o⟩<;>refine Jh o ?_
 (refine Jb ?_;unhygienic intros)
 refine Yc (J08 xb (auS l) (auF l) (auP l) x A) ?_;rintro _ h ⟨rfl,o⟩<;>refine Jh o ?_
 (refine Jb ?_;unhygienic intros)
 refine Yc (Js7 xb (auS l) (auF l) (auP l) x A) ?_;rintro _ h ⟨rfl,o⟩<;>refine Jh o ?_
 (refine Jb ?_;unhygienic intros)
 refine Yc (Js1 xb (auS l) (auF l) (auP l) x A) ?_;rintro _ h ⟨rfl,o⟩<;>refine Jh o ?_
 (refine Jb ?_;unhygienic intros)
 refine Yc (Jq6 xb (auS l) (auF l) (auP l) x A) ?_;rintro _ h ⟨rfl,o⟩<;>refine Jh o ?_
 (refine Jb ?_;unhygienic intros)
 refine Ai1 0 rfl 2 5 rfl (by omega) ?_
 refine B9 [0,7] 9 rfl rfl ?_
 refine (?_:Tr (slC false As0 2 (some ⟨b,0,none⟩) 5 5 ((List.range 5).flatMap fun i=>[.string (nsF i),.bool false])::slC false A3 1 a l.length cc (A0 l)::r) _ _ _)
 refine Yr (Gg3 (some ⟨b,0,none⟩) 5 nsF 5 0 rfl) ?_
 rintro v h ⟨rfl,o⟩
 exact ⟨rfl,o⟩
theorem Jd3 (a:Option Addr) (cc:Nat) (l:List UInt8) (N:NoBad l) (A:SndB (auS l) (auF l) (auP l)):Ct A5 Db3 [.slice a l.length cc] [slC false A3 1 a l.length cc (A0 l)] fun v own=>v=.bool true∧own [slC false A3 1 a l.length cc (A0 l)]:=by
 refine Ct.of Hx4 rfl fun h r=>Tr.eq (Hy8 ..) ?_;refine Je ?_
 refine Yc (I79 a cc l N A) ?_;rintro _ h ⟨rfl,o⟩<;>refine Jh o ?_
 (refine Jb ?_;unhygienic intros)
 refine Ys fun o=>?_
 exact ⟨rfl,o.sub⟩
def Is0 (V:VW) (n:Int):List (Int × ProcS)→VW
 | []=>V
 | s::l=>Is0 (if Ib4 s.2 n then wS V s.1 (Ey3 s.2 n) else V) n l
theorem See.kill {n:Int}:∀ (L:List (Int × ProcS)) {X:CX} {V:VW},I44 L→See X V→See (Gs6 X n L) (Is0 V n L)
 | [],X,V,_,A=>A
 | s::l,X,V,h,A=>by
  obtain ⟨h1,h2,h3⟩:=h s (by simp)
  rw [Gs6,Is0]
  refine See.kill l (fun x hx=>h x (by simp [hx])) ?_
  by_cases hc:Ib4 s.2 n
  ·obtain ⟨r1,r2⟩:=H44 h2 h3 hc
   rw [if_pos hc,if_pos hc];exact A.ws h1 r1 r2
  ·rw [if_neg hc,if_neg hc];exact A
structure NoS (X X':CX) (i:Int):Prop where
 look:Gq6 X=X'
 none:En6 X' i=((.zero,2),X')
theorem Je9 {nc:Nat} {i:Int} (h:¬ (0≤i∧i<8)):E7 nc ⟨1,i⟩=none:=by
 unfold E7;rw [if_pos (by simp [J8];omega)]
theorem NoS.out {nc:Nat} {X:CX} (c:Clean nc X) {i:Int} (h:¬ (0≤i∧i<8)):NoS X X i :=
 ⟨D96 c,by show Aa7 N8 _ _ _=_;unfold Aa7 rdX;rw [Je9 h]⟩
section
variable (b k:Nat) (F:Fr) (ok:FrOk F) {X X':CX} {i:Int} (N:NoS X X' i)
include ok N
theorem Dt5:Ct A5 Af2 [P0 b,int i] [cmC b k F X] fun v own=>v=.tuple ⟨[.agg ⟨J09⟩,int 105]⟩∧own [cmC b k F X']:=by
 refine Ct.of Gy0 rfl fun h r=>Tr.eq (Gv9 ..) ?_;refine Je ?_
 (refine Jc ?_;intros)
 refine Yn fun b0 h=>?_
 refine Yc (Gq4 b k F X ok) ?_;rintro _ h ⟨rfl,o⟩<;>refine Jh o ?_
 rw [N.look]
 (refine Ja ?_;intros)
 refine Yc (B21 b k F X' ok i) ?_;rintro _ h ⟨rfl,o⟩<;>refine Jh o ?_
 rw [N.none]
 dsimp only
 (refine Jc ?_;intros)
 refine Yn fun b1 h=>?_
 (refine Jb ?_;intros)
 refine Tr.orG (c:=true) (fun hb=>?_) ?_
 ·exact Jz
 refine Yt (by simp) ?_
 (refine Ja ?_;intros)
 refine Ys fun o=>?_
 exact ⟨rfl,o.sub⟩
theorem Jh4:Ct A5 Bt7 [P0 b,int i] [cmC b k F X] fun v own=>v=.agg ⟨E5 0 105 false⟩∧own [cmC b k F X']:=by
 refine Ct.of Gw2 rfl fun h r=>Tr.eq (Gx9 ..) ?_;refine Je ?_
 refine Yn fun b0 h=>?_
 refine Yc (Dt5 b k F ok N) ?_;rintro _ h ⟨rfl,o⟩<;>refine Jh o ?_
 (refine Jc ?_;intros)
 refine Yn fun b1 h=>?_
 (refine Ja ?_;intros)
 refine Yt rfl ?_
 refine Yc (Bk8 105) ?_;rintro _ h ⟨rfl,o⟩<;>(refine Jf o ?_;intros)
 refine Ys fun o=>?_
 exact ⟨rfl,o.sub⟩
theorem Jh5 (code:Int):Ct A5 Bt8 [P0 b,int i,int code] [cmC b k F X] fun v own=>v=.agg ⟨E5 0 105 false⟩∧own [cmC b k F X']:=by
 refine Ct.of Gw1 rfl fun h r=>Tr.eq (G10 ..) ?_;refine Je ?_
 refine Yn fun b0 h=>?_
 refine Yc (Dt5 b k F ok N) ?_;rintro _ h ⟨rfl,o⟩<;>refine Jh o ?_
 (refine Jc ?_;intros)
 refine Yn fun b1 h=>?_
 (refine Jb ?_;intros)
 refine Yt rfl ?_
 refine Yc (Bk8 105) ?_;rintro _ h ⟨rfl,o⟩<;>(refine Jf o ?_;intros)
 refine Ys fun o=>?_
 exact ⟨rfl,o.sub⟩
theorem Je2:Ct A5 An2 [P0 b,int i] [cmC b k F X] fun v own=>v=.agg ⟨E5 0 105 false⟩∧own [cmC b k F X']:=by
 refine Ct.of Dy6 rfl fun h r=>Tr.eq (Gv8 ..) ?_;refine Je ?_
 refine Yn fun b0 h=>?_
 refine Yn fun b4 h=>?_
 (refine Ja ?_;intros)
 refine Yc (Dt5 b k F ok N) ?_;rintro _ h ⟨rfl,o⟩<;>refine Jh o ?_
 (refine Jc ?_;intros)
 refine Yn fun b1 h=>?_
 (refine Jb ?_;intros)
 refine Yt rfl ?_
 refine Yc (Bk8 105) ?_;rintro _ h ⟨rfl,o⟩<;>(refine Jf o ?_;intros)
 refine Ys fun o=>?_
 exact ⟨rfl,o.sub⟩
end
section
variable (b k:Nat) (F:Fr) (ok:FrOk F) {X X':CX} {i:Int} (N:NoS X X' i)
include ok N
theorem Id7 (fd:Int):Ct A5 B02 [P0 b,int i,int fd] [cmC b k F X] fun v own=>v=.tuple ⟨[int 0,.agg ⟨Ab1 .zero⟩,int 105]⟩∧own [cmC b k F X']:=by
 refine Ct.of H70 rfl fun h r=>Tr.eq (Ie1 ..) ?_;refine Je ?_
 (refine Jc ?_;intros)
 refine Yn fun b0 h=>?_
 refine Yc (Dt5 b k F ok N) ?_;rintro _ h ⟨rfl,o⟩<;>refine Jh o ?_
 (refine Jc ?_;intros)
 refine Yn fun b2 h=>?_
 (refine Jb ?_;intros)
 refine Yt rfl ?_
 (refine Ja ?_;intros)
 refine Ys fun o=>?_
 exact ⟨rfl,o.sub⟩
theorem Jk2:Ct A5 Bq1 [P0 b,int i] [cmC b k F X] fun v own=>v=.agg ⟨E5 0 105 false⟩∧own [cmC b k F X']:=by
 refine Ct.of Hg2 rfl fun h r=>Tr.eq (Ha2 ..) ?_;refine Je ?_
 refine Yn fun bh h=>?_
 refine Yn fun b0 h=>?_
 (refine Ja ?_;intros)
 refine Yc (Dt5 b k F ok N) ?_;rintro _ h ⟨rfl,o⟩<;>refine Jh o ?_
 (refine Jc ?_;intros)
 refine Yn fun b1 h=>?_
 (refine Jb ?_;intros)
 refine Yt rfl ?_
 refine Yc (P7 105) ?_;rintro _ h ⟨rfl,o⟩<;>(refine Jf o ?_;intros)
 refine Ys fun o=>?_
 exact ⟨rfl,o.sub⟩
theorem I91 (fd:Int):Ct A5 A41 [P0 b,int i,int fd] [cmC b k F X] fun v own=>v=.agg ⟨E5 0 105 false⟩∧own [cmC b k F X']:=by
 refine Ct.of Gx1 rfl fun h r=>Tr.eq (Gx2 ..) ?_;refine Je ?_
 (refine Jc ?_;intros)
 refine Yn fun b0 h=>?_
 refine Yc (Dt5 b k F ok N) ?_;rintro _ h ⟨rfl,o⟩<;>refine Jh o ?_
 (refine Jc ?_;intros)
 refine Yn fun b1 h=>?_
 (refine Jb ?_;intros)
 refine Yt rfl ?_
 refine Yc (P7 105) ?_;rintro _ h ⟨rfl,o⟩<;>(refine Jf o ?_;intros)
 refine Ys fun o=>?_
 exact ⟨rfl,o.sub⟩
theorem Jp9 (fd:Int):Ct A5 Dh2 [P0 b,int i,int fd] [cmC b k F X] fun v own=>v=.agg ⟨E5 0 105 false⟩∧own [cmC b k F X']:=by
 refine Ct.of Hs4 rfl fun h r=>Tr.eq (Hv4 ..) ?_;refine Je ?_
 (refine Jc ?_;intros)
 refine Yn fun b0 h=>?_
 refine Yc (Id7 b k F ok N fd) ?_;rintro _ h ⟨rfl,o⟩<;>refine Jh o ?_
 (refine Jc ?_;intros)
 refine Yn fun b1 h=>?_
 (refine Jb ?_;intros)
 refine Yt rfl ?_
 refine Yc (P7 105) ?_;rintro _ h ⟨rfl,o⟩<;>(refine Jf o ?_;intros)
 refine Ys fun o=>?_
 exact ⟨rfl,o.sub⟩
theorem Jf7 (fd to:Int):Ct A5 B41 [P0 b,int i,int fd,int to] [cmC b k F X] fun v own=>v=.agg ⟨E5 0 105 false⟩∧own [cmC b k F X']:=by
 refine Ct.of Hh8 rfl fun h r=>Tr.eq (Hg5 ..) ?_;refine Je ?_
 (refine Jc ?_;intros)
 refine Yn fun b0 h=>?_
 refine Yc (Id7 b k F ok N fd) ?_;rintro _ h ⟨rfl,o⟩<;>refine Jh o ?_
 (refine Jc ?_;intros)
 refine Yn fun b1 h=>?_
 (refine Jb ?_;intros)
 refine Yt rfl ?_
 refine Yc (P7 105) ?_;rintro _ h ⟨rfl,o⟩<;>(refine Jf o ?_;intros)
 refine Ys fun o=>?_
 exact ⟨rfl,o.sub⟩
theorem Jr2 (fd on:Int):Ct A5 Dh1 [P0 b,int i,int fd,int on] [cmC b k F X] fun v own=>v=.agg ⟨E5 0 105 false⟩∧own [cmC b k F X']:=by
 refine Ct.of Hs2 rfl fun h r=>Tr.eq (Hs5 ..) ?_;refine Je ?_
 (refine Jc ?_;intros)
 refine Yn fun b0 h=>?_
 refine Yc (Id7 b k F ok N fd) ?_;rintro _ h ⟨rfl,o⟩<;>refine Jh o ?_
 (refine Jc ?_;intros)
 refine Yn fun b1 h=>?_
 (refine Jb ?_;intros)
 refine Yt rfl ?_
 refine Yc (P7 105) ?_;rintro _ h ⟨rfl,o⟩<;>(refine Jf o ?_;intros)
 refine Ys fun o=>?_
 exact ⟨rfl,o.sub⟩
end
theorem J25:Snd V1 (-1):=by
 have hS:∀ j,V1.S j=if j=0 then (p0,1) else (.zero,0):=fun _=>rfl
 have hF:∀ j,V1.F j=if j=0 then (f0,1) else (.zero,0):=fun _=>rfl
 have hP:∀ j:Int,j<4→V1.P j=(.zero,0):=fun j h=>if_pos h
 refine ⟨fun i a b=>?_,fun f a b=>?_,fun j a b=>.inl (hP j (by omega)),fun i a b h=>?_,fun i a b f hf h0=>?_,fun f a b h=>?_,by omega,fun f a b h=>?_,fun j a b h=>?_⟩
 ·rw [hS];split
  ·exact .inr ⟨rfl,rfl⟩
  ·exact .inl rfl
 ·rw [hF];split
  ·exact .inr ⟨rfl,rfl,.inl rfl⟩
  ·exact .inl rfl
 ·rw [hS] at h
  split at h
  ·exact absurd h (by decide)
  ·exact absurd h (by decide)
 ·rw [hS] at hf
  split at hf
  ·have:f ∈ ([1,0,0,0,0,0,0,0]:List Int):=hf
   simp at this
   have:f=1:=by omega
   subst this;rfl
  ·have:f ∈ Ax1:=hf
   simp at this;omega
 ·rw [hF] at h ⊢
  split at h
  ·rename_i e;subst e;rfl
  ·cases h
 ·rw [hF] at h
  split at h
  ·exact absurd h (by decide)
  ·exact absurd h (by decide)
 ·rw [hP j b] at h;cases h
theorem sx1:SX X1:=⟨V1,Jj8,J25⟩
theorem Ct.imp {call:D9} {f:FuncId} {vs:List Value} {l:List HP} {Q Q':Value→(List HP→Prop)→Prop} (J:Ct call f vs l Q) (k:∀ v own,Q v own→Q' v own):Ct call f vs l Q':=fun h r o =>
 Wp.mono (J h r o) fun v h' q=>k v _ q
abbrev SXQ (b k:Nat) (v:Value) (own:List HP→Prop):Prop:=∃ L X',v=.agg ⟨L⟩∧SX X'∧own [cmC b k F1 X']
section
variable (b k:Nat) {X:CX} (H:SX X)
include H
theorem SX.c:Clean 3 X:=by
 obtain ⟨V,A,_⟩:=H
 exact A.c
theorem Jf6 (i:Int):Ct A5 Bt7 [P0 b,int i] [cmC b k F1 X] (SXQ b k):=by
 by_cases hi:0≤i∧i<8
 ·exact Ct.imp (Jq9 b k F1 X Au8 H.c i hi) fun v own q=>⟨_,_,q.1,H.fork hi,q.2⟩
 ·exact Ct.imp (Jh4 b k F1 Au8 (NoS.out H.c hi)) fun v own q=>⟨_,_,q.1,H,q.2⟩
theorem Jc9 (i code:Int):Ct A5 Bt8 [P0 b,int i,int code] [cmC b k F1 X] (SXQ b k):=by
 by_cases hi:0≤i∧i<8
 ·exact Ct.imp (Jp4 b k F1 X Au8 H.c i code hi) fun v own q=>⟨_,_,q.1,H.exit hi code,q.2⟩
 ·exact Ct.imp (Jh5 b k F1 Au8 (NoS.out H.c hi) code) fun v own q=>⟨_,_,q.1,H,q.2⟩
theorem Ji0 (i:Int):Ct A5 An2 [P0 b,int i] [cmC b k F1 X] (SXQ b k):=by
 by_cases hi:0≤i∧i<8
 ·exact Ct.imp (Jt5 b k F1 X Au8 H.c i hi) fun v own q=>⟨_,_,q.1,H.wait hi,q.2⟩
 ·exact Ct.imp (Je2 b k F1 Au8 (NoS.out H.c hi)) fun v own q=>⟨_,_,q.1,H,q.2⟩
end
structure Op4 where
 k:Int
 i:Int
 a:Int
 b:Int
abbrev Gh4 (x:Op4):List Value:=[int x.k,int x.i,int x.a,int x.b]
section
variable (b k:Nat) {X:CX} (H:SX X)
include H
theorem I53 (i:Int):Ct A5 Bq1 [P0 b,int i] [cmC b k F1 X] (SXQ b k):=by
 by_cases hi:0≤i∧i<8
 ·exact Ct.imp (Ie8 b k F1 X Au8 H.c i hi) fun v own q=>⟨_,_,q.1,H.pipe hi,q.2⟩
 ·exact Ct.imp (Jk2 b k F1 Au8 (NoS.out H.c hi)) fun v own q=>⟨_,_,q.1,H,q.2⟩
theorem Iu3 (i fd:Int):Ct A5 A41 [P0 b,int i,int fd] [cmC b k F1 X] (SXQ b k):=by
 by_cases hi:0≤i∧i<8
 ·exact Ct.imp (Ge0 b k F1 X Au8 H.c i fd hi) fun v own q=>⟨_,_,q.1,H.closeFd hi fd,q.2⟩
 ·exact Ct.imp (I91 b k F1 Au8 (NoS.out H.c hi) fd) fun v own q=>⟨_,_,q.1,H,q.2⟩
theorem Jf2 (i fd:Int):Ct A5 Dh2 [P0 b,int i,int fd] [cmC b k F1 X] (SXQ b k):=by
 by_cases hi:0≤i∧i<8
 ·exact Ct.imp (Jq2 b k F1 X Au8 H.c i fd hi) fun v own q=>⟨_,_,q.1,H.dup hi fd,q.2⟩
 ·exact Ct.imp (Jp9 b k F1 Au8 (NoS.out H.c hi) fd) fun v own q=>⟨_,_,q.1,H,q.2⟩
theorem Jb7 (i fd to:Int):Ct A5 B41 [P0 b,int i,int fd,int to] [cmC b k F1 X] (SXQ b k):=by
 by_cases hi:0≤i∧i<8
 ·exact Ct.imp (Jg0 b k F1 X Au8 H.c i fd to hi) fun v own q=>⟨_,_,q.1,H.dup2 hi fd to,q.2⟩
 ·exact Ct.imp (Jf7 b k F1 Au8 (NoS.out H.c hi) fd to) fun v own q=>⟨_,_,q.1,H,q.2⟩
theorem Jk6 (i fd on:Int):Ct A5 Dh1 [P0 b,int i,int fd,int on] [cmC b k F1 X] (SXQ b k):=by
 by_cases hi:0≤i∧i<8
 ·obtain ⟨V,A,B⟩:=H
  exact Ct.imp (Jr9 b k F1 X Au8 V A i fd on hi) fun v own ⟨X',C,q1,q2⟩=>⟨_,X',q1,⟨_,C,B.now hi fd on⟩,q2⟩
 ·exact Ct.imp (Jr2 b k F1 Au8 (NoS.out H.c hi) fd on) fun v own q=>⟨_,_,q.1,H,q.2⟩
end
abbrev Jk5 (a:Option Addr) (c:Nat) (xs:List Op4):HP:=slC true Dm6 4 a xs.length c (xs.flatMap Gh4)
abbrev Ib2 (k c:Nat) (a:Option Addr) (lc:Nat) (xs:List Op4) (i:Nat):Prop :=
 ∀ X,SX X→CtJ D8 D2 A81 [(0,.slice a xs.length lc),(3,P0 k),(4,P0 c),(7,int i)] [cmC c k F1 X,Jk5 a lc xs] fun v own=>v=.bool true∧own []
theorem Jh1 (k c:Nat) (a:Option Addr) (lc:Nat) (xs:List Op4) (i:Nat) (hi:i<60) (K:Ib2 k c a lc xs (i+1)) (X:CX) (H:SX X) :
  CtJ D8 D2 N5 [(0,.slice a xs.length lc),(3,P0 k),(4,P0 c),(7,int i)] [cmC c k F1 X,Jk5 a lc xs] fun v own=>v=.bool true∧own []:=by
 have e1:=wN i
 have ih:=K X H
 obtain ⟨hc,sn⟩:=H.snd
 have J:=fun y d=>Jd3 y d _ (Jd5 hc) sn
 rw [hc.own] at J
 refine CtJ.of Bo1 fun h r=>Tr.eq (Gb9 ..) ?_;refine Je ?_
 refine Jx3 c k X fun y d h=>?_
 refine Je ?_
 (refine Jb ?_;unhygienic intros)
 refine Yb (Yf rfl ?_)
 refine Yc (J y d) ?_;rintro _ h ⟨rfl,o⟩<;>refine Jh o ?_
 (refine Jb ?_;unhygienic intros)
 refine Ys fun o=>(?_:Tr _ _ _ _) o;refine Je ?_
 refine Yb (Yf rfl ?_)
 refine Yc (Jm1 c k F1 X Au8) ?_;rintro _ h ⟨a1,c1,rfl,o⟩<;>refine Jh o ?_
 rw [hc.bad,I30] at o ⊢
 (refine Jb ?_;unhygienic intros)
 refine Ys fun o=>(?_:Tr _ _ _ _) o;refine Je ?_
 refine Yf rfl ?_
 rw [e1]
 refine B9 [1,2] 2 rfl rfl ?_
 exact Yr ih fun v h q=>q
theorem Je7 (k c:Nat) (a:Option Addr) (lc:Nat) (xs:List Op4):∀ (m i:Nat),i+m=60→Ib2 k c a lc xs i:=by
 have fin:∀ (i:Nat),¬ (i<xs.length∧i<60)→Ib2 k c a lc xs i:=by
  intro i hi X H
  refine CtJ.of Bo1 fun h r=>Tr.eq (Ds0 ..) ?_;refine Je ?_
  (refine Jb ?_;unhygienic intros)
  refine Tr.andG (c:=decide ((i:Int)<60)) (fun hb=>?_) ?_
  ·exact Jz
  refine Yf (by simp;omega) ?_
  refine Yc (Iu9) ?_;rintro _ h ⟨rfl,o⟩<;>refine Jh o ?_
  (refine Jb ?_;unhygienic intros)
  refine Ys fun o=>?_
  exact ⟨rfl,o.sub⟩
 intro m
 induction m with
 | zero=>intro i hi;exact fin i (by omega)
 | succ m ihm =>
  intro i hi
  by_cases hg0:i<xs.length∧i<60
  case neg=>exact fin i hg0
  intro X H
  have R:=fun X' H'=>Jh1 k c a lc xs i hg0.2 (ihm (i+1) (by omega)) X' H'
  have hg:xs[i]?=some xs[i]:=List.getElem?_eq_getElem hg0.1
  have hx:=Ak0 (f:=Gh4) (k:=4) (fun x=>rfl) hg
  have hl:=O7 (f:=Gh4) (k:=4) (fun x=>rfl) xs
  generalize xs[i]=x at hx
  have b0:=I53 c k H x.i
  have b1:=Iu3 c k H x.i x.a
  have b2:=Jf2 c k H x.i x.a
  have b3:=Jb7 c k H x.i x.a x.b
  have b4:=Jk6 c k H x.i x.a x.b
  have b6:=Jf6 c k H x.i
  have b7:=Jc9 c k H x.i x.a
  have b9:=Ji0 c k H x.i
  refine CtJ.of Bo1 fun h r=>Tr.eq (Ds0 ..) ?_;refine Je ?_
  (refine Jb ?_;unhygienic intros)
  refine Tr.andG (c:=decide ((i:Int)<60)) (fun hb=>?_) ?_
  ·exact Jz
  refine Yt (by simp;omega) ?_
  (refine Jc ?_;unhygienic intros;repeat(refine Gw ?_;rintro px rfl;refine Jc ?_;unhygienic intros))
  rw [Int.toNat_natCast]
  refine Tr.xAggS (xs:=Gh4 x) ⟨by omega,by omega,hx⟩ ?_
  refine Yn fun b h=>?_
  (refine Jb ?_;unhygienic intros)
  by_cases h0:x.k=0
  ·refine Yt (by rw [beq_iff_eq];exact h0) ?_
   (refine Jb ?_;unhygienic intros)
   refine Yc (b0) ?_;rintro _ h ⟨L,X',rfl,H',o⟩<;>refine Jh o ?_
   (refine Jb ?_;unhygienic intros)
   refine B9 [0,1] 1 rfl rfl ?_
   exact Yr (R X' H') fun v h q=>q
  refine Yf (by rw [beq_eq_false_iff_ne];exact h0) ?_
  by_cases h1:x.k=1
  ·refine Yt (by rw [beq_iff_eq];exact h1) ?_
   (refine Jb ?_;unhygienic intros)
   refine Yc (b1) ?_;rintro _ h ⟨L,X',rfl,H',o⟩<;>refine Jh o ?_
   (refine Jb ?_;unhygienic intros)
   refine B9 [0,1] 1 rfl rfl ?_
   exact Yr (R X' H') fun v h q=>q
  refine Yf (by rw [beq_eq_false_iff_ne];exact h1) ?_
  by_cases h2:x.k=2
  ·refine Yt (by rw [beq_iff_eq];exact h2) ?_
   (refine Jb ?_;unhygienic intros)
   refine Yc (b2) ?_;rintro _ h ⟨L,X',rfl,H',o⟩<;>refine Jh o ?_
   (refine Jb ?_;unhygienic intros)
   refine B9 [0,1] 1 rfl rfl ?_
   exact Yr (R X' H') fun v h q=>q
  refine Yf (by rw [beq_eq_false_iff_ne];exact h2) ?_
  by_cases h3:x.k=3
  ·refine Yt (by rw [beq_iff_eq];exact h3) ?_
   (refine Jb ?_;unhygienic intros)
   refine Yc (b3) ?_;rintro _ h ⟨L,X',rfl,H',o⟩<;>refine Jh o ?_
   (refine Jb ?_;unhygienic intros)
   refine B9 [0,1] 1 rfl rfl ?_
   exact Yr (R X' H') fun v h q=>q
  refine Yf (by rw [beq_eq_false_iff_ne];exact h3) ?_
  by_cases h4:x.k=4
  ·refine Yt (by rw [beq_iff_eq];exact h4) ?_
   (refine Jb ?_;unhygienic intros)
   refine Yc (b4) ?_;rintro _ h ⟨L,X',rfl,H',o⟩<;>refine Jh o ?_
   (refine Jb ?_;unhygienic intros)
   refine B9 [0,1] 1 rfl rfl ?_
   exact Yr (R X' H') fun v h q=>q
  refine Yf (by rw [beq_eq_false_iff_ne];exact h4) ?_
  by_cases h6:x.k=6
  ·refine Yt (by rw [beq_iff_eq];exact h6) ?_
   (refine Jb ?_;unhygienic intros)
   refine Yc (b6) ?_;rintro _ h ⟨L,X',rfl,H',o⟩<;>refine Jh o ?_
   (refine Jb ?_;unhygienic intros)
   refine B9 [0,1] 1 rfl rfl ?_
   exact Yr (R X' H') fun v h q=>q
  refine Yf (by rw [beq_eq_false_iff_ne];exact h6) ?_
  by_cases h7:x.k=7
  ·refine Yt (by rw [beq_iff_eq];exact h7) ?_
   (refine Jb ?_;unhygienic intros)
   refine Yc (b7) ?_;rintro _ h ⟨L,X',rfl,H',o⟩<;>refine Jh o ?_
   (refine Jb ?_;unhygienic intros)
   refine B9 [0,1] 1 rfl rfl ?_
   exact Yr (R X' H') fun v h q=>q
  refine Yf (by rw [beq_eq_false_iff_ne];exact h7) ?_
  (refine Jb ?_;unhygienic intros)
  refine Yc (b9) ?_;rintro _ h ⟨L,X',rfl,H',o⟩<;>refine Jh o ?_
  (refine Jb ?_;unhygienic intros)
  refine B9 [0,1] 1 rfl rfl ?_
  exact Yr (R X' H') fun v h q=>q
theorem Il6 (a:Option Addr) (lc:Nat) (xs:List Op4):Ct A5 D2 [.slice a xs.length lc] [Jk5 a lc xs] fun v own=>v=.bool true∧own []:=by
 refine Ct.of Bo1 rfl fun h r=>Tr.eq (G90 ..) ?_;refine Je ?_
 refine Yc (H85) ?_;rintro _ h ⟨a1,rfl,o⟩<;>refine Jh o ?_
 (refine Ja ?_;unhygienic intros)
 refine Yc (Io0 a1) ?_
 rintro _ h ⟨k,c,w,m,K',rfl,o⟩
 refine Jh o ?_
 (refine Jb ?_;unhygienic intros)
 refine Yb (Yf rfl ?_)
 refine Jr3 c k X1 fun rg=>?_
 (refine Jb ?_;unhygienic intros)
 refine Ys fun o=>(?_:Tr _ _ _ _) o;refine Je ?_
 refine Yf rfl ?_
 refine B9 [0,2] 2 rfl rfl ?_
 exact Yr (Je7 k c a lc xs 60 0 rfl X1 sx1) fun v h q=>q
end Go.EQ

set_option maxRecDepth 100000
namespace Go.EQ
open Go Go.NN Go.Proofs Go.ChangeShapes Go.WideShapes Go.RowKit
theorem Js3:∀ f,(cutsOf f).globs=0:=Gk9 Jn2 (by kernel_rfl)
theorem Jt3:∀ f,(cutsOf f).globs≤PR.globals.size:=fun f=>by rw [Js3 f];exact Nat.zero_le _
theorem Js0:PR.follows .mixedOrders=true:=by kernel_rfl
theorem Jx8:laidOutB PR=true:=by kernel_rfl
theorem J20:ownKnob PR.godebug=none:=by kernel_rfl
end Go.EQ

set_option maxRecDepth 100000
namespace Go.EQ
open Go Go.NN Go.Proofs Go.Proofs.YtoegoalficgneaaGreat Go.ChangeShapes Go.WideShapes Go.RowKit
theorem J28 {W:World}:Ai8 PR W Dm6 (fun (_:Unit) (x:Op4)=>Gh4 x) (fun _ _=>sl []) (fun _=>True) :=
 (Ai8.struct Is3 (by kernel_rfl) (Ed0.cons (Ai8.int Hz9) (Ed0.cons (Ai8.int Hz9) (Ed0.cons (Ai8.int Hz9) (Ed0.cons (Ai8.int Hz9) Ed0.nil))))).as
  fun ⟨k,i,a,b,_⟩ _=>⟨⟨k,i,a,b⟩,trivial,fun _=>⟨(),rfl,fun hh r o=>o.of_sl 0 rfl⟩⟩
theorem Ip9:∀ (g:List Unit) (l:List Op4),g.length=l.length→((List.zip g l).flatMap fun p=>Gh4 p.2)=l.flatMap Gh4
 | [],[],_=>rfl
 | _::g,x::l,h=>by
  have:=Ip9 g l (by simpa using h)
  simp only [List.zip_cons_cons,List.flatMap_cons] at this ⊢
  rw [this]
theorem J16 {W:World}:Ai8 PR W Ei5 (fun (g:Option Addr × Nat) (l:List Op4)=>[.slice g.1 l.length g.2]) (fun g l=>slC true Dm6 4 g.1 l.length g.2 (l.flatMap Gh4)) (fun _=>True) :=
 (Ai8.slice (sz:=4) Dm6 Gi1 (by kernel_rfl) (by omega) (fun _ _=>rfl) J28).as fun l _=>⟨l,trivial,fun g=>⟨g.1,rfl,fun hh r o=>by
  have hp:=(o.of_sl 2 rfl).pure
  have:=o.of_sl 0 rfl
  rwa [Ip9 g.2 l hp] at this⟩⟩
theorem Ju0 {H:Type} {enc:TypeId × Value→H} {W:World} {v0:Value} {d0:DataW H} {p0:List MemPlace} {b0:Nat} (k0:Value.okWide PR W .any b0 Ei5 v0)
  (h0:DataW.Trod enc PR W 0 (fun _=>true) true Ei5 v0 d0 p0) :
  Calls PR D2 #[v0] W fun e W'=>e=.returned (.bool true)∧Below W.heap.size W W':=by
 obtain ⟨x0,hl0,i0⟩:=J16.arg (Ij6 Gi1 k0) h0
 refine i0.run Js0 Jt3 fun vs ps J hh r o=>?_
 obtain ⟨⟨a0,c0⟩,e0a,e0b⟩:=J
 subst e0a
 subst e0b
 obtain ⟨v,h',e,rfl,_⟩:=Il6 a0 c0 x0 hh r o
 exact ⟨h',e⟩
theorem Jh0 (os:Os) (started:os.Started) (H:Type) (enc:TypeId × Value→H) :
  ReturnsInHanded {} Tryz.checked os D2 .any (Rows.fdsSoundSpec.pre6 enc Tryz.prog Tryz.f6 Rows.fdsSoundRow.domain false) (Rows.fdsSoundSpec.post enc Tryz.prog Tryz.f6 false true false false):=by
 refine returnsInHanded_of_change (C:=Tryz.checked) J20 started (by kernel_rfl) Tryz.func6
  (ChangeSpec.witness6 (enc:=enc) (C:=Tryz.checked) false ⟨#[],#[.slice none 0 0],[]⟩ 8 (by kernel_rfl) (by kernel_rfl) (by kernel_rfl) (by kernel_rfl)) ?_
 intro W base args ds gs before hval hW hcnd _
 have hW':=hW
 obtain ⟨p,q,hA,hV,rfl,hfz,hnd⟩:=hW
 rw [Tryz.params6] at hA hval
 obtain ⟨v0,d0,rfl,rfl,h0⟩:=trodAll_one hA
 refine (Ju0 (hval 0 _ v0 rfl rfl) h0).mono fun e W' ⟨he,hb⟩=>?_
 subst he
 refine ⟨_,rfl,I98 Jx8 ?_ rfl J02 rfl (fun ds gs hl=>?_) hW' hb⟩
 ·rw [Tryz.params6];intro t ht;simp at ht;subst ht;exact ⟨by kernel_rfl,of_decide_eq_true (by kernel_rfl)⟩
 ·replace hl:ds.length=1:=hl
  cases gs with
  | cons _ _=>exact .inr (by simp)
  | nil=>match ds,hl with|[_],_=>exact .inl rfl
theorem Jx4:Tryz.pinned.checked.prog.funcNamed Rows.fdsSoundRow.func=some D2:=by kernel_rfl
theorem B0 {a b:Bool} (x:(a && b)=true):a=true:=by cases a<;>simp_all
theorem Bf4 {a b:Bool} (x:(a && b)=true):b=true:=by cases a<;>simp_all
theorem A56 {a b:Bool} (x:a=true) (y:b=true):(a && b)=true:=by rw [x,y];rfl
theorem J29:(Rows.fdsSoundRow.wf (OpenSpec.ofChange Rows.fdsSoundSpec) && laidOutB Tryz.pinned.checked.prog && mapsRowed Tryz.pinned.checked.prog && Tryz.f6.params.all (Tryz.pinned.checked.prog.readableRec ·) && namedTie Tryz.pinned.checked.prog Rows.fdsSoundRow.named Rows.fdsSoundSpec.vars && (Rows.fdsSoundRow.stops==[]) && (Tryz.pinned.checked.prog.stops==[]) && (Rows.fdsSoundRow.knobs==[]) && (Tryz.pinned.checked.prog.stopKnobs==[]))=true:=by kernel_rfl
theorem Iw4:((Rows.fdsSoundRow.inPlace==Tryz.pinned.checked.prog.inPlace D2) && (Rows.fdsSoundRow.unfollowed==Tryz.pinned.checked.prog.unfollowed D2) && (Rows.fdsSoundRow.recurses==Tryz.pinned.checked.prog.recurses D2) && (Rows.fdsSoundRow.named==Tryz.pinned.checked.prog.varsNamed D2))=true:=by kernel_rfl
theorem Bq8:((Rows.fdsSoundRow.maps==(Tryz.f6.params.toList++Rows.fdsSoundSpec.plain.varTypes Tryz.pinned.checked.prog).any (Tryz.pinned.checked.prog.mapsRec ·)) && (Rows.fdsSoundRow.ifaces==(Tryz.f6.params.toList++Rows.fdsSoundSpec.plain.varTypes Tryz.pinned.checked.prog).any (Tryz.pinned.checked.prog.ifacesRec ·)) && (Rows.fdsSoundRow.mapsOut==Tryz.pinned.checked.prog.mapsAmong Tryz.f6.resultTypes.toList) && (Rows.fdsSoundRow.loops==(Tryz.f6.params.toList++Rows.fdsSoundSpec.plain.varTypes Tryz.pinned.checked.prog).any (Tryz.pinned.checked.prog.loopsFrom ·)) && (Rows.fdsSoundRow.wideKeys==(Tryz.f6.params.toList++Rows.fdsSoundSpec.plain.varTypes Tryz.pinned.checked.prog++Tryz.f6.resultTypes.toList).any (Tryz.pinned.checked.prog.wideKeysFrom ·)) && Rows.fdsSoundSpec.vars.all (Tryz.pinned.checked.prog.varReadable ·) && Tryz.f6.resultTypes.all (fun t=>Tryz.pinned.checked.prog.readableRec t && decide (t<Tryz.pinned.checked.prog.types.size)) && (Rows.fdsSoundRow.ifacesOut==Tryz.f6.resultTypes.toList.any (Tryz.pinned.checked.prog.ifacesRec ·)) && (Rows.fdsSoundRow.loopsOut==Tryz.f6.resultTypes.toList.any (Tryz.pinned.checked.prog.loopsFrom ·)) && (Rows.fdsSoundRow.plainKeys==Tryz.pinned.checked.prog.plainKeys) && Rows.fdsSoundRow.shortTexts.isNone && Tryz.pinned.checked.prog.stopsHeard && Tryz.pinned.checked.prog.mayEnter && (Rows.fdsSoundRow.lifted==Tryz.pinned.checked.prog.liftsFinal) && (Tryz.pinned.checked.prog.make==some Rows.fdsSoundRow.make) && (Rows.fdsSoundRow.kinds==(if Rows.fdsSoundRow.domain.isEmpty then [] else Tryz.f6.params.toList.map fun t=>match Tryz.pinned.checked.prog.underlying t with|some (.int k)=>some k|_=>none)) && (Rows.fdsSoundRow.pinned==Rows.fdsSoundRow.pinnedBy) && (Rows.fdsSoundRow.veiled==(Tryz.f6.params.toList++Rows.fdsSoundSpec.plain.varTypes Tryz.pinned.checked.prog++Tryz.f6.resultTypes.toList).any (Tryz.pinned.checked.prog.veiledRec ·)) && Rows.fdsSoundRow.veiledFits Tryz.pinned.checked.prog Tryz.f6.params.toList (Tryz.f6.params.toList++Rows.fdsSoundSpec.plain.varTypes Tryz.pinned.checked.prog++Tryz.f6.resultTypes.toList))=true:=by kernel_rfl
theorem Jl9:joinedFacts Tryz.pinned.checked.prog D2 Tryz.f6 Rows.fdsSoundSpec Rows.fdsSoundRow=true:=by
 unfold joinedFacts
 exact (A56 (A56 (A56 (A56 (A56 (A56 (A56 (A56 (A56 (A56 (A56 (A56 (A56 (A56 (A56 (A56 (A56 (A56 (A56 (A56 (A56 (A56 (A56 J29 (B0 (B0 (B0 Iw4)))) (Bf4 (B0 (B0 Iw4)))) (Bf4 (B0 Iw4))) (Bf4 Iw4)) (B0 (B0 (B0 (B0 (B0 (B0 (B0 (B0 (B0 (B0 (B0 (B0 (B0 (B0 (B0 (B0 (B0 (B0 Bq8))))))))))))))))))) (Bf4 (B0 (B0 (B0 (B0 (B0 (B0 (B0 (B0 (B0 (B0 (B0 (B0 (B0 (B0 (B0 (B0 (B0 Bq8))))))))))))))))))) (Bf4 (B0 (B0 (B0 (B0 (B0 (B0 (B0 (B0 (B0 (B0 (B0 (B0 (B0 (B0 (B0 (B0 Bq8)))))))))))))))))) (Bf4 (B0 (B0 (B0 (B0 (B0 (B0 (B0 (B0 (B0 (B0 (B0 (B0 (B0 (B0 (B0 Bq8))))))))))))))))) (Bf4 (B0 (B0 (B0 (B0 (B0 (B0 (B0 (B0 (B0 (B0 (B0 (B0 (B0 (B0 Bq8)))))))))))))))) (Bf4 (B0 (B0 (B0 (B0 (B0 (B0 (B0 (B0 (B0 (B0 (B0 (B0 (B0 Bq8))))))))))))))) (Bf4 (B0 (B0 (B0 (B0 (B0 (B0 (B0 (B0 (B0 (B0 (B0 (B0 Bq8)))))))))))))) (Bf4 (B0 (B0 (B0 (B0 (B0 (B0 (B0 (B0 (B0 (B0 (B0 Bq8))))))))))))) (Bf4 (B0 (B0 (B0 (B0 (B0 (B0 (B0 (B0 (B0 (B0 Bq8)))))))))))) (Bf4 (B0 (B0 (B0 (B0 (B0 (B0 (B0 (B0 (B0 Bq8))))))))))) (Bf4 (B0 (B0 (B0 (B0 (B0 (B0 (B0 (B0 Bq8)))))))))) (Bf4 (B0 (B0 (B0 (B0 (B0 (B0 (B0 Bq8))))))))) (Bf4 (B0 (B0 (B0 (B0 (B0 (B0 Bq8)))))))) (Bf4 (B0 (B0 (B0 (B0 (B0 Bq8))))))) (Bf4 (B0 (B0 (B0 (B0 Bq8)))))) (Bf4 (B0 (B0 (B0 Bq8))))) (Bf4 (B0 (B0 Bq8)))) (Bf4 (B0 Bq8))) (Bf4 Bq8))
theorem Jv6:Tryz.f6.isInstance Tryz.pinned.checked.prog Rows.fdsSoundRow.origin Rows.fdsSoundRow.targs:=of_decide_eq_true (by kernel_rfl)
theorem Jw6:Tryz.f6.isWrapper Tryz.pinned.checked.prog Rows.fdsSoundRow.wrapper Rows.fdsSoundRow.mainSum:=by unfold Func.isWrapper;first|(rw [if_pos (by decide +kernel)];kernel_rfl)|(rw [if_neg (by decide +kernel)];exact ⟨rfl,rfl⟩)
theorem FdsSound_holds:Rows.FdsSoundSaid :=
 OpenClaim.holds_of_wide D2 Tryz.f6 rfl rfl rfl rfl rfl rfl rfl ⟨rfl,rfl,rfl,rfl,rfl⟩ rfl rfl rfl rfl rfl Jx4 Tryz.func6 Jl9 Jv6 Jw6
  (fun os started H enc _=>Jh0 os started H enc)
end Go.EQ
