/- Honest calls keep sound commons sound, whatever is called; no conditions. -/
import Derived.Test.YtoegoalficgneaaGreatMi
import Derived.Test.YtoegoalficgneaaGreatRows
set_option linter.all false
set_option maxRecDepth 10000
namespace Go.EQ
open Go Go.NN
def cnt (f:Int) (l:List Int):Int:=(l.countP (·==f):Nat)
theorem Ea6 (f:Int):cnt f []=0:=rfl
theorem By6 (f x:Int) (l:List Int):cnt f (x::l)=cnt f l+if x=f then 1 else 0:=by
 unfold cnt;rw [List.countP_cons]
 by_cases h:x=f
 ·rw [if_pos h,if_pos (by simpa using h)];omega
 ·rw [if_neg h,if_neg (by simpa using h)];omega
theorem Et3 (f:Int) (l:List Int):0≤cnt f l:=by unfold cnt;omega
theorem I14 (f:Int) (l:List Int):cnt f l≤l.length:=by
 have:=List.countP_le_length (p:=(·==f)) (l:=l);unfold cnt;omega
theorem Jl4 {f:Int} {l:List Int} (h:f ∈ l):1≤cnt f l:=by
 have:=List.countP_pos_iff (p:=(·==f)) (l:=l) |>.2 ⟨f,h,by simp⟩
 unfold cnt;omega
theorem Jk7 {f:Int} {l:List Int} (h:1≤cnt f l):f ∈ l:=by
 have:0<l.countP (·==f):=by unfold cnt at h;omega
 obtain ⟨x,hx,e⟩:=List.countP_pos_iff.1 this
 simp at e;exact e ▸ hx
def B05 (g:Int→Int):Nat→Int
 | 0=>0
 | m+1=>B05 g m+g m
theorem E13 {g g':Int→Int}:∀ (m:Nat),(∀ j:Int,0≤j→j<m→g j=g' j)→B05 g m=B05 g' m
 | 0,_=>rfl
 | m+1,h=>by rw [B05,B05,E13 m fun j h1 h2=>h j h1 (by omega),h m (by omega) (by omega)]
theorem Eb5 {g g':Int→Int} {i:Int}:∀ (m:Nat),0≤i→i<m→(∀ j:Int,0≤j→j<m→j≠i→g' j=g j)→B05 g' m=B05 g m-g i+g' i
 | 0,h1,h2,_=>by omega
 | m+1,h1,h2,h=>by
  rw [B05,B05]
  by_cases hi:i=m
  ·subst hi
   rw [E13 m fun j a b=>h j a (by omega) (by omega)];omega
  ·rw [Eb5 m h1 (by omega) fun j a b c=>h j a (by omega) c,h m (by omega) (by omega) (fun e=>hi e.symm)];omega
theorem Go1 {g:Int→Int}:∀ (m:Nat),(∀ j:Int,0≤j→j<m→0≤g j)→0≤B05 g m
 | 0,_=>by simp [B05]
 | m+1,h=>by
  have:=Go1 m fun j a b=>h j a (by omega)
  have:=h m (by omega) (by omega)
  rw [B05];omega
theorem G17 {g:Int→Int} {i:Int} (m:Nat) (hn:∀ j:Int,0≤j→j<m→0≤g j) (h1:0≤i) (h2:i<m):g i≤B05 g m:=by
 have e:=Eb5 (g:=g) (g':=fun j=>if j=i then 0 else g j) (i:=i) m h1 h2 fun j _ _ h=>if_neg h
 have p:=Go1 (g:=fun j=>if j=i then 0 else g j) m fun j a b=>by
  show 0≤if j=i then 0 else g j
  split
  ·omega
  ·exact hn j a b
 rw [if_pos rfl] at e;omega
def oS (V:VW) (i:Int):VW:=⟨fun j=>if j=i then (.zero,0) else V.S j,V.F,V.P⟩
theorem See.os {X:CX} {V:VW} (A:See X V) {i:Int} (hi:0≤i∧i<8):See (D29 X i) (oS V i):=by
 obtain ⟨_,w2,w3,w4,w5⟩:=Bi3 A.c hi
 exact ⟨w2,fun j h=>by rw [w3 j h,A.s j h];rfl,fun j h=>by rw [w4 j h];exact A.f j h,fun j h=>by rw [w5 j (by omega)];exact A.p j h⟩
abbrev Bb5 (S:Int→ProcS × Int) (f:Int):Int:=B05 (fun i=>cnt (f+1) (S i).1.fds) 8
abbrev U0 (k j:Int) (x:FileS):Int:=if x.kind=k∧x.pipe=j then 1 else 0
abbrev Af7 (F:Int→FileS × Int) (k j:Int):Int:=B05 (fun f=>U0 k j (F f).1) 12
structure Snd (V:VW) (ex:Int):Prop where
 sz:∀ i:Int,0≤i→i<8→V.S i=(.zero,0)∨((V.S i).2=1∧okS (V.S i).1=true)
 fz:∀ f:Int,0≤f→f<12→V.F f=(.zero,0)∨((V.F f).2=1∧okF (V.F f).1=true∧((V.F f).1.kind=3∨((V.F f).1.kind=1∨(V.F f).1.kind=2)∧0≤(V.F f).1.pipe∧(V.F f).1.pipe<4))
 pz:∀ j:Int,0≤j→j<4→V.P j=(.zero,0)∨((V.P j).2=1∧okP (V.P j).1=true)
 par:∀ i:Int,0≤i→i<8→(V.S i).1.parent>0→(V.S i).1.parent≠i+1∧(V.S ((V.S i).1.parent-1)).2=1∧(V.S ((V.S i).1.parent-1)).1.state≠2
 fd:∀ i:Int,0≤i→i<8→∀ f ∈ (V.S i).1.fds,f>0→(V.F (f-1)).2=1
 refs:∀ f:Int,0≤f→f<12→(V.F f).2=1→(V.F f).1.refs=Bb5 V.S f+if f=ex then 1 else 0
 exF:0≤ex→(V.F ex).2=1
 pipe:∀ f:Int,0≤f→f<12→(V.F f).1.kind=1∨(V.F f).1.kind=2→(V.P (V.F f).1.pipe).2=1
 ends:∀ j:Int,0≤j→j<4→(V.P j).2=1→(V.P j).1.readers=Af7 V.F 1 j∧(V.P j).1.writers=Af7 V.F 2 j∧Af7 V.F 1 j+Af7 V.F 2 j≠0
section
variable {V:VW} {ex:Int}
theorem Gn8 (k j:Int) (x:FileS):0≤U0 k j x:=by unfold U0;split<;>omega
theorem Ik6 (F:Int→FileS × Int) (k j:Int):0≤Af7 F k j:=Go1 12 fun _ _ _=>Gn8 ..
theorem Ja4 (S:Int→ProcS × Int) (f:Int):0≤Bb5 S f:=Go1 8 fun _ _ _=>Et3 ..
theorem H71 {i:Int} (hi:0≤i∧i<8) (p:ProcS) (f:Int):Bb5 (wS V i p).S f=Bb5 V.S f-cnt (f+1) (V.S i).1.fds+cnt (f+1) p.fds:=by
 have:=Eb5 (g:=fun j=>cnt (f+1) (V.S j).1.fds) (g':=fun j=>cnt (f+1) ((wS V i p).S j).1.fds) 8 hi.1 (by omega) fun j _ _ h=>by
  show cnt (f+1) (if j=i then (p,(1:Int)) else V.S j).1.fds=_;rw [if_neg h]
 unfold Bb5;rw [this]
 show _+cnt (f+1) (if i=i then (p,(1:Int)) else V.S i).1.fds=_;rw [if_pos rfl]
theorem Jb8 {i:Int} (hi:0≤i∧i<8) {f:Int} (hf:0≤f):Bb5 (oS V i).S f=Bb5 V.S f-cnt (f+1) (V.S i).1.fds:=by
 have:=Eb5 (g:=fun j=>cnt (f+1) (V.S j).1.fds) (g':=fun j=>cnt (f+1) ((oS V i).S j).1.fds) 8 hi.1 (by omega) fun j _ _ h=>by
  show cnt (f+1) (if j=i then (ProcS.zero,(0:Int)) else V.S j).1.fds=_;rw [if_neg h]
 unfold Bb5;rw [this]
 show _+cnt (f+1) (if i=i then (ProcS.zero,(0:Int)) else V.S i).1.fds=_;rw [if_pos rfl]
 have:cnt (f+1) Av8=0:=by simp only [By6,Ea6];rw [if_neg (by omega)];rfl
 show _+cnt (f+1) Av8=_;omega
theorem H84 {F F':Int→FileS × Int} {f:Int} (hf:0≤f∧f<12) (h:∀ j,j≠f→F' j=F j) (k j:Int):Af7 F' k j=Af7 F k j-U0 k j (F f).1+U0 k j (F' f).1 :=
 Eb5 (g:=fun x=>U0 k j (F x).1) (g':=fun x=>U0 k j (F' x).1) 12 hf.1 (by omega) fun x _ _ h2=>by show U0 k j (F' x).1=_;rw [h x h2]
theorem G47 {f:Int} (hf:0≤f):cnt (f+1) Av8=0:=by simp only [By6,Ea6];rw [if_neg (by omega)];rfl
end
theorem Dl6 (V:VW) (i:Int) (p:ProcS) (j:Int):(wS V i p).S j=if j=i then (p,1) else V.S j:=rfl
theorem Gn2 (V:VW) (i:Int) (p:FileS) (j:Int):(wF V i p).F j=if j=i then (p,1) else V.F j:=rfl
theorem Gp6 (V:VW) (i:Int) (j:Int):(oF V i).F j=if j=i then (.zero,0) else V.F j:=rfl
theorem Snd.wS {V:VW} {ex:Int} (A:Snd V ex) {i:Int} (hi:0≤i∧i<8) {p:ProcS} (ex':Int) (ok:okS p=true) (hfd:∀ f ∈ p.fds,f>0→(V.F (f-1)).2=1)
  (hpar:p.parent>0→p.parent≠i+1∧(V.S (p.parent-1)).2=1∧(V.S (p.parent-1)).1.state≠2) (hst:p.state=2→∀ j:Int,0≤j→j<8→(V.S j).1.parent≠i+1)
  (hn:∀ f:Int,0≤f→f<12→(V.F f).2=1→(V.F f).1.refs=Bb5 V.S f-cnt (f+1) (V.S i).1.fds+cnt (f+1) p.fds+if f=ex' then 1 else 0) (hex:0≤ex'→(V.F ex').2=1):Snd (EQ.wS V i p) ex':=by
 refine ⟨fun j h1 h2=>?_,A.fz,A.pz,fun j h1 h2 h3=>?_,fun j h1 h2=>?_,fun f h1 h2 h3=>?_,hex,A.pipe,A.ends⟩
 ·rw [Dl6];split
  ·exact .inr ⟨rfl,ok⟩
  ·exact A.sz j h1 h2
 ·rw [Dl6] at h3 ⊢
  by_cases hj:j=i
  ·rw [if_pos hj] at h3 ⊢
   obtain ⟨k1,k2,k3⟩:=hpar h3
   rw [hj]
   refine ⟨k1,?_,?_⟩
   ·show ((if p.parent-1=i then (p,(1:Int)) else V.S (p.parent-1))).2=1;rw [if_neg (by omega)];exact k2
   ·show ((if p.parent-1=i then (p,(1:Int)) else V.S (p.parent-1))).1.state≠2;rw [if_neg (by omega)];exact k3
  ·rw [if_neg hj] at h3 ⊢
   obtain ⟨k1,k2,k3⟩:=A.par j h1 h2 h3
   refine ⟨k1,?_,?_⟩
   ·rw [Dl6];split
    ·rfl
    ·exact k2
   ·rw [Dl6];split
    ·rename_i e
     intro h;exact hst h j h1 h2 (by omega)
    ·exact k3
 ·rw [Dl6];split
  ·exact hfd
  ·exact A.fd j h1 h2
 ·rw [H71 hi];exact hn f h1 h2 h3
theorem Snd.oS {V:VW} {ex:Int} (A:Snd V ex) {i:Int} (hi:0≤i∧i<8) (hch:∀ j:Int,0≤j→j<8→(V.S j).1.parent≠i+1) (hn:∀ f:Int,0≤f→f<12→cnt (f+1) (V.S i).1.fds=0):Snd (EQ.oS V i) ex:=by
 refine ⟨fun j h1 h2=>?_,A.fz,A.pz,fun j h1 h2 h3=>?_,fun j h1 h2=>?_,fun f h1 h2 h3=>?_,A.exF,A.pipe,A.ends⟩
 ·show (if j=i then _ else _)=_∨_
  by_cases hj:j=i
  ·rw [if_pos hj];exact .inl rfl
  ·show _∨((if j=i then _ else _):ProcS × Int).2=1∧okS ((if j=i then _ else _):ProcS × Int).1=true
   rw [if_neg hj];exact A.sz j h1 h2
 ·have e:∀ k:Int,(EQ.oS V i).S k=if k=i then (.zero,0) else V.S k:=fun _=>rfl
  rw [e] at h3 ⊢
  by_cases hj:j=i
  ·rw [if_pos hj] at h3;exact absurd h3 (by decide)
  ·rw [if_neg hj] at h3 ⊢
   have:=A.par j h1 h2 h3
   rw [e,if_neg (fun h=>hch j h1 h2 (by omega))]
   exact this
 ·show ∀ f ∈ ((if j=i then _ else _):ProcS × Int).1.fds,_
  by_cases hj:j=i
  ·rw [if_pos hj]
   intro f hf h0
   have:f ∈ Av8:=hf
   simp at this;omega
  ·rw [if_neg hj];exact A.fd j h1 h2
 ·rw [Jb8 hi h1,hn f h1 h2,Int.sub_zero];exact A.refs f h1 h2 h3
theorem I01 (k j:Int) (hk:k=1∨k=2):U0 k j .zero=0:=by unfold U0;rw [if_neg];intro h;have:(0:Int)=k:=h.1;omega
theorem Snd.close {V:VW} {f:Int} (hf:0≤f∧f<12) (A:Snd V f):(Bq1 V f).1=0∧Snd (Bq1 V f).2 (-1):=by
 have hp:=A.exF hf.1
 have hr:=A.refs f hf.1 hf.2 hp
 rw [if_pos rfl] at hr
 have hnn:=Ja4 V.S f
 obtain ⟨_,hok,hkd⟩:=(A.fz f hf.1 hf.2).resolve_left (fun e=>by rw [e] at hp;cases hp)
 unfold Bq1
 rw [if_neg (by omega)]
 by_cases h1:(V.F f).1.refs-1>0
 ·rw [if_pos h1]
  refine ⟨rfl,A.sz,fun g a b=>?_,A.pz,A.par,fun i a b g hg h0=>?_,fun g a b c=>?_,by omega,fun g a b c=>?_,fun j a b c=>?_⟩
  ·rw [Gn2]
   by_cases hg:g=f
   ·rw [if_pos hg];exact .inr ⟨rfl,Dr1 hok (n:=-1) (by have:=Dt2 hok;omega),hkd⟩
   ·rw [if_neg hg];exact A.fz g a b
  ·rw [Gn2];split
   ·rfl
   ·exact A.fd i a b g hg h0
  ·rw [Gn2] at c ⊢
   rw [if_neg (show ¬ g=-1 by omega)]
   by_cases hg:g=f
   ·rw [if_pos hg,hg];show (V.F f).1.refs+-1=Bb5 V.S f+0;omega
   ·rw [if_neg hg] at c ⊢
    have:=A.refs g a b c
    rw [if_neg hg] at this;exact this
  ·rw [Gn2] at c ⊢
   by_cases hg:g=f
   ·rw [if_pos hg] at c ⊢;exact A.pipe f hf.1 hf.2 c
   ·rw [if_neg hg] at c ⊢;exact A.pipe g a b c
  ·have e:∀ k,Af7 (wF V f (Bx1 (V.F f).1 (-1))).F k j=Af7 V.F k j:=fun k=>by
    rw [H84 hf (fun x hx=>by rw [Gn2,if_neg hx]),Gn2,if_pos rfl]
    show _-U0 k j (V.F f).1+U0 k j (V.F f).1=_;omega
   rw [e,e];exact A.ends j a b c
 rw [if_neg h1]
 have hz:Bb5 V.S f=0:=by omega
 have hno:∀ i:Int,0≤i→i<8→∀ g ∈ (V.S i).1.fds,g≠f+1:=fun i a b g hg e=>by
  have:=G17 (g:=fun i=>cnt (f+1) (V.S i).1.fds) 8 (fun _ _ _=>Et3 ..) a (by omega)
  have h2:=Jl4 (e ▸ hg)
  unfold Bb5 at hz
  omega
 have hF:∀ k j,k=1∨k=2→Af7 (oF V f).F k j=Af7 V.F k j-U0 k j (V.F f).1:=fun k j hk=>by
  rw [H84 hf (fun x hx=>by rw [Gp6,if_neg hx]),Gp6,if_pos rfl,I01 k j hk];omega
 have hfz:∀ g:Int,0≤g→g<12→(oF V f).F g=(.zero,0)∨(((oF V f).F g).2=1∧okF ((oF V f).F g).1=true∧(((oF V f).F g).1.kind=3∨(((oF V f).F g).1.kind=1∨((oF V f).F g).1.kind=2)∧0≤((oF V f).F g).1.pipe∧((oF V f).F g).1.pipe<4)):=fun g a b=>by
  rw [Gp6];by_cases hg:g=f
  ·rw [if_pos hg];exact .inl rfl
  ·rw [if_neg hg];exact A.fz g a b
 have hfd:∀ i:Int,0≤i→i<8→∀ g ∈ (V.S i).1.fds,g>0→((oF V f).F (g-1)).2=1:=fun i a b g hg h0=>by
  rw [Gp6,if_neg (fun e=>hno i a b g hg (by omega))];exact A.fd i a b g hg h0
 have hrf:∀ g:Int,0≤g→g<12→((oF V f).F g).2=1→((oF V f).F g).1.refs=Bb5 V.S g+if g=-1 then 1 else 0:=fun g a b c=>by
  rw [Gp6] at c ⊢
  by_cases hg:g=f
  ·rw [if_pos hg] at c;cases c
  ·rw [if_neg hg] at c ⊢
   have:=A.refs g a b c
   rw [if_neg hg] at this;rw [if_neg (by omega)];exact this
 have hkz:∀ g:Int,((oF V f).F g).1.kind=1∨((oF V f).F g).1.kind=2→g≠f∧(oF V f).F g=V.F g:=fun g c=>by
  rw [Gp6] at c ⊢
  by_cases hg:g=f
  ·rw [if_pos hg] at c;rcases c with c|c<;>cases c
  ·rw [if_neg hg];exact ⟨hg,rfl⟩
 by_cases h3:(V.F f).1.kind=3
 ·rw [if_pos h3]
  have e:∀ k j,k=1∨k=2→Af7 (oF V f).F k j=Af7 V.F k j:=fun k j hk=>by
   rw [hF k j hk];unfold U0;rw [if_neg (by omega)];omega
  refine ⟨rfl,A.sz,hfz,A.pz,A.par,hfd,hrf,by omega,fun g a b c=>?_,fun j a b c=>?_⟩
  ·obtain ⟨_,e2⟩:=hkz g c
   rw [e2] at c ⊢;exact A.pipe g a b c
  ·rw [e 1 j (.inl rfl),e 2 j (.inr rfl)];exact A.ends j a b c
 rw [if_neg h3]
 obtain ⟨hk,hq1,hq2⟩:=hkd.resolve_left h3
 have hP:=A.pipe f hf.1 hf.2 hk
 rw [if_neg (fun h=>h ⟨by omega,hP⟩)]
 obtain ⟨_,hqok⟩:=(A.pz _ hq1 hq2).resolve_left (fun e=>by rw [e] at hP;cases hP)
 obtain ⟨e1,e2,e3⟩:=A.ends _ hq1 hq2 hP
 have hge:1≤Af7 V.F (V.F f).1.kind (V.F f).1.pipe:=by
  have:=G17 (g:=fun x=>U0 (V.F f).1.kind (V.F f).1.pipe (V.F x).1) 12 (fun _ _ _=>Gn8 ..) hf.1 (by omega)
  have h:U0 (V.F f).1.kind (V.F f).1.pipe (V.F f).1=1:=by unfold U0;rw [if_pos ⟨rfl,rfl⟩]
  unfold Af7;omega
 have hrw:(Di4 (V.F f).1.kind (V.P (V.F f).1.pipe).1).readers=Af7 (oF V f).F 1 (V.F f).1.pipe∧(Di4 (V.F f).1.kind (V.P (V.F f).1.pipe).1).writers=Af7 (oF V f).F 2 (V.F f).1.pipe:=by
  rw [hF 1 _ (.inl rfl),hF 2 _ (.inr rfl)]
  unfold Di4 U0
  rcases hk with h|h
  ·rw [h] at hge
   rw [if_pos h,if_pos ⟨h,rfl⟩,if_neg (by omega)]
   exact ⟨by show max _ 0=_;omega,by show (V.P _).1.writers=_;omega⟩
  ·rw [h] at hge
   rw [if_neg (by omega),if_neg (by omega),if_pos ⟨h,rfl⟩]
   exact ⟨by show (V.P _).1.readers=_;omega,by show max _ 0=_;omega⟩
 have hendok:=Go2 hqok (V.F f).1.kind
 have hoth:∀ k j,k=1∨k=2→j≠(V.F f).1.pipe→Af7 (oF V f).F k j=Af7 V.F k j:=fun k j hk hj=>by
  rw [hF k j hk];unfold U0;rw [if_neg (fun h=>hj h.2.symm)];omega
 generalize Di4 (V.F f).1.kind (V.P (V.F f).1.pipe).1=e at *
 generalize hq:(V.F f).1.pipe=q at *
 obtain ⟨r1,r2⟩:=hrw
 have n1:=Ik6 (oF V f).F 1 q
 have n2:=Ik6 (oF V f).F 2 q
 unfold clP
 by_cases h5:e.readers+e.writers=0∧q<4
 ·rw [if_pos h5]
  have hPat:∀ j,(oP (oF V f) q).P j=if j=q then (.zero,0) else V.P j:=fun _=>rfl
  refine ⟨rfl,A.sz,hfz,fun j a b=>?_,A.par,hfd,hrf,by omega,fun g a b c=>?_,fun j a b c=>?_⟩
  ·rw [hPat];by_cases hj:j=q
   ·rw [if_pos hj];exact .inl rfl
   ·rw [if_neg hj];exact A.pz j a b
  ·have c':((oF V f).F g).1.kind=1∨((oF V f).F g).1.kind=2:=c
   obtain ⟨_,e2⟩:=hkz g c'
   have hne:((oF V f).F g).1.pipe≠q:=fun hgq=>by
    have h1:=fun k=>G17 (g:=fun x=>U0 k q ((oF V f).F x).1) (i:=g) 12 (fun _ _ _=>Gn8 ..) a b
    have h2:∀ k,((oF V f).F g).1.kind=k→U0 k q ((oF V f).F g).1=1:=fun k hk=>by unfold U0;rw [if_pos ⟨hk,hgq⟩]
    rcases c' with c'|c'
    ·have:=h1 1;have:=h2 1 c';unfold Af7 at *;omega
    ·have:=h1 2;have:=h2 2 c';unfold Af7 at *;omega
   show ((oP (oF V f) q).P ((oF V f).F g).1.pipe).2=1
   rw [hPat,if_neg hne,e2]
   rw [e2] at c'
   exact A.pipe g a b c'
  ·rw [hPat] at c ⊢
   by_cases hj:j=q
   ·rw [if_pos hj] at c;cases c
   ·rw [if_neg hj] at c ⊢
    show _=Af7 (oF V f).F 1 j∧_=Af7 (oF V f).F 2 j∧Af7 (oF V f).F 1 j+Af7 (oF V f).F 2 j≠0
    rw [hoth 1 j (.inl rfl) hj,hoth 2 j (.inr rfl) hj];exact A.ends j a b c
 ·rw [if_neg h5]
  have hPat:∀ j,(wP (oF V f) q e).P j=if j=q then (e,1) else V.P j:=fun _=>rfl
  refine ⟨rfl,A.sz,hfz,fun j a b=>?_,A.par,hfd,hrf,by omega,fun g a b c=>?_,fun j a b c=>?_⟩
  ·rw [hPat];by_cases hj:j=q
   ·rw [if_pos hj];exact .inr ⟨rfl,hendok⟩
   ·rw [if_neg hj];exact A.pz j a b
  ·have c':((oF V f).F g).1.kind=1∨((oF V f).F g).1.kind=2:=c
   obtain ⟨_,e2⟩:=hkz g c'
   show ((wP (oF V f) q e).P ((oF V f).F g).1.pipe).2=1
   rw [hPat];split
   ·rfl
   ·rw [e2] at c' ⊢;exact A.pipe g a b c'
  ·rw [hPat] at c ⊢
   show _=Af7 (oF V f).F 1 j∧_=Af7 (oF V f).F 2 j∧Af7 (oF V f).F 1 j+Af7 (oF V f).F 2 j≠0
   by_cases hj:j=q
   ·rw [if_pos hj,hj];exact ⟨r1,r2,by omega⟩
   ·rw [if_neg hj] at c ⊢
    rw [hoth 1 j (.inl rfl) hj,hoth 2 j (.inr rfl) hj];exact A.ends j a b c
theorem Gm8 (f:Int):∀ (l m:List Int),cnt f (l++m)=cnt f l+cnt f m
 | [],m=>by rw [List.nil_append,Ea6];omega
 | x::l,m=>by rw [List.cons_append,By6,By6,Gm8 f l m];omega
theorem Jv2 (V:VW) (i:Int) (p q:ProcS):wS (wS V i p) i q=wS V i q:=by
 refine VW.ext' (fun n=>?_) (fun _=>rfl) fun _=>rfl
 show (if n=i then _ else if n=i then _ else _)=if n=i then _ else _
 by_cases h:n=i
 ·rw [if_pos h,if_pos h]
 ·rw [if_neg h,if_neg h,if_neg h]
theorem Jo0 {V:VW} {i:Int} (h:(V.S i).2=1):wS V i (V.S i).1=V:=by
 refine VW.ext' (fun n=>?_) (fun _=>rfl) fun _=>rfl
 show (if n=i then _ else _)=_
 by_cases hn:n=i
 ·rw [if_pos hn,hn,← h]
 ·rw [if_neg hn]
theorem I36 (V:VW) (i:Int) (p:ProcS) (f:Int):(Bq1 (wS V i p) f).2=wS (Bq1 V f).2 i p:=by
 unfold Bq1
 have e1:(wS V i p).F=V.F:=rfl
 have e2:(wS V i p).P=V.P:=rfl
 rw [e1,e2]
 by_cases h1:(V.F f).2≠1
 ·rw [if_pos h1,if_pos h1]
 rw [if_neg h1,if_neg h1]
 by_cases h2:(V.F f).1.refs-1>0
 ·rw [if_pos h2,if_pos h2];rfl
 rw [if_neg h2,if_neg h2]
 by_cases h3:(V.F f).1.kind=3
 ·rw [if_pos h3,if_pos h3];rfl
 rw [if_neg h3,if_neg h3]
 by_cases h4:¬ ((V.F f).1.pipe<6∧(V.P (V.F f).1.pipe).2=1)
 ·rw [if_pos h4,if_pos h4];rfl
 rw [if_neg h4,if_neg h4]
 unfold clP
 by_cases h5:(Di4 (V.F f).1.kind (V.P (V.F f).1.pipe).1).readers+(Di4 (V.F f).1.kind (V.P (V.F f).1.pipe).1).writers=0∧(V.F f).1.pipe<4
 ·show (if _ then _ else _)=wS (if _ then _ else _) i p
  rw [if_pos h5,if_pos h5];rfl
 ·show (if _ then _ else _)=wS (if _ then _ else _) i p
  rw [if_neg h5,if_neg h5];rfl
theorem Ja1 (V:VW) (f:Int):(Bq1 V f).2.S=V.S:=by
 unfold Bq1 clP
 split
 ·rfl
 ·split
  ·rfl
  ·split
   ·rfl
   ·split
    ·rfl
    ·show (if _ then _ else _:VW).S=_
     split<;>rfl
abbrev Dh5 (p:ProcS) (l:List Int) (h:l.length=8):ProcS:=⟨p.state,p.parent,p.group,p.code,p.pending,p.mask,p.ignored,p.caught,l,h⟩
theorem Ii9 {p:ProcS} (h:okS p=true) (h2:p.state≠2) {l:List Int} (hl:l.length=8) (hr:∀ f ∈ l,0≤f∧f≤12):okS (Dh5 p l hl)=true:=by
 unfold okS at h ⊢
 rw [if_neg h2] at h
 rw [if_neg (show ¬ (Dh5 p l hl).state=2 from h2)]
 simp only [Bool.and_eq_true,Bool.not_eq_true',Bool.or_eq_false_iff,decide_eq_false_iff_not,List.any_eq_false] at h ⊢
 obtain ⟨a1,b1,d1,d2⟩:=h
 exact ⟨a1,b1,fun f hf=>by have:=hr f hf;simp;omega,d2⟩
theorem E38 {i:Int} (hi:0≤i∧i<8) {p:ProcS} (hp:okS p=true) (h2:p.state≠2):∀ (rest:List Int) (k:Nat) (hk:(List.replicate k 0++rest).length=8) (X:CX) (V:VW),See X V→Snd (wS V i (Dh5 p (List.replicate k 0++rest) hk)) (-1) →
  ∃ V',See (Bw2 3 rest X) V'∧V'.S=V.S∧Snd (wS V' i (Dh5 p Av8 rfl)) (-1)
 | [],k,hk,X,V,A,B=>by
  have:k=8:=by simpa using hk
  subst this
  exact ⟨V,A,rfl,B⟩
 | f::rest,k,hk,X,V,A,B=>by
  have e:wS V i (Dh5 p (List.replicate (k+1) 0++rest) (by simp at hk ⊢;omega))=wS (wS V i (Dh5 p (List.replicate k 0++f::rest) hk)) i (Dh5 p (List.replicate (k+1) 0++rest) (by simp at hk ⊢;omega)):=(Jv2 ..).symm
  have hS:((wS V i (Dh5 p (List.replicate k 0++f::rest) hk)).S i)=(Dh5 p (List.replicate k 0++f::rest) hk,1):=by rw [Dl6,if_pos rfl]
  have hok0:=(B.sz i hi.1 hi.2).resolve_left (fun e=>by rw [hS] at e;exact absurd (congrArg Prod.snd e) (by simp))
  rw [hS] at hok0
  have hrng:=B19 hok0.2
  rw [Bw2]
  by_cases hf:f>0
  ·rw [if_pos hf]
   have hfr:0≤f∧f≤12:=hrng f (by simp)
   have hrep:List.replicate (k+1) (0:Int)++rest=List.replicate k 0++0::rest:=by rw [List.replicate_succ',List.append_assoc];rfl
   have C:Snd (wS V i (Dh5 p (List.replicate (k+1) 0++rest) (by simp at hk ⊢;omega))) (f-1):=by
    rw [e]
    refine B.wS hi (f-1) (Ii9 hp h2 _ fun x hx=>?_) (fun x hx h0=>?_) (fun h0=>?_) (fun h=>absurd h h2) (fun g a b c=>?_) fun h0=>?_
    ·rw [hrep] at hx
     rcases List.mem_append.1 hx with h|h
     ·have:=List.eq_of_mem_replicate h;omega
     ·rcases List.mem_cons.1 h with h|h
      ·omega
      ·exact hrng x (by show x ∈ List.replicate k 0++f::rest;simp [h])
    ·refine B.fd i hi.1 hi.2 x ?_ h0
     rw [hS]
     show x ∈ List.replicate k 0++f::rest
     have hx':x ∈ List.replicate (k+1) (0:Int)++rest:=hx
     rw [hrep] at hx'
     rcases List.mem_append.1 hx' with h|h
     ·simp [h]
     ·rcases List.mem_cons.1 h with h|h
      ·omega
      ·simp [h]
    ·have:=B.par i hi.1 hi.2 (by rw [hS];exact h0)
     rw [hS] at this;exact this
    ·rw [hS]
     have h1:=B.refs g a b c
     rw [if_neg (show ¬ g=-1 by omega)] at h1
     show _=_-cnt (g+1) (List.replicate k 0++f::rest)+cnt (g+1) (List.replicate (k+1) 0++rest)+_
     rw [hrep,Gm8,Gm8,By6,By6,if_neg (show ¬ (0:Int)=g+1 by omega),h1]
     by_cases hg:g=f-1
     ·rw [if_pos hg,if_pos (by omega)];omega
     ·rw [if_neg hg,if_neg (by omega)];omega
    ·exact B.fd i hi.1 hi.2 f (by rw [hS];show f ∈ List.replicate k 0++f::rest;simp) hf
   have D:=(C.close (by omega)).2
   rw [I36] at D
   obtain ⟨V',a1,a2,a3⟩:=E38 hi hp h2 rest (k+1) (by simp at hk ⊢;omega) (Bh1 3 X (f-1)).2 (Bq1 V (f-1)).2 (A.close (by omega)).2 D
   exact ⟨V',a1,a2.trans (Ja1 ..),a3⟩
  ·rw [if_neg hf]
   have h0:f=0:=by have:=hrng f (by simp);omega
   subst h0
   have hrep:List.replicate (k+1) (0:Int)++rest=List.replicate k 0++0::rest:=by rw [List.replicate_succ',List.append_assoc];rfl
   exact E38 hi hp h2 rest (k+1) (by simp at hk ⊢;omega) X V A (by
    have:Dh5 p (List.replicate (k+1) 0++rest) (by simp at hk ⊢;omega)=Dh5 p (List.replicate k 0++0::rest) hk:=by unfold Dh5;simp only [hrep]
    rw [this];exact B)
def SX (X:CX):Prop:=∃ V,See X V∧Snd V (-1)
theorem It0 (V:VW) (i j:Int):(oS V i).S j=if j=i then (.zero,0) else V.S j:=rfl
theorem Snd.refs0 {V:VW} (B:Snd V (-1)) {f:Int} (h0:0≤f) (h1:f<12) (h2:(V.F f).2=1):(V.F f).1.refs=Bb5 V.S f:=by
 have:=B.refs f h0 h1 h2
 rw [if_neg (by omega)] at this;omega
theorem Snd.set {V:VW} (B:Snd V (-1)) {i:Int} (hi:0≤i∧i<8) (hp:(V.S i).2=1) {p:ProcS} (ok:okS p=true) (hf:p.fds=(V.S i).1.fds) (hpar:p.parent=(V.S i).1.parent∨p.parent=0) (hst:p.state=2→∀ j:Int,0≤j→j<8→(V.S j).1.parent≠i+1):Snd (EQ.wS V i p) (-1):=by
 refine B.wS hi (-1) ok (fun f h1 h2=>B.fd i hi.1 hi.2 f (hf ▸ h1) h2) (fun h=>?_) hst (fun f a b c=>?_) (by omega)
 ·rcases hpar with e|e
  ·rw [e] at h ⊢;exact B.par i hi.1 hi.2 h
  ·omega
 ·rw [hf,B.refs0 a b c,if_neg (by omega)];omega
theorem Iv9 {p:ProcS} (h:okS p=true) (h2:p.state=2):p.fds=Av8:=by
 unfold okS at h
 rw [if_pos h2] at h
 simp only [Bool.and_eq_true,decide_eq_true_eq] at h
 exact h.2.2.2.2
theorem Snd.nochild {V:VW} (B:Snd V (-1)) {i:Int} (h:(V.S i).1.state=2) (j:Int) (h0:0≤j) (h1:j<8) (hp:0≤i):(V.S j).1.parent≠i+1:=fun e=>by
 have:=B.par j h0 h1 (by omega)
 rw [e,show i+1-1=i by omega] at this
 exact this.2.2 h
theorem Snd.out {V:VW} (B:Snd V (-1)) {i:Int} (hi:0≤i∧i<8) (hp:(V.S i).2=1) (h2:(V.S i).1.state=2):Snd (EQ.oS V i) (-1):=by
 obtain ⟨_,ok⟩:=(B.sz i hi.1 hi.2).resolve_left (fun e=>by rw [e] at hp;cases hp)
 exact B.oS hi (fun j a b=>B.nochild h2 j a b hi.1) fun f a b=>by rw [Iv9 ok h2];exact G47 a
theorem E63 {V0:VW} {i:Int} (hi:0≤i∧i<8):∀ (m:Nat) (k:Int) (X:CX) (V:VW),0≤k→k+m=8→See X V→Snd V (-1)→(∀ j:Int,k≤j→V.S j=V0.S j)→(∀ j:Int,0≤j→j<k→j≠i→(V.S j).1.parent≠i+1)→V.S i=V0.S i →
  ∃ V',See (D98 (Dj6 V0 (Gq6 i) m k) X) V'∧Snd V' (-1)∧(∀ j:Int,0≤j→j<8→j≠i→(V'.S j).1.parent≠i+1)∧V'.S i=V0.S i
 | 0,k,X,V,h0,hm,A,B,hk,hc,hs=>by
  obtain rfl:k=8:=by omega
  exact ⟨V,A,B,hc,hs⟩
 | m+1,k,X,V,h0,hm,A,B,hk,hc,hs=>by
  rw [Dj6]
  by_cases h:(V0.S k).2=1∧Gq6 i k (V0.S k).1=true
  ·rw [if_pos h,D98]
   have hkk:=hk k (by omega)
   obtain ⟨h1,h2⟩:=h
   unfold Gq6 at h2
   simp only [Bool.and_eq_true,bne_iff_ne,beq_iff_eq] at h2
   obtain ⟨h2,h3⟩:=h2
   have hkr:0≤k∧k<8:=by omega
   rw [← hkk] at h1 h3 ⊢
   obtain ⟨_,ok⟩:=(B.sz k hkr.1 hkr.2).resolve_left (fun e=>by rw [e] at h1;cases h1)
   dsimp only
   by_cases hz:(V.S k).1.state=2
   ·rw [if_pos hz]
    refine E63 hi m (k+1) _ _ (by omega) (by omega) (A.os hkr) (B.out hkr h1 hz) (fun j hj=>by rw [It0,if_neg (by omega)];exact hk j (by omega)) (fun j a b c=>?_) (by rw [It0,if_neg (fun e=>h2 e.symm)];exact hs)
    rw [It0]
    by_cases hj:j=k
    ·rw [if_pos hj];show (0:Int)≠i+1;omega
    ·rw [if_neg hj];exact hc j a (by omega) c
   ·rw [if_neg hz]
    have hin:InS (V.S k).1:=by rw [← A.s k hkr];exact Ar9 _
    refine E63 hi m (k+1) _ _ (by omega) (by omega) (A.ws hkr (Gp7 ok) ⟨hin.a,hin.b,hin.c,hin.d⟩) (B.set hkr h1 (Gp7 ok) rfl (.inr rfl) (fun h=>absurd h hz)) (fun j hj=>by rw [Dl6,if_neg (by omega)];exact hk j (by omega)) (fun j a b c=>?_) (by rw [Dl6,if_neg (fun e=>h2 e.symm)];exact hs)
    rw [Dl6]
    by_cases hj:j=k
    ·rw [if_pos hj];show (0:Int)≠i+1;omega
    ·rw [if_neg hj];exact hc j a (by omega) c
  ·rw [if_neg h]
   refine E63 hi m (k+1) X V (by omega) (by omega) A B (fun j hj=>hk j (by omega)) (fun j a b c=>?_) hs
   by_cases hj:j=k
   ·intro e
    refine h ⟨?_,?_⟩
    ·rcases B.sz j a (by omega) with h1|h1
     ·rw [h1] at e;have e':(0:Int)=i+1:=e;omega
     ·rw [← hk k (by omega),← hj];exact h1.1
    ·unfold Gq6
     rw [← hk k (by omega),← hj,e];simp [c]
   ·exact hc j a (by omega) c
theorem SX.exit {X:CX} (H:SX X) {i:Int} (hi:0≤i∧i<8) (code:Int):SX (G72 3 X i code).2:=by
 obtain ⟨V,A,B⟩:=H
 unfold G72
 by_cases h0:(H7 X i).2=0
 case neg=>rw [if_pos h0];exact ⟨V,A,B⟩
 rw [if_neg (by simpa using h0)]
 obtain ⟨s1,s2,s3,s4⟩:=Bm9 A.c hi h0
 have hin:InS (vS X i).1:=Ar9 _
 have eS:=A.s i hi
 rw [eS] at s2 s3 s4
 have hC:∃ V1,See (S4 3 X i) V1∧Snd V1 (-1)∧V1.S i=(B97 (V.S i).1,1):=by
  have hw:wS V i (Dh5 (V.S i).1 (List.replicate 0 0++(V.S i).1.fds) (V.S i).1.len)=V:=Jo0 s4
  obtain ⟨V',a1,a2,a3⟩:=E38 hi s3 (by omega) (V.S i).1.fds 0 (V.S i).1.len X V A (by rw [hw];exact B)
  unfold S4
  rw [eS,if_pos s4]
  have hok:okS (B97 (V.S i).1)=true:=Ii9 s3 (by omega) rfl (by simp)
  rw [eS] at hin
  exact ⟨_,a1.ws hi hok ⟨hin.a,hin.b,hin.c,hin.d⟩,a3,by rw [Dl6,if_pos rfl]⟩
 obtain ⟨V1,A1,B1,e1⟩:=hC
 have hO:∃ V2,See (Bc4 (S4 3 X i) i) V2∧Snd V2 (-1)∧(∀ j:Int,0≤j→j<8→j≠i→(V2.S j).1.parent≠i+1)∧V2.S i=V1.S i:=by
  unfold Bc4
  rw [A1.slots _ 8 0 (by omega) (by omega)]
  exact E63 hi 8 0 _ V1 (by omega) (by omega) A1 B1 (fun _ _=>rfl) (fun j a b=>by omega) rfl
 obtain ⟨V2,A2,B2,hch,e2⟩:=hO
 generalize Bc4 (S4 3 X i) i=Y at *
 rw [e1] at e2
 have eY:=A2.s i hi
 rw [e2] at eY
 have hself:∀ j:Int,0≤j→j<8→(V2.S j).1.parent≠i+1:=fun j a b=>by
  by_cases hj:j=i
  ·intro e
   have:=B2.par j a b (by omega)
   exact this.1 (by rw [e,hj])
  ·exact hch j a b hj
 have hS2:(V2.S i).2=1:=by rw [e2]
 rw [eY,if_neg (by simp)]
 dsimp only
 obtain ⟨_,ok2⟩:=(B2.sz i hi.1 hi.2).resolve_left (fun e=>by rw [e] at hS2;cases hS2)
 rw [e2] at ok2
 have hin2:InS (B97 (V.S i).1):=by rw [eS] at hin;exact ⟨hin.a,hin.b,hin.c,hin.d⟩
 split
 ·exact ⟨_,A2.ws hi (Hj2 ok2 code) ⟨by show (0:Int)≤0∧(0:Int)≤65535;omega,hin2.b,hin2.c,hin2.d⟩,B2.set hi hS2 (Hj2 ok2 code) (by rw [e2]) (.inl (by rw [e2])) (fun _=>hself)⟩
 ·exact ⟨_,A2.os hi,B2.oS hi hself fun f a b=>by rw [e2];exact G47 a⟩
theorem El8 (V:VW) (q:Int→ProcS→Bool):∀ (m:Nat) (k:Int),∀ s ∈ Dj6 V q m k,k≤s.1∧s.1<k+m∧(V.S s.1).2=1∧s.2=(V.S s.1).1
 | 0,k,s,h=>by simp [Dj6] at h
 | m+1,k,s,h=>by
  rw [Dj6] at h
  split at h
  ·rename_i h1
   rcases List.mem_cons.1 h with rfl|h2
   ·exact ⟨by simp,by simp only;omega,h1.1,rfl⟩
   ·obtain ⟨a,b,c⟩:=El8 V q m (k+1) s h2
    exact ⟨by omega,by omega,c⟩
  ·obtain ⟨a,b,c⟩:=El8 V q m (k+1) s h
   exact ⟨by omega,by omega,c⟩
theorem Hn8 {X:CX} {V:VW} (A:See X V) (B:Snd V (-1)) (n:Nat):∀ (L:List (Int × ProcS)),(∀ s ∈ L,(0≤s.1∧s.1<8)∧(V.S s.1).2=1∧s.2=(V.S s.1).1)→SX (D92 X n L).2
 | [],_=>⟨V,A,B⟩
 | s::l,h=>by
  obtain ⟨h1,h2,h3⟩:=h s (by simp)
  rw [D92]
  split
  ·rename_i hz
   exact ⟨_,A.os h1,B.out h1 h2 (by rw [← h3];exact hz)⟩
  ·exact Hn8 A B n l fun x hx=>h x (by simp [hx])
theorem SX.wait {X:CX} (H:SX X) {i:Int} (hi:0≤i∧i<8):SX (Ey7 X i).2:=by
 obtain ⟨V,A,B⟩:=H
 unfold Ey7
 split
 ·exact ⟨V,A,B⟩
 ·rw [A.slots _ 8 0 (by omega) (by omega)]
  refine Hn8 A B _ _ fun s hs=>?_
  obtain ⟨a,b,c,d⟩:=El8 V _ 8 0 s hs
  exact ⟨by omega,c,d⟩
theorem G48 {V0:VW} {n:Int}:∀ (L:List (Int × ProcS)) (X:CX) (V:VW),See X V→Snd V (-1)→H74 L→(∀ s ∈ L,(V0.S s.1).2=1∧s.2=(V0.S s.1).1) →
  (∀ j,(V.S j).2=(V0.S j).2∧(V.S j).1.fds=(V0.S j).1.fds∧(V.S j).1.parent=(V0.S j).1.parent)→SX (Dw9 X n L)
 | [],X,V,A,B,_,_,_=>⟨V,A,B⟩
 | s::l,X,V,A,B,hk,h,e=>by
  obtain ⟨h1,h2,h3⟩:=hk s (by simp)
  obtain ⟨h4,h5⟩:=h s (by simp)
  obtain ⟨e1,e2,e3⟩:=e s.1
  rw [Dw9]
  by_cases hc:Eb0 s.2 n
  ·obtain ⟨r1,r2⟩:=G22 h2 h3 hc
   rw [if_pos hc]
   have hs2:(Bx6 s.2 n).state≠2:=by
    show st2 s.2 n≠2
    have:=hc.2
    unfold st2;split<;>omega
   refine G48 l _ _ (A.ws h1 r1 r2) (B.set h1 (by rw [e1];exact h4) r1 (by rw [e2,← h5];rfl) (.inl (by rw [e3,← h5];rfl)) (fun h=>absurd h hs2)) (fun x hx=>hk x (by simp [hx])) (fun x hx=>h x (by simp [hx])) fun j=>?_
   rw [Dl6]
   by_cases hj:j=s.1
   ·rw [if_pos hj,hj,h4,← h5];exact ⟨rfl,rfl,rfl⟩
   ·rw [if_neg hj];exact e j
  ·rw [if_neg hc]
   exact G48 l X V A B (fun x hx=>hk x (by simp [hx])) (fun x hx=>h x (by simp [hx])) e
theorem SX.kill {X:CX} (H:SX X) (i t n:Int):SX (Hd1 X i t n).2:=by
 obtain ⟨V,A,B⟩:=H
 unfold Hd1
 split
 ·exact ⟨V,A,B⟩
 ·split
  ·exact ⟨V,A,B⟩
  ·rename_i ht
   split
   ·exact ⟨V,A,B⟩
   ·have hm:=H52 A.c (t:=t) (by omega)
    refine G48 (V0:=V) _ X V A B hm (fun s hs=>?_) fun _=>⟨rfl,rfl,rfl⟩
    unfold B24 at hs
    split at hs
    ·rw [A.slots _ 8 0 (by omega) (by omega)] at hs
     obtain ⟨a,b,c,d⟩:=El8 V _ 8 0 s hs
     exact ⟨c,d⟩
    ·split at hs
     ·cases hs
     ·rename_i h8 h0
      rw [List.mem_singleton] at hs
      have eS:=A.s t (by omega)
      subst hs
      simp only
      rw [eS] at h0 ⊢
      exact ⟨((B.sz t (by omega) (by omega)).resolve_left (fun e=>h0 (by rw [e]))).1,rfl⟩
theorem SX.group {X:CX} (H:SX X) {i:Int} (hi:0≤i∧i<8) (t g:Int):SX (Gi2 X i t g).2:=by
 obtain ⟨V,A,B⟩:=H
 unfold Gi2
 by_cases h0:(H7 X i).2=0
 case neg=>rw [if_pos h0];exact ⟨V,A,B⟩
 rw [if_neg (by simpa using h0)]
 obtain ⟨s1,s2,s3,s4⟩:=Bm9 A.c hi h0
 split
 ·exact ⟨V,A,B⟩
 rename_i h1
 by_cases h2:Dk1 X i t=0
 case neg=>rw [if_pos h2];exact ⟨V,A,B⟩
 rw [if_neg (by simpa using h2)]
 split
 ·exact ⟨V,A,B⟩
 have ht:0≤t∧t<8:=by omega
 have hg:0≤g∧g<8:=by omega
 have hin:InS (vS X t).1:=Ar9 _
 have eS:=A.s t ht
 have hp:(vS X t).2=1:=by
  unfold Dk1 at h2
  split at h2
  ·rename_i e;rw [e];exact s4
  ·split at h2
   ·simp at h2
   ·rename_i h5
    exact Classical.byContradiction fun h=>h5 (.inl h)
 rw [eS] at hin hp ⊢
 obtain ⟨_,ok⟩:=(B.sz t ht.1 ht.2).resolve_left (fun e=>by rw [e] at hp;cases hp)
 exact ⟨_,A.ws ht (Hh9 ok hg) ⟨hin.a,hin.b,hin.c,hin.d⟩,B.set ht hp (Hh9 ok hg) rfl (.inl rfl) (fun h j a b=>B.nochild h j a b ht.1)⟩
theorem Gc6 {g:Int} (hg:0≤g∧g<12):∀ (l m:List Int),Bd6 l→m.length=12→(Bc5 l m).getD g.toNat 0=m.getD g.toNat 0+cnt (g+1) l
 | [],m,_,_=>by rw [Ea6];simp [Bc5]
 | f::l,m,hf,hm=>by
  have hr:=hf f (by simp)
  have hl:Bd6 l:=fun x hx=>hf x (by simp [hx])
  rw [show Bc5 (f::l) m=Bc5 l (if f>0 then m.set (f-1).toNat (m.getD (f-1).toNat 0+1) else m) from rfl,By6]
  by_cases hz:f>0
  ·rw [if_pos hz,Gc6 hg l _ hl (by simpa using hm)]
   by_cases he:f=g+1
   ·rw [if_pos he,show (f-1).toNat=g.toNat by omega,List.getD_eq_getElem?_getD,List.getElem?_set_self (by omega)]
    show m.getD g.toNat 0+1+_=_;omega
   ·rw [if_neg he,List.getD_eq_getElem?_getD,List.getElem?_set_ne (by omega),← List.getD_eq_getElem?_getD];omega
  ·rw [if_neg hz,Gc6 hg l m hl hm,if_neg (by omega)];omega
theorem I37 {p:ProcS} (h:Bd6 p.fds) {g:Int} (hg:0≤g∧g<12):(An0 p).getD g.toNat 0=cnt (g+1) p.fds:=by
 have:=Gc6 hg p.fds Ec6 h rfl
 rw [this]
 have hz:Ec6.getD g.toNat 0=0:=by
  have:g.toNat=0∨g.toNat=1∨g.toNat=2∨g.toNat=3∨g.toNat=4∨g.toNat=5∨g.toNat=6∨g.toNat=7∨g.toNat=8∨g.toNat=9∨g.toNat=10∨g.toNat=11:=by omega
  rcases this with h|h|h|h|h|h|h|h|h|h|h|h<;>rw [h]<;>rfl
 rw [hz];omega
theorem E54 {V:VW} {more:List Int}:∀ (l:List Int),Bx4 V more l=0→∀ f ∈ l,f≠0→(V.F (f-1)).2=1∧(V.F (f-1)).1.refs+more.getD (f-1).toNat 0≤64
 | [],_,f,h,_=>by simp at h
 | g::l,h,f,hm,hf=>by
  rw [Bx4] at h
  by_cases hg:g=0
  ·rw [if_pos hg] at h
   rcases List.mem_cons.1 hm with rfl|h2
   ·exact absurd hg hf
   ·exact E54 l h f h2 hf
  ·rw [if_neg hg] at h
   by_cases h1:(V.F (g-1)).2=1
   ·rw [if_neg (by simpa using h1)] at h
    by_cases h2:(V.F (g-1)).1.refs+more.getD (g-1).toNat 0>64
    ·rw [if_pos h2] at h;cases h
    ·rw [if_neg h2] at h
     rcases List.mem_cons.1 hm with rfl|h3
     ·exact ⟨h1,by omega⟩
     ·exact E54 l h f h3 hf
   ·rw [if_pos h1] at h;cases h
theorem H69 {V:VW}:∀ (m:Nat) (i:Int),0≤i→0≤Ba3 V m i→(i≤Ba3 V m i∧Ba3 V m i<i+m)∧(V.S (Ba3 V m i)).2=0
 | 0,i,h0,h=>by simp [Ba3] at h
 | m+1,i,h0,h=>by
  rw [Ba3] at h ⊢
  by_cases h1:(V.S i).2=0
  ·rw [if_pos h1];exact ⟨by omega,h1⟩
  ·rw [if_neg h1] at h ⊢
   obtain ⟨a,b⟩:=H69 m (i+1) (by omega) h
   exact ⟨by omega,b⟩
theorem SX.fork {X:CX} (H:SX X) {i:Int} (hi:0≤i∧i<8):SX (B93 X i).2:=by
 obtain ⟨V,A,B⟩:=H
 refine ⟨_,(A.fork hi).2,?_⟩
 have es:=A.self hi
 unfold Hv9
 by_cases h0:(Bg6 V i).2=0
 case neg=>rw [if_pos h0];exact B
 rw [if_neg (by simpa using h0)]
 obtain ⟨s1,s2,s3,s4⟩:=Bm9 A.c hi (by rw [es];exact h0)
 rw [A.s i hi] at s2 s3 s4
 by_cases h1:Ba3 V 8 0<0
 ·rw [if_pos h1];exact B
 rw [if_neg h1]
 by_cases h2:Bx4 V (An0 (V.S i).1) (V.S i).1.fds=0
 case neg=>rw [if_pos h2];exact B
 rw [if_neg (by simpa using h2)]
 obtain ⟨hc,hfree⟩:=H69 8 0 (by omega) (by omega:0≤Ba3 V 8 0)
 generalize Ba3 V 8 0=c at *
 have hcz:=(B.sz c (by omega) (by omega)).resolve_right (fun h=>by rw [hfree] at h;exact absurd h.1 (by decide))
 have hfd:=B19 s3
 have hm:=fun g hg=>I37 hfd (g:=g) hg
 have hsh:=E54 _ h2
 have hck:=E42 s3 s2 hi
 generalize An0 (V.S i).1=more at *
 have hnc:∀ j:Int,0≤j→j<8→(V.S j).1.parent≠c+1:=fun j a b e=>by
  have:=(B.par j a b (by omega)).2.1
  rw [e,show c+1-1=c by omega,hfree] at this;cases this
 have hci:c≠i:=fun e=>by rw [e,s4] at hfree;cases hfree
 have hFat:∀ g,(wS (Dr2 V more) c (P7 (V.S i).1 i)).F g=if more.getD g.toNat 0≠0 then (Bx1 (V.F g).1 (more.getD g.toNat 0),1) else V.F g:=fun _=>rfl
 have hmp:∀ g:Int,0≤g→g<12→more.getD g.toNat 0≠0→(V.F g).2=1∧(V.F g).1.refs+more.getD g.toNat 0≤64:=fun g a b h=>by
  have hcn:=hm g ⟨a,b⟩
  have:=Et3 (g+1) (V.S i).1.fds
  have hmem:=Jk7 (f:=g+1) (l:=(V.S i).1.fds) (by omega)
  have:=hsh (g+1) hmem (by omega)
  rwa [show g+1-1=g by omega] at this
 have hkp:∀ g:Int,((wS (Dr2 V more) c (P7 (V.S i).1 i)).F g).1.kind=(V.F g).1.kind∧((wS (Dr2 V more) c (P7 (V.S i).1 i)).F g).1.pipe=(V.F g).1.pipe:=fun g=>by
  rw [hFat];split<;>exact ⟨rfl,rfl⟩
 have hend:∀ k j,Af7 (wS (Dr2 V more) c (P7 (V.S i).1 i)).F k j=Af7 V.F k j:=fun k j=>E13 12 fun g _ _=>by
  unfold U0;rw [(hkp g).1,(hkp g).2]
 have hpres:∀ g:Int,(V.F g).2=1→((wS (Dr2 V more) c (P7 (V.S i).1 i)).F g).2=1:=fun g h=>by
  rw [hFat];split
  ·rfl
  ·exact h
 have hSat:∀ j,(wS (Dr2 V more) c (P7 (V.S i).1 i)).S j=if j=c then (P7 (V.S i).1 i,1) else V.S j:=fun _=>rfl
 refine ⟨fun j a b=>?_,fun g a b=>?_,B.pz,fun j a b h=>?_,fun j a b=>?_,fun g a b h=>?_,by omega,fun g a b h=>?_,fun j a b h=>?_⟩
 ·rw [hSat];split
  ·exact .inr ⟨rfl,hck⟩
  ·exact B.sz j a b
 ·have hk:=hkp g
  by_cases hz:more.getD g.toNat 0≠0
  ·obtain ⟨p1,p2⟩:=hmp g a b hz
   obtain ⟨_,ok,kd⟩:=(B.fz g a b).resolve_left (fun e=>by rw [e] at p1;cases p1)
   have:=Dt2 ok
   have hcn:=hm g ⟨a,b⟩
   have:=Et3 (g+1) (V.S i).1.fds
   right
   rw [hk.1,hk.2,hFat,if_pos hz]
   exact ⟨rfl,Dr1 ok (by omega),kd⟩
  ·rw [hk.1,hk.2,hFat,if_neg hz];exact B.fz g a b
 ·rw [hSat] at h ⊢
  by_cases hj:j=c
  ·rw [if_pos hj] at h ⊢
   have e:(P7 (V.S i).1 i).parent-1=i:=by show i+1-1=i;omega
   refine ⟨by show i+1≠j+1;omega,?_,?_⟩
   ·show ((wS (Dr2 V more) c (P7 (V.S i).1 i)).S ((P7 (V.S i).1 i).parent-1)).2=1
    rw [e,hSat,if_neg (fun h=>hci h.symm)];exact s4
   ·show ((wS (Dr2 V more) c (P7 (V.S i).1 i)).S ((P7 (V.S i).1 i).parent-1)).1.state≠2
    rw [e,hSat,if_neg (fun h=>hci h.symm)];omega
  ·rw [if_neg hj] at h ⊢
   have:=B.par j a b h
   rw [hSat,if_neg (fun h=>hnc j a b (by omega))]
   exact this
 ·rw [hSat];split
  ·intro f hf h0
   exact hpres _ (B.fd i hi.1 hi.2 f hf h0)
  ·intro f hf h0
   exact hpres _ (B.fd j a b f hf h0)
 ·have hq:Bb5 (wS (Dr2 V more) c (P7 (V.S i).1 i)).S g=Bb5 V.S g-cnt (g+1) (V.S c).1.fds+cnt (g+1) (V.S i).1.fds:=H71 (V:=Dr2 V more) (by omega) _ g
  rw [hq,hcz,if_neg (by omega)]
  show _=_-cnt (g+1) Av8+_+_
  rw [G47 a,← hm g ⟨a,b⟩]
  by_cases hz:more.getD g.toNat 0≠0
  ·have:=B.refs0 a b (hmp g a b hz).1
   rw [hFat,if_pos hz];show (V.F g).1.refs+_=_;omega
  ·rw [hFat,if_neg hz] at h ⊢
   have:=B.refs0 a b h
   have hz':more.getD g.toNat 0=0:=by simpa using hz
   omega
 ·rw [(hkp g).1] at h
  show ((V.P ((wS (Dr2 V more) c (P7 (V.S i).1 i)).F g).1.pipe)).2=1
  rw [(hkp g).2];exact B.pipe g a b h
 ·rw [hend,hend];exact B.ends j a b h
theorem G96 {l0:List HP} {h:NN.H} {α:Type} {Q:α→NN.H→Prop} {z:Option (α × NN.H)} {ro:Bool} {a:Option Addr} {c:Nat} {l:List UInt8} (i:Nat) (hi:l0[i]?=some (slC ro A3 1 a l.length c (A0 l))) (j m:Nat) (hj:j+m≤l.length) (hm:0<m)
  (k:∀ pb,IsSl pb (I0 a (decide (j<c)) (j*1)) ro A3 1 m (c-j) (A0 ((l.drop j).take m))→(∀ (h':NN.H) (r:List HP),Own h' (pb::r)→Own h' (slC ro A3 1 a l.length c (A0 l)::r))→Tr (l0.set i pb) h z Q):Tr l0 h z Q:=fun o=>by
 have o1:=o.front hi
 cases a with
 | none =>
  obtain ⟨h1,_⟩:=o1.slNone
  omega
 | some x =>
  obtain ⟨b,o',sp⟩:=x
  obtain ⟨pre,post,o2,h1,h2,h3,h4,h5,h6,h7⟩:=o1.slOpen
  have hjc:j<c:=by omega
  have ho:=h4 (by omega)
  have hbl:(A0 l).length=l.length:=by simp [A0]
  have e0:A0 l=A0 (l.take j)++(A0 ((l.drop j).take m)++A0 (l.drop (j+m))):=by
   unfold A0
   rw [← List.map_append,← List.map_append,← List.drop_drop,List.take_append_drop,List.take_append_drop]
  have e1:pre++A0 l++post=(pre++A0 (l.take j))++A0 ((l.drop j).take m)++(A0 (l.drop (j+m))++post):=by
   rw [e0];simp only [List.append_assoc]
  have hlen:(A0 ((l.drop j).take m)).length=m:=by simp [A0];omega
  have hP:(m*1=(A0 ((l.drop j).take m)).length∧m≤c-j∧(c-j-m)*1≤(A0 (l.drop (j+m))++post).length∧(0<c-j→o'+j*1=(pre++A0 (l.take j)).length)∧(sp≠none→ro=false)∧0<1∧(c-j=0→o'+j*1≤(pre++A0 (l.take j)).length)):=by
   have hb1:(A0 (l.drop (j+m))).length=l.length-(j+m):=by simp [A0]
   have hb2:(A0 (l.take j)).length=j:=by simp [A0];omega
   simp only [List.length_append,hb1,hb2]
   refine ⟨by omega,by omega,by omega,fun _=>by omega,h5,by omega,fun _=>by omega⟩
  rw [decide_eq_true hjc,Du7] at k
  refine k (slX ro A3 1 (some ⟨b,o'+j*1,sp⟩) m (c-j) (pre++A0 (l.take j),A0 (l.drop (j+m))++post) (A0 ((l.drop j).take m))) inferInstance (fun h' r o3=>?_) ?_
  ·have o4:=Own.star2 o3
   have o5:=(o4.perm (List.Perm.swap _ _ _)).tail
   rw [← e1] at o5
   exact Own.slShut o5 ⟨h1,h2,h3,h4,h5,h6,h7⟩
  ·rw [e1] at o2
   exact Own.back (h:=h) hi (Own.unstar ((Own.inpure hP o2).perm (List.Perm.swap _ _ _)))
abbrev isL (n:Nat) (f:Nat→Int):List Value:=(List.range n).map fun i=>int (f i)
theorem Ex7 (n:Nat) (f:Nat→Int):isL (n+1) f=isL n f++[int (f n)]:=by unfold isL;rw [List.range_succ,List.map_append];rfl
theorem Du0 (f:Nat→Int) {i n:Nat} (h:i<n):(isL n f)[i]?=some (int (f i)):=by unfold isL;rw [List.getElem?_map,List.getElem?_range h];rfl
abbrev atR (l:List UInt8) (at0 S i:Nat):List UInt8:=(l.drop (at0+S*i)).take S
abbrev D66 (n:Nat) (f:Nat→ProcS):List Value:=(List.range n).flatMap fun i=>B7 (f i)
theorem Ip5 (n:Nat) (f:Nat→ProcS):D66 (n+1) f=D66 n f++(B7 (f n)):=by unfold D66;rw [List.range_succ,List.flatMap_append];simp
theorem Gx4 (b10 b11:Nat) (a:Option Addr) (cc:Nat) (l:List UInt8) (at0 n:Nat) (hl:at0+24*n≤l.length) (h1k:l.length≤1000):∀ (m i:Nat) (a1 a2:Option Addr) (c1 c2:Nat),i+m=n →
  CtJ D6 Q0 Am7 [(0,.slice a l.length cc),(1,int at0),(2,int 24),(4,.func (.func Af4) ⟨[]⟩ ⟨[]⟩),(10,P0 b10),(11,P0 b11),(15,int n),(16,int i)] [slC false A3 1 a l.length cc (A0 l),pt b10 (.cells W2 false [.slice none 0 0,.slice none 0 0]),pt b11 (.cells W2 false [.slice a1 i c1,.slice a2 i c2]),slC false A7 16 a1 i c1 (D66 i fun j=>(O2 (atR l at0 24 j)).1),slC false A8 1 a2 i c2 (isL i fun j=>(O2 (atR l at0 24 j)).2)] fun v own =>
   ∃ a1 c1 a2 c2,v=.agg ⟨[.slice a1 n c1,.slice a2 n c2]⟩∧own [slC false A3 1 a l.length cc (A0 l),slC false A7 16 a1 n c1 (D66 n fun j=>(O2 (atR l at0 24 j)).1),slC false A8 1 a2 n c2 (isL n fun j=>(O2 (atR l at0 24 j)).2)]
 | 0,i,a1,a2,c1,c2,hi=>by
  obtain rfl:i=n:=by omega
  refine CtJ.of Bj8 fun h r=>Tr.eq (B01 ..) ?_;refine Je ?_
  refine Yf (by simp) ?_
  (refine Ja ?_;intros)
  refine Ys fun o=>?_
  exact ⟨a1,c1,a2,c2,rfl,o.sub⟩
 | m+1,i,a1,a2,c1,c2,hi=>by
  have e1:=wN i
  have e2:IntKind.wrap .i64 ((at0:Int)+IntKind.wrap .i64 (24*((i+1:Nat):Int)))=((at0+24*i+24:Nat):Int):=by simp only [B4];omega
  have e3:IntKind.wrap .i64 ((at0:Int)+IntKind.wrap .i64 (24*(i:Int)))=((at0+24*i:Nat):Int):=by simp only [B4];omega
  have hw:(atR l at0 24 i).length=24:=by simp;omega
  have ih:=fun a1 a2 c1 c2=>Gx4 b10 b11 a cc l at0 n hl h1k m (i+1) a1 a2 c1 c2 (by omega)
  rw [Ip5,Ex7] at ih
  refine CtJ.of Bj8 fun h r=>Tr.eq (B01 ..) ?_;refine Je ?_
  refine Yt (by simp;omega) ?_
  rw [e1,e2,e3]
  refine S5 0 rfl fun hl2 hc2 _=>?_
  (refine Ja ?_;intros)
  refine Tr.ck (by omega) ?_
  refine Tr.ck (by omega) ?_
  simp only [Int.toNat_natCast,show at0+24*i+24-(at0+24*i)=24 by omega]
  refine G96 0 rfl (at0+24*i) 24 (by omega) (by omega) fun pb hpb back=>?_
  refine (?_:Tr (pb::_) _ _ _)
  have J:=Gv4 pb false _ _ (atR l at0 24 i) hw (ks:=hpb)
  generalize O2 (atR l at0 24 i)=q at *
  rw [Nat.mul_one] at J
  simp only [List.nil_append,List.append_nil]
  refine Yc J ?_
  rintro _ h ⟨rfl,o⟩
  replace o:=back _ _ o
  clear back J hpb
  simp only [List.append_eq,List.nil_append] at o
  refine Jh o ?_
  (refine Jc ?_;intros)
  refine Yn fun b1 h=>?_
  (refine Jc ?_;intros)
  refine Yn fun b2 h=>?_
  (refine Ja ?_;intros)
  refine Tr.xCellsB (xs:=B7 (q.1)) (Dv0 (Bl3 (Aj4 q.1))) ?_
  (refine Ja ?_;intros)
  refine Tr.xApd (new:=B7 (q.1)) ⟨Aj4 q.1,Ho8 q.1,by simp only [A9];omega⟩ fun a3 c3 h=>?_
  (refine Ja ?_;intros)
  refine Tr.xApd (new:=[int q.2]) ⟨rfl,rfl,by simp only [A9];omega⟩ fun a4 c4 h=>?_
  (refine Ja ?_;intros)
  simp only [List.set_cons_zero,List.set_cons_succ]
  refine B9 [3,3,3,3,3] 3 rfl rfl ?_
  exact Yr (ih a3 a4 c3 c4) fun v h q=>q
theorem Jd1 (a:Option Addr) (cc:Nat) (l:List UInt8) (at0 n:Nat) (hl:at0+24*n≤l.length) (h1k:l.length≤1000):Ct A6 Q0 [.slice a l.length cc,int at0,int 24,int n,.func (.func Af4) ⟨[]⟩ ⟨[]⟩] [slC false A3 1 a l.length cc (A0 l)] fun v own =>
   ∃ a1 c1 a2 c2,v=.agg ⟨[.slice a1 n c1,.slice a2 n c2]⟩∧own [slC false A3 1 a l.length cc (A0 l),slC false A7 16 a1 n c1 (D66 n fun j=>(O2 (atR l at0 24 j)).1),slC false A8 1 a2 n c2 (isL n fun j=>(O2 (atR l at0 24 j)).2)]:=by
 refine Ct.of Bj8 rfl fun h r=>Tr.eq (Ev4 ..) ?_;refine Je ?_
 refine Yn fun b10 h=>?_
 refine Yn fun b11 h=>?_
 refine E6 false A8 1 (by omega) ?_
 refine E6 false A7 16 (by omega) ?_
 refine B9 [4,3,2,0,0] 0 rfl rfl ?_
 refine (?_:Tr (_::_::_::slC false A7 16 none 0 0 (D66 0 fun j=>(O2 (atR l at0 24 j)).1)::slC false A8 1 none 0 0 (isL 0 fun j=>(O2 (atR l at0 24 j)).2)::_) _ _ _)
 exact Yr (Gx4 b10 b11 a cc l at0 n hl h1k n 0 none none 0 0 (Nat.zero_add _)) fun v h q=>q
theorem G82 (kind:Int) (n:Nat) (a2:Option Addr) (c2:Nat) (f:Nat→Int) (hf:∀ i,i<n→f i≠2) (hn:n≤100):∀ (m i:Nat),i+m=n →
  CtJ D6 G7 Q3 [(1,int kind),(5,.slice none 0 0),(9,.slice a2 n c2),(10,int n),(11,int i)] [slC false A8 1 a2 n c2 (isL n f)] fun v own=>v=.slice none 0 0∧own [slC false A8 1 a2 n c2 (isL n f)]
 | 0,i,hi=>by
  obtain rfl:i=n:=by omega
  refine CtJ.of As5 fun h r=>Tr.eq (A73 ..) ?_;refine Je ?_
  refine Yf (by simp) ?_
  refine Ys fun o=>?_
  exact ⟨rfl,o.sub⟩
 | m+1,i,hi=>by
  have e1:=wN i
  have hx:=Du0 f (i:=i) (n:=n) (by omega)
  have h2:=hf i (by omega)
  have ih:=G82 kind n a2 c2 f hf hn m (i+1) (by omega)
  generalize isL n f=cs at *
  generalize f i=x at *
  refine CtJ.of As5 fun h r=>Tr.eq (A73 ..) ?_;refine Je ?_
  refine Yt (by simp;omega) ?_
  rw [e1]
  (refine Jb ?_;intros;repeat(refine Gw ?_;rintro px rfl;refine Jb ?_;intros))
  refine Yf (by simpa using h2) ?_
  exact Yr ih fun v h q=>q
theorem Jk5 (kind:Int) (n:Nat) (a1 a2:Option Addr) (c1 c2:Nat) (f:Nat→Int) (hf:∀ i,i<n→f i≠2) (hn:n≤100):Ct A6 G7 [.agg ⟨[.slice a1 n c1,.slice a2 n c2]⟩,int kind] [slC false A8 1 a2 n c2 (isL n f)] fun v own=>v=.slice none 0 0∧own [slC false A8 1 a2 n c2 (isL n f)]:=by
 refine Ct.of As5 rfl fun h r=>Tr.eq (Dr0 ..) ?_;refine Je ?_
 (refine Ja ?_;intros)
 refine B9 [1] 1 rfl rfl ?_
 exact Yr (G82 kind n a2 c2 f hf hn n 0 (Nat.zero_add _)) fun v h q=>q
theorem I33 (n:Nat) (a1 a2:Option Addr) (c1 c2:Nat) (f:Nat→Int) (i:Int) (hi:0≤i∧i<n):Ct A6 Ab8 [.agg ⟨[.slice a1 n c1,.slice a2 n c2]⟩,int i] [slC false A8 1 a2 n c2 (isL n f)] fun v own=>v=.bool (f i.toNat==1)∧own [slC false A8 1 a2 n c2 (isL n f)]:=by
 have hx:=Du0 f (i:=i.toNat) (n:=n) (by omega)
 generalize isL n f=cs at *
 generalize f i.toNat=x at *
 refine Ct.of Di0 rfl fun h r=>Tr.eq (Dn1 ..) ?_;refine Je ?_
 (refine Jb ?_;intros;repeat(refine Gw ?_;rintro px rfl;refine Jb ?_;intros))
 refine Ys fun o=>?_
 exact ⟨rfl,o.sub⟩
abbrev D69 (n:Nat) (f:Nat→FileS):List Value:=(List.range n).flatMap fun i=>Ag6 (f i)
theorem Ip6 (n:Nat) (f:Nat→FileS):D69 (n+1) f=D69 n f++(Ag6 (f n)):=by unfold D69;rw [List.range_succ,List.flatMap_append];simp
theorem Gw4 (b10 b11:Nat) (a:Option Addr) (cc:Nat) (l:List UInt8) (at0 n:Nat) (hl:at0+8*n≤l.length) (h1k:l.length≤1000):∀ (m i:Nat) (a1 a2:Option Addr) (c1 c2:Nat),i+m=n →
  CtJ D6 Q1 Ap2 [(0,.slice a l.length cc),(1,int at0),(2,int 8),(4,.func (.func Ae7) ⟨[]⟩ ⟨[]⟩),(10,P0 b10),(11,P0 b11),(15,int n),(16,int i)] [slC false A3 1 a l.length cc (A0 l),pt b10 (.cells W3 false [.slice none 0 0,.slice none 0 0]),pt b11 (.cells W3 false [.slice a1 i c1,.slice a2 i c2]),slC false D2 4 a1 i c1 (D69 i fun j=>(P3 (atR l at0 8 j)).1),slC false A8 1 a2 i c2 (isL i fun j=>(P3 (atR l at0 8 j)).2)] fun v own =>
   ∃ a1 c1 a2 c2,v=.agg ⟨[.slice a1 n c1,.slice a2 n c2]⟩∧own [slC false A3 1 a l.length cc (A0 l),slC false D2 4 a1 n c1 (D69 n fun j=>(P3 (atR l at0 8 j)).1),slC false A8 1 a2 n c2 (isL n fun j=>(P3 (atR l at0 8 j)).2)]
 | 0,i,a1,a2,c1,c2,hi=>by
  obtain rfl:i=n:=by omega
  refine CtJ.of Bj7 fun h r=>Tr.eq (Bz1 ..) ?_;refine Je ?_
  refine Yf (by simp) ?_
  (refine Ja ?_;intros)
  refine Ys fun o=>?_
  exact ⟨a1,c1,a2,c2,rfl,o.sub⟩
 | m+1,i,a1,a2,c1,c2,hi=>by
  have e1:=wN i
  have e2:IntKind.wrap .i64 ((at0:Int)+IntKind.wrap .i64 (8*((i+1:Nat):Int)))=((at0+8*i+8:Nat):Int):=by simp only [B4];omega
  have e3:IntKind.wrap .i64 ((at0:Int)+IntKind.wrap .i64 (8*(i:Int)))=((at0+8*i:Nat):Int):=by simp only [B4];omega
  have hw:(atR l at0 8 i).length=8:=by simp;omega
  have ih:=fun a1 a2 c1 c2=>Gw4 b10 b11 a cc l at0 n hl h1k m (i+1) a1 a2 c1 c2 (by omega)
  rw [Ip6,Ex7] at ih
  refine CtJ.of Bj7 fun h r=>Tr.eq (Bz1 ..) ?_;refine Je ?_
  refine Yt (by simp;omega) ?_
  rw [e1,e2,e3]
  refine S5 0 rfl fun hl2 hc2 _=>?_
  (refine Ja ?_;intros)
  refine Tr.ck (by omega) ?_
  refine Tr.ck (by omega) ?_
  simp only [Int.toNat_natCast,show at0+8*i+8-(at0+8*i)=8 by omega]
  refine G96 0 rfl (at0+8*i) 8 (by omega) (by omega) fun pb hpb back=>?_
  refine (?_:Tr (pb::_) _ _ _)
  have J:=Gy9 pb false _ _ (atR l at0 8 i) hw (ks:=hpb)
  generalize P3 (atR l at0 8 i)=q at *
  rw [Nat.mul_one] at J
  simp only [List.nil_append,List.append_nil]
  refine Yc J ?_
  rintro _ h ⟨rfl,o⟩
  replace o:=back _ _ o
  clear back J hpb
  simp only [List.append_eq,List.nil_append] at o
  refine Jh o ?_
  (refine Jc ?_;intros)
  refine Yn fun b1 h=>?_
  (refine Jc ?_;intros)
  refine Yn fun b2 h=>?_
  (refine Ja ?_;intros)
  refine Tr.xApd (new:=Ag6 (q.1)) ⟨rfl,rfl,by simp only [A9];omega⟩ fun a3 c3 h=>?_
  (refine Ja ?_;intros)
  refine Tr.xApd (new:=[int q.2]) ⟨rfl,rfl,by simp only [A9];omega⟩ fun a4 c4 h=>?_
  (refine Ja ?_;intros)
  simp only [List.set_cons_zero,List.set_cons_succ]
  refine B9 [3,3,3,3,3] 3 rfl rfl ?_
  exact Yr (ih a3 a4 c3 c4) fun v h q=>q
theorem Ja0 (a:Option Addr) (cc:Nat) (l:List UInt8) (at0 n:Nat) (hl:at0+8*n≤l.length) (h1k:l.length≤1000):Ct A6 Q1 [.slice a l.length cc,int at0,int 8,int n,.func (.func Ae7) ⟨[]⟩ ⟨[]⟩] [slC false A3 1 a l.length cc (A0 l)] fun v own =>
   ∃ a1 c1 a2 c2,v=.agg ⟨[.slice a1 n c1,.slice a2 n c2]⟩∧own [slC false A3 1 a l.length cc (A0 l),slC false D2 4 a1 n c1 (D69 n fun j=>(P3 (atR l at0 8 j)).1),slC false A8 1 a2 n c2 (isL n fun j=>(P3 (atR l at0 8 j)).2)]:=by
 refine Ct.of Bj7 rfl fun h r=>Tr.eq (Eu6 ..) ?_;refine Je ?_
 refine Yn fun b10 h=>?_
 refine Yn fun b11 h=>?_
 refine E6 false A8 1 (by omega) ?_
 refine E6 false D2 4 (by omega) ?_
 refine B9 [4,3,2,0,0] 0 rfl rfl ?_
 refine (?_:Tr (_::_::_::slC false D2 4 none 0 0 (D69 0 fun j=>(P3 (atR l at0 8 j)).1)::slC false A8 1 none 0 0 (isL 0 fun j=>(P3 (atR l at0 8 j)).2)::_) _ _ _)
 exact Yr (Gw4 b10 b11 a cc l at0 n hl h1k n 0 none none 0 0 (Nat.zero_add _)) fun v h q=>q
theorem G75 (kind:Int) (n:Nat) (a2:Option Addr) (c2:Nat) (f:Nat→Int) (hf:∀ i,i<n→f i≠2) (hn:n≤100):∀ (m i:Nat),i+m=n →
  CtJ D6 G6 Q4 [(1,int kind),(5,.slice none 0 0),(9,.slice a2 n c2),(10,int n),(11,int i)] [slC false A8 1 a2 n c2 (isL n f)] fun v own=>v=.slice none 0 0∧own [slC false A8 1 a2 n c2 (isL n f)]
 | 0,i,hi=>by
  obtain rfl:i=n:=by omega
  refine CtJ.of Ar5 fun h r=>Tr.eq (A72 ..) ?_;refine Je ?_
  refine Yf (by simp) ?_
  refine Ys fun o=>?_
  exact ⟨rfl,o.sub⟩
 | m+1,i,hi=>by
  have e1:=wN i
  have hx:=Du0 f (i:=i) (n:=n) (by omega)
  have h2:=hf i (by omega)
  have ih:=G75 kind n a2 c2 f hf hn m (i+1) (by omega)
  generalize isL n f=cs at *
  generalize f i=x at *
  refine CtJ.of Ar5 fun h r=>Tr.eq (A72 ..) ?_;refine Je ?_
  refine Yt (by simp;omega) ?_
  rw [e1]
  (refine Jb ?_;intros;repeat(refine Gw ?_;rintro px rfl;refine Jb ?_;intros))
  refine Yf (by simpa using h2) ?_
  exact Yr ih fun v h q=>q
theorem Jn6 (kind:Int) (n:Nat) (a1 a2:Option Addr) (c1 c2:Nat) (f:Nat→Int) (hf:∀ i,i<n→f i≠2) (hn:n≤100):Ct A6 G6 [.agg ⟨[.slice a1 n c1,.slice a2 n c2]⟩,int kind] [slC false A8 1 a2 n c2 (isL n f)] fun v own=>v=.slice none 0 0∧own [slC false A8 1 a2 n c2 (isL n f)]:=by
 refine Ct.of Ar5 rfl fun h r=>Tr.eq (Dt9 ..) ?_;refine Je ?_
 (refine Ja ?_;intros)
 refine B9 [1] 1 rfl rfl ?_
 exact Yr (G75 kind n a2 c2 f hf hn n 0 (Nat.zero_add _)) fun v h q=>q
theorem Hm9 (n:Nat) (a1 a2:Option Addr) (c1 c2:Nat) (f:Nat→Int) (i:Int) (hi:0≤i∧i<n):Ct A6 S8 [.agg ⟨[.slice a1 n c1,.slice a2 n c2]⟩,int i] [slC false A8 1 a2 n c2 (isL n f)] fun v own=>v=.bool (f i.toNat==1)∧own [slC false A8 1 a2 n c2 (isL n f)]:=by
 have hx:=Du0 f (i:=i.toNat) (n:=n) (by omega)
 generalize isL n f=cs at *
 generalize f i.toNat=x at *
 refine Ct.of Di7 rfl fun h r=>Tr.eq (Dk0 ..) ?_;refine Je ?_
 (refine Jb ?_;intros;repeat(refine Gw ?_;rintro px rfl;refine Jb ?_;intros))
 refine Ys fun o=>?_
 exact ⟨rfl,o.sub⟩
abbrev D80 (n:Nat) (f:Nat→PipeS):List Value:=(List.range n).flatMap fun i=>I8 (f i)
theorem Iq0 (n:Nat) (f:Nat→PipeS):D80 (n+1) f=D80 n f++(I8 (f n)):=by unfold D80;rw [List.range_succ,List.flatMap_append];simp
theorem Gv1 (b10 b11:Nat) (a:Option Addr) (cc:Nat) (l:List UInt8) (at0 n:Nat) (hl:at0+40*n≤l.length) (h1k:l.length≤1000):∀ (m i:Nat) (a1 a2:Option Addr) (c1 c2:Nat),i+m=n →
  CtJ D6 M8 An1 [(0,.slice a l.length cc),(1,int at0),(2,int 40),(4,.func (.func Z7) ⟨[]⟩ ⟨[]⟩),(10,P0 b10),(11,P0 b11),(15,int n),(16,int i)] [slC false A3 1 a l.length cc (A0 l),pt b10 (.cells W0 false [.slice none 0 0,.slice none 0 0]),pt b11 (.cells W0 false [.slice a1 i c1,.slice a2 i c2]),slC false D9 36 a1 i c1 (D80 i fun j=>(N4 (atR l at0 40 j)).1),slC false A8 1 a2 i c2 (isL i fun j=>(N4 (atR l at0 40 j)).2)] fun v own =>
   ∃ a1 c1 a2 c2,v=.agg ⟨[.slice a1 n c1,.slice a2 n c2]⟩∧own [slC false A3 1 a l.length cc (A0 l),slC false D9 36 a1 n c1 (D80 n fun j=>(N4 (atR l at0 40 j)).1),slC false A8 1 a2 n c2 (isL n fun j=>(N4 (atR l at0 40 j)).2)]
 | 0,i,a1,a2,c1,c2,hi=>by
  obtain rfl:i=n:=by omega
  refine CtJ.of Bk4 fun h r=>Tr.eq (Bx9 ..) ?_;refine Je ?_
  refine Yf (by simp) ?_
  (refine Ja ?_;intros)
  refine Ys fun o=>?_
  exact ⟨a1,c1,a2,c2,rfl,o.sub⟩
 | m+1,i,a1,a2,c1,c2,hi=>by
  have e1:=wN i
  have e2:IntKind.wrap .i64 ((at0:Int)+IntKind.wrap .i64 (40*((i+1:Nat):Int)))=((at0+40*i+40:Nat):Int):=by simp only [B4];omega
  have e3:IntKind.wrap .i64 ((at0:Int)+IntKind.wrap .i64 (40*(i:Int)))=((at0+40*i:Nat):Int):=by simp only [B4];omega
  have hw:(atR l at0 40 i).length=40:=by simp;omega
  have ih:=fun a1 a2 c1 c2=>Gv1 b10 b11 a cc l at0 n hl h1k m (i+1) a1 a2 c1 c2 (by omega)
  rw [Iq0,Ex7] at ih
  refine CtJ.of Bk4 fun h r=>Tr.eq (Bx9 ..) ?_;refine Je ?_
  refine Yt (by simp;omega) ?_
  rw [e1,e2,e3]
  refine S5 0 rfl fun hl2 hc2 _=>?_
  (refine Ja ?_;intros)
  refine Tr.ck (by omega) ?_
  refine Tr.ck (by omega) ?_
  simp only [Int.toNat_natCast,show at0+40*i+40-(at0+40*i)=40 by omega]
  refine G96 0 rfl (at0+40*i) 40 (by omega) (by omega) fun pb hpb back=>?_
  refine (?_:Tr (pb::_) _ _ _)
  have J:=Gy1 pb false _ _ (atR l at0 40 i) hw (ks:=hpb)
  generalize N4 (atR l at0 40 i)=q at *
  rw [Nat.mul_one] at J
  simp only [List.nil_append,List.append_nil]
  refine Yc J ?_
  rintro _ h ⟨rfl,o⟩
  replace o:=back _ _ o
  clear back J hpb
  simp only [List.append_eq,List.nil_append] at o
  refine Jh o ?_
  (refine Jc ?_;intros)
  refine Yn fun b1 h=>?_
  (refine Jc ?_;intros)
  refine Yn fun b2 h=>?_
  (refine Ja ?_;intros)
  refine Tr.xCellsB (xs:=I8 (q.1)) (Dv0 (Bl3 (Bc3 (q.1).len))) ?_
  (refine Ja ?_;intros)
  refine Tr.xApd (new:=I8 (q.1)) ⟨Bc3 (q.1).len,Hp3 q.1,by simp only [A9];omega⟩ fun a3 c3 h=>?_
  (refine Ja ?_;intros)
  refine Tr.xApd (new:=[int q.2]) ⟨rfl,rfl,by simp only [A9];omega⟩ fun a4 c4 h=>?_
  (refine Ja ?_;intros)
  simp only [List.set_cons_zero,List.set_cons_succ]
  refine B9 [3,3,3,3,3] 3 rfl rfl ?_
  exact Yr (ih a3 a4 c3 c4) fun v h q=>q
theorem H09 (a:Option Addr) (cc:Nat) (l:List UInt8) (at0 n:Nat) (hl:at0+40*n≤l.length) (h1k:l.length≤1000):Ct A6 M8 [.slice a l.length cc,int at0,int 40,int n,.func (.func Z7) ⟨[]⟩ ⟨[]⟩] [slC false A3 1 a l.length cc (A0 l)] fun v own =>
   ∃ a1 c1 a2 c2,v=.agg ⟨[.slice a1 n c1,.slice a2 n c2]⟩∧own [slC false A3 1 a l.length cc (A0 l),slC false D9 36 a1 n c1 (D80 n fun j=>(N4 (atR l at0 40 j)).1),slC false A8 1 a2 n c2 (isL n fun j=>(N4 (atR l at0 40 j)).2)]:=by
 refine Ct.of Bk4 rfl fun h r=>Tr.eq (Et4 ..) ?_;refine Je ?_
 refine Yn fun b10 h=>?_
 refine Yn fun b11 h=>?_
 refine E6 false A8 1 (by omega) ?_
 refine E6 false D9 36 (by omega) ?_
 refine B9 [4,3,2,0,0] 0 rfl rfl ?_
 refine (?_:Tr (_::_::_::slC false D9 36 none 0 0 (D80 0 fun j=>(N4 (atR l at0 40 j)).1)::slC false A8 1 none 0 0 (isL 0 fun j=>(N4 (atR l at0 40 j)).2)::_) _ _ _)
 exact Yr (Gv1 b10 b11 a cc l at0 n hl h1k n 0 none none 0 0 (Nat.zero_add _)) fun v h q=>q
theorem Hf3 (kind:Int) (n:Nat) (a2:Option Addr) (c2:Nat) (f:Nat→Int) (hf:∀ i,i<n→f i≠2) (hn:n≤100):∀ (m i:Nat),i+m=n →
  CtJ D6 E9 Q5 [(1,int kind),(5,.slice none 0 0),(9,.slice a2 n c2),(10,int n),(11,int i)] [slC false A8 1 a2 n c2 (isL n f)] fun v own=>v=.slice none 0 0∧own [slC false A8 1 a2 n c2 (isL n f)]
 | 0,i,hi=>by
  obtain rfl:i=n:=by omega
  refine CtJ.of At1 fun h r=>Tr.eq (A75 ..) ?_;refine Je ?_
  refine Yf (by simp) ?_
  refine Ys fun o=>?_
  exact ⟨rfl,o.sub⟩
 | m+1,i,hi=>by
  have e1:=wN i
  have hx:=Du0 f (i:=i) (n:=n) (by omega)
  have h2:=hf i (by omega)
  have ih:=Hf3 kind n a2 c2 f hf hn m (i+1) (by omega)
  generalize isL n f=cs at *
  generalize f i=x at *
  refine CtJ.of At1 fun h r=>Tr.eq (A75 ..) ?_;refine Je ?_
  refine Yt (by simp;omega) ?_
  rw [e1]
  (refine Jb ?_;intros;repeat(refine Gw ?_;rintro px rfl;refine Jb ?_;intros))
  refine Yf (by simpa using h2) ?_
  exact Yr ih fun v h q=>q
theorem Il4 (kind:Int) (n:Nat) (a1 a2:Option Addr) (c1 c2:Nat) (f:Nat→Int) (hf:∀ i,i<n→f i≠2) (hn:n≤100):Ct A6 E9 [.agg ⟨[.slice a1 n c1,.slice a2 n c2]⟩,int kind] [slC false A8 1 a2 n c2 (isL n f)] fun v own=>v=.slice none 0 0∧own [slC false A8 1 a2 n c2 (isL n f)]:=by
 refine Ct.of At1 rfl fun h r=>Tr.eq (Dq5 ..) ?_;refine Je ?_
 (refine Ja ?_;intros)
 refine B9 [1] 1 rfl rfl ?_
 exact Yr (Hf3 kind n a2 c2 f hf hn n 0 (Nat.zero_add _)) fun v h q=>q
theorem Hq1 (n:Nat) (a1 a2:Option Addr) (c1 c2:Nat) (f:Nat→Int) (i:Int) (hi:0≤i∧i<n):Ct A6 R0 [.agg ⟨[.slice a1 n c1,.slice a2 n c2]⟩,int i] [slC false A8 1 a2 n c2 (isL n f)] fun v own=>v=.bool (f i.toNat==1)∧own [slC false A8 1 a2 n c2 (isL n f)]:=by
 have hx:=Du0 f (i:=i.toNat) (n:=n) (by omega)
 generalize isL n f=cs at *
 generalize f i.toNat=x at *
 refine Ct.of Dl4 rfl fun h r=>Tr.eq (Dg9 ..) ?_;refine Je ?_
 (refine Jb ?_;intros;repeat(refine Gw ?_;rintro px rfl;refine Jb ?_;intros))
 refine Ys fun o=>?_
 exact ⟨rfl,o.sub⟩
abbrev E24 (n:Nat) (f:Nat→Int):List Value:=(List.range n).flatMap fun i=>[int (f i)]
theorem Io8 (n:Nat) (f:Nat→Int):E24 (n+1) f=E24 n f++([int (f n)]):=by unfold E24;rw [List.range_succ,List.flatMap_append];simp
theorem Gx9 (b10 b11:Nat) (a:Option Addr) (cc:Nat) (l:List UInt8) (at0 n:Nat) (hl:at0+4*n≤l.length) (h1k:l.length≤1000):∀ (m i:Nat) (a1 a2:Option Addr) (c1 c2:Nat),i+m=n →
  CtJ D6 Ad9 A65 [(0,.slice a l.length cc),(1,int at0),(2,int 4),(4,.func (.func V8) ⟨[]⟩ ⟨[]⟩),(10,P0 b10),(11,P0 b11),(15,int n),(16,int i)] [slC false A3 1 a l.length cc (A0 l),pt b10 (.cells Ar3 false [.slice none 0 0,.slice none 0 0]),pt b11 (.cells Ar3 false [.slice a1 i c1,.slice a2 i c2]),slC false A8 1 a1 i c1 (E24 i fun j=>(Ad3 (atR l at0 4 j)).1),slC false A8 1 a2 i c2 (isL i fun j=>(Ad3 (atR l at0 4 j)).2)] fun v own =>
   ∃ a1 c1 a2 c2,v=.agg ⟨[.slice a1 n c1,.slice a2 n c2]⟩∧own [slC false A3 1 a l.length cc (A0 l),slC false A8 1 a1 n c1 (E24 n fun j=>(Ad3 (atR l at0 4 j)).1),slC false A8 1 a2 n c2 (isL n fun j=>(Ad3 (atR l at0 4 j)).2)]
 | 0,i,a1,a2,c1,c2,hi=>by
  obtain rfl:i=n:=by omega
  refine CtJ.of Db0 fun h r=>Tr.eq (Dp7 ..) ?_;refine Je ?_
  refine Yf (by simp) ?_
  (refine Ja ?_;intros)
  refine Ys fun o=>?_
  exact ⟨a1,c1,a2,c2,rfl,o.sub⟩
 | m+1,i,a1,a2,c1,c2,hi=>by
  have e1:=wN i
  have e2:IntKind.wrap .i64 ((at0:Int)+IntKind.wrap .i64 (4*((i+1:Nat):Int)))=((at0+4*i+4:Nat):Int):=by simp only [B4];omega
  have e3:IntKind.wrap .i64 ((at0:Int)+IntKind.wrap .i64 (4*(i:Int)))=((at0+4*i:Nat):Int):=by simp only [B4];omega
  have hw:(atR l at0 4 i).length=4:=by simp;omega
  have ih:=fun a1 a2 c1 c2=>Gx9 b10 b11 a cc l at0 n hl h1k m (i+1) a1 a2 c1 c2 (by omega)
  rw [Io8,Ex7] at ih
  refine CtJ.of Db0 fun h r=>Tr.eq (Dp7 ..) ?_;refine Je ?_
  refine Yt (by simp;omega) ?_
  rw [e1,e2,e3]
  refine S5 0 rfl fun hl2 hc2 _=>?_
  (refine Ja ?_;intros)
  refine Tr.ck (by omega) ?_
  refine Tr.ck (by omega) ?_
  simp only [Int.toNat_natCast,show at0+4*i+4-(at0+4*i)=4 by omega]
  refine G96 0 rfl (at0+4*i) 4 (by omega) (by omega) fun pb hpb back=>?_
  refine (?_:Tr (pb::_) _ _ _)
  have J:=Gv3 pb false _ _ (atR l at0 4 i) hw (ks:=hpb)
  generalize Ad3 (atR l at0 4 i)=q at *
  rw [Nat.mul_one] at J
  simp only [List.nil_append,List.append_nil]
  refine Yc J ?_
  rintro _ h ⟨rfl,o⟩
  replace o:=back _ _ o
  clear back J hpb
  simp only [List.append_eq,List.nil_append] at o
  refine Jh o ?_
  (refine Jc ?_;intros)
  refine Yn fun b2 h=>?_
  (refine Ja ?_;intros)
  refine Tr.xApd (new:=[int (q.1)]) ⟨rfl,rfl,by simp only [A9];omega⟩ fun a3 c3 h=>?_
  (refine Ja ?_;intros)
  refine Tr.xApd (new:=[int q.2]) ⟨rfl,rfl,by simp only [A9];omega⟩ fun a4 c4 h=>?_
  (refine Ja ?_;intros)
  simp only [List.set_cons_zero,List.set_cons_succ]
  refine B9 [2,2,2,2,2] 2 rfl rfl ?_
  exact Yr (ih a3 a4 c3 c4) fun v h q=>q
theorem I99 (a:Option Addr) (cc:Nat) (l:List UInt8) (at0 n:Nat) (hl:at0+4*n≤l.length) (h1k:l.length≤1000):Ct A6 Ad9 [.slice a l.length cc,int at0,int 4,int n,.func (.func V8) ⟨[]⟩ ⟨[]⟩] [slC false A3 1 a l.length cc (A0 l)] fun v own =>
   ∃ a1 c1 a2 c2,v=.agg ⟨[.slice a1 n c1,.slice a2 n c2]⟩∧own [slC false A3 1 a l.length cc (A0 l),slC false A8 1 a1 n c1 (E24 n fun j=>(Ad3 (atR l at0 4 j)).1),slC false A8 1 a2 n c2 (isL n fun j=>(Ad3 (atR l at0 4 j)).2)]:=by
 refine Ct.of Db0 rfl fun h r=>Tr.eq (G52 ..) ?_;refine Je ?_
 refine Yn fun b10 h=>?_
 refine Yn fun b11 h=>?_
 refine E6 false A8 1 (by omega) ?_
 refine E6 false A8 1 (by omega) ?_
 refine B9 [4,3,2,0,0] 0 rfl rfl ?_
 refine (?_:Tr (_::_::_::slC false A8 1 none 0 0 (E24 0 fun j=>(Ad3 (atR l at0 4 j)).1)::slC false A8 1 none 0 0 (isL 0 fun j=>(Ad3 (atR l at0 4 j)).2)::_) _ _ _)
 exact Yr (Gx9 b10 b11 a cc l at0 n hl h1k n 0 none none 0 0 (Nat.zero_add _)) fun v h q=>q
theorem G65 (kind:Int) (n:Nat) (a2:Option Addr) (c2:Nat) (f:Nat→Int) (hf:∀ i,i<n→f i≠2) (hn:n≤100):∀ (m i:Nat),i+m=n →
  CtJ D6 J5 Z9 [(1,int kind),(5,.slice none 0 0),(9,.slice a2 n c2),(10,int n),(11,int i)] [slC false A8 1 a2 n c2 (isL n f)] fun v own=>v=.slice none 0 0∧own [slC false A8 1 a2 n c2 (isL n f)]
 | 0,i,hi=>by
  obtain rfl:i=n:=by omega
  refine CtJ.of A78 fun h r=>Tr.eq (Br7 ..) ?_;refine Je ?_
  refine Yf (by simp) ?_
  refine Ys fun o=>?_
  exact ⟨rfl,o.sub⟩
 | m+1,i,hi=>by
  have e1:=wN i
  have hx:=Du0 f (i:=i) (n:=n) (by omega)
  have h2:=hf i (by omega)
  have ih:=G65 kind n a2 c2 f hf hn m (i+1) (by omega)
  generalize isL n f=cs at *
  generalize f i=x at *
  refine CtJ.of A78 fun h r=>Tr.eq (Br7 ..) ?_;refine Je ?_
  refine Yt (by simp;omega) ?_
  rw [e1]
  (refine Jb ?_;intros;repeat(refine Gw ?_;rintro px rfl;refine Jb ?_;intros))
  refine Yf (by simpa using h2) ?_
  exact Yr ih fun v h q=>q
theorem Jk4 (kind:Int) (n:Nat) (a1 a2:Option Addr) (c1 c2:Nat) (f:Nat→Int) (hf:∀ i,i<n→f i≠2) (hn:n≤100):Ct A6 J5 [.agg ⟨[.slice a1 n c1,.slice a2 n c2]⟩,int kind] [slC false A8 1 a2 n c2 (isL n f)] fun v own=>v=.slice none 0 0∧own [slC false A8 1 a2 n c2 (isL n f)]:=by
 refine Ct.of A78 rfl fun h r=>Tr.eq (Ei3 ..) ?_;refine Je ?_
 (refine Ja ?_;intros)
 refine B9 [1] 1 rfl rfl ?_
 exact Yr (G65 kind n a2 c2 f hf hn n 0 (Nat.zero_add _)) fun v h q=>q
abbrev G38:Value:=.slice none 0 0
theorem Il0 {n i:Nat} (h:i<n):(List.replicate n G38)[i]?=some (.slice none 0 0):=by rw [List.getElem?_replicate,if_pos h]
theorem Jc4:Ct A6 M0 [.slice none 0 0,int 0] [] fun v own=>v=.slice none 0 0∧own []:=by
 refine Ct.of A74 rfl fun h r=>Tr.eq (Dg3 ..) ?_;refine Je ?_
 refine Yf rfl ?_
 refine Tr.jmp A74 (Tr.eq (B45 ..) ?_);(try simp only[Nr,Nl,wl,Nat.reduceAdd,Nat.reduceMul,Int.reduceToNat])
 dsimp only [Gd3]
 refine Yf (by decide) ?_
 refine Ys fun o=>?_
 exact ⟨rfl,o.sub⟩
theorem Ho4 (a:Option Addr) (c n:Nat) (hn:n≤100):∀ (m i:Nat),i+m=n →
  CtJ D6 D3 Q9 [(6,.slice none 0 0),(25,.slice a n c),(26,int n),(27,int i)] [slC false B65 1 a n c (List.replicate n G38)] fun v own=>v=.slice none 0 0∧own []
 | 0,i,hi=>by
  obtain rfl:i=n:=by omega
  refine CtJ.of O8 fun h r=>Tr.eq (Av4 ..) ?_;refine Je ?_
  refine Yf (by simp) ?_
  refine Ys fun o=>?_
  exact ⟨rfl,o.sub⟩
 | m+1,i,hi=>by
  have e1:=wN i
  have hx:=Il0 (n:=n) (i:=i) (by omega)
  have ih:=Ho4 a c n hn m (i+1) (by omega)
  generalize List.replicate n G38=cs at *
  refine CtJ.of O8 fun h r=>Tr.eq (Av4 ..) ?_;refine Je ?_
  refine Yt (by simp;omega) ?_
  rw [e1]
  (refine Jb ?_;intros;repeat(refine Gw ?_;rintro px rfl;refine Jb ?_;intros))
  exact Yr ih fun v h q=>q
theorem Hn6 (a:Option Addr) (c n:Nat) (hn:n≤100):∀ (m i:Nat),i+m=n →
  CtJ D6 D3 S6 [(0,.slice a n c),(3,int 0),(9,.slice a n c),(10,int n),(11,int i)] [slC false B65 1 a n c (List.replicate n G38)] fun v own=>v=.slice none 0 0∧own []
 | 0,i,hi=>by
  obtain rfl:i=n:=by omega
  refine CtJ.of O8 fun h r=>Tr.eq (Au5 ..) ?_;refine Je ?_
  refine Yf (by simp) ?_
  refine Yc (Jc4) ?_;rintro _ h ⟨rfl,o⟩<;>refine Jh o ?_
  (refine Ja ?_;intros)
  exact Yr (Ho4 a c i hn i 0 (Nat.zero_add _)) fun v h q=>q
 | m+1,i,hi=>by
  have e1:=wN i
  have hx:=Il0 (n:=n) (i:=i) (by omega)
  have ih:=Hn6 a c n hn m (i+1) (by omega)
  generalize List.replicate n G38=cs at *
  refine CtJ.of O8 fun h r=>Tr.eq (Au5 ..) ?_;refine Je ?_
  refine Yt (by simp;omega) ?_
  rw [e1]
  (refine Jb ?_;intros;repeat(refine Gw ?_;rintro px rfl;refine Jb ?_;intros))
  refine Yf (by decide) ?_
  exact Yr ih fun v h q=>q
theorem Jq0 (a:Option Addr) (c n:Nat) (hn:n≤100):Ct A6 D3 [.slice a n c] [slC false B65 1 a n c (List.replicate n G38)] fun v own=>v=.slice none 0 0∧own []:=by
 refine Ct.of O8 rfl fun h r=>Tr.eq (B73 ..) ?_;refine Je ?_
 exact Yr (Hn6 a c n hn n 0 (Nat.zero_add _)) fun v h q=>q
abbrev auS (l:List UInt8) (j:Nat):ProcS × Int:=O2 (atR l 0 24 j)
abbrev auF (l:List UInt8) (j:Nat):FileS × Int:=P3 (atR l 192 8 j)
abbrev auP (l:List UInt8) (j:Nat):PipeS × Int:=N4 (atR l 288 40 j)
abbrev auT (l:List UInt8) (j:Nat):PipeS × Int:=N4 (atR l 448 40 j)
abbrev auG (l:List UInt8) (j:Nat):Int × Int:=Ad3 (atR l 488 4 j)
theorem Jg6 (a:Option Addr) (cc:Nat) (l:List UInt8) (hl:l.length=492):Ct A6 Dl0 [.slice a l.length cc] [slC false A3 1 a l.length cc (A0 l)] fun v own =>
  ∃ xb a1 c1 a2 c2 a3 c3 a4 c4 a5 c5 a6 c6 a7 c7 a8 c8 a9 c9 a10 c10,v=P0 xb∧own [slC false A3 1 a l.length cc (A0 l),pt xb (.cells Eq6 false [.slice a1 8 c1,.slice a2 8 c2,.slice a3 12 c3,.slice a4 12 c4,.slice a5 4 c5,.slice a6 4 c6,.slice a7 1 c7,.slice a8 1 c8,.slice a9 1 c9,.slice a10 1 c10]),
   slC false A7 16 a1 8 c1 (D66 8 fun j=>(auS l j).1),slC false A8 1 a2 8 c2 (isL 8 fun j=>(auS l j).2),slC false D2 4 a3 12 c3 (D69 12 fun j=>(auF l j).1),slC false A8 1 a4 12 c4 (isL 12 fun j=>(auF l j).2),
   slC false D9 36 a5 4 c5 (D80 4 fun j=>(auP l j).1),slC false A8 1 a6 4 c6 (isL 4 fun j=>(auP l j).2),slC false A8 1 a8 1 c8 (isL 1 fun j=>(auT l j).2),slC false A8 1 a10 1 c10 (isL 1 fun j=>(auG l j).2)]:=by
 refine Ct.of Ip7 rfl fun h r=>Tr.eq (Ip9 ..) ?_;refine Je ?_
 refine Yc (Jd1 a cc l 0 8 (by omega) (by omega)) ?_
 rintro _ h ⟨a1,c1,a2,c2,rfl,o⟩
 refine Jh o ?_
 (refine Ja ?_;intros)
 refine Yc (Ja0 a cc l 192 12 (by omega) (by omega)) ?_
 rintro _ h ⟨a3,c3,a4,c4,rfl,o⟩
 refine Jh o ?_
 (refine Ja ?_;intros)
 refine Yc (H09 a cc l 288 4 (by omega) (by omega)) ?_
 rintro _ h ⟨a5,c5,a6,c6,rfl,o⟩
 refine Jh o ?_
 (refine Ja ?_;intros)
 refine Yc (H09 a cc l 448 1 (by omega) (by omega)) ?_
 rintro _ h ⟨a7,c7,a8,c8,rfl,o⟩
 refine Jh o ?_
 (refine Ja ?_;intros)
 refine Yc (I99 a cc l 488 1 (by omega) (by omega)) ?_
 rintro _ h ⟨a9,c9,a10,c10,rfl,o⟩
 refine Jh o ?_
 (refine Ja ?_;intros)
 simp only [List.append_nil,List.cons_append,List.nil_append]
 refine Ys fun o=>?_
 exact ⟨_,a1,c1,a2,c2,a3,c3,a4,c4,a5,c5,a6,c6,a7,c7,a8,c8,a9,c9,a10,c10,rfl,o.sub⟩
theorem Dx8 (a:Option Addr) (n c:Nat) (a2:Option Addr) (n2 c2:Nat):Aw2 (.agg ⟨[.slice a n c,.slice a2 n2 c2]⟩) (.agg ⟨[.slice a n c,.slice a2 n2 c2]⟩)=true:=by
 show (Aw3 (.slice a n c) (.slice a n c) && (Aw3 (.slice a2 n2 c2) (.slice a2 n2 c2) && true))=true
 rw [show Aw3 (.slice a n c) (.slice a n c)=true from G50 a n c,show Aw3 (.slice a2 n2 c2) (.slice a2 n2 c2)=true from G50 a2 n2 c2];rfl
structure NoBad (l:List UInt8):Prop where
 len:l.length=492
 s:∀ i:Nat,i<8→(auS l i).2≠2
 f:∀ i:Nat,i<12→(auF l i).2≠2
 p:∀ i:Nat,i<4→(auP l i).2≠2
 t:∀ i:Nat,i<1→(auT l i).2≠2
 g:∀ i:Nat,i<1→(auG l i).2≠2
theorem Jm3 (a:Option Addr) (cc:Nat) (l:List UInt8) (N:NoBad l):Ct A6 Dx2 [.slice a l.length cc] [slC false A3 1 a l.length cc (A0 l)] fun v own=>v=.slice none 0 0∧own [slC false A3 1 a l.length cc (A0 l)]:=by
 refine Ct.of Ig2 rfl fun h r=>Tr.eq (Ig3 ..) ?_;refine Je ?_
 refine Yf (by rw [N.len];rfl) ?_
 refine Yc (Jg6 a cc l N.len) ?_
 rintro _ h ⟨xb,a1,c1,a2,c2,a3,c3,a4,c4,a5,c5,a6,c6,a7,c7,a8,c8,a9,c9,a10,c10,rfl,o⟩
 refine Jh o ?_
 (refine Ja ?_;intros)
 refine Je ?_
 (refine Ja ?_;intros)
 refine Yc (Jk5 1 8 a1 a2 c1 c2 _ N.s (by omega)) ?_;rintro _ h ⟨rfl,o⟩<;>refine Jh o ?_
 (refine Ja ?_;intros)
 refine Tr.same (Dx8 ..) ?_
 (refine Ja ?_;intros)
 refine Tr.same (Dx8 ..) ?_
 (refine Ja ?_;intros)
 refine Tr.same (Dx8 ..) ?_
 (refine Ja ?_;intros)
 refine Tr.same (Dx8 ..) ?_
 (refine Ja ?_;intros)
 refine Yc (Jn6 2 12 a3 a4 c3 c4 _ N.f (by omega)) ?_;rintro _ h ⟨rfl,o⟩<;>refine Jh o ?_
 (refine Ja ?_;intros)
 refine Tr.same (Dx8 ..) ?_
 (refine Ja ?_;intros)
 refine Tr.same (Dx8 ..) ?_
 (refine Ja ?_;intros)
 refine Tr.same (Dx8 ..) ?_
 (refine Ja ?_;intros)
 refine Yc (Il4 3 4 a5 a6 c5 c6 _ N.p (by omega)) ?_;rintro _ h ⟨rfl,o⟩<;>refine Jh o ?_
 (refine Ja ?_;intros)
 refine Tr.same (Dx8 ..) ?_
 (refine Ja ?_;intros)
 refine Tr.same (Dx8 ..) ?_
 (refine Ja ?_;intros)
 refine Yc (Il4 4 1 a7 a8 c7 c8 _ N.t (by omega)) ?_;rintro _ h ⟨rfl,o⟩<;>refine Jh o ?_
 (refine Ja ?_;intros)
 refine Tr.same (Dx8 ..) ?_
 (refine Ja ?_;intros)
 refine Yc (Jk4 5 1 a9 a10 c9 c10 _ N.g (by omega)) ?_;rintro _ h ⟨rfl,o⟩<;>refine Jh o ?_
 (refine Jc ?_;intros)
 refine Yn fun b2 h=>?_
 refine Ah3 0 rfl 1 5 rfl (by omega) ?_
 refine (?_:Tr (slC false B65 1 (some ⟨b2,0,none⟩) 5 5 (List.replicate 5 G38)::_) _ _ _)
 refine Yc (Jq0 (some ⟨b2,0,none⟩) 5 5 (by omega)) ?_;rintro _ h ⟨rfl,o⟩<;>refine Jh o ?_
 (refine Ja ?_;intros)
 refine Ys fun o=>?_
 exact ⟨rfl,o.sub⟩
def Dr3 (g:Nat→Int):Nat→Int
 | 0=>0
 | m+1=>Dr3 g m+g m
theorem H55 (g:Int→Int):∀ m:Nat,B05 g m=Dr3 (fun j=>g j) m
 | 0=>rfl
 | m+1=>by rw [B05,Dr3,H55 g m]
theorem E61 {g g':Nat→Int}:∀ (m:Nat),(∀ j,j<m→g j=g' j)→Dr3 g m=Dr3 g' m
 | 0,_=>rfl
 | m+1,h=>by rw [Dr3,Dr3,E61 m fun j h1=>h j (by omega),h m (by omega)]
abbrev Aw7 (fS:Nat→ProcS × Int) (k:Nat) (m:Nat):Int:=Dr3 (fun i=>cnt ((k:Int)+1) (fS i).1.fds) m
abbrev A77 (fF:Nat→FileS × Int) (kd:Int) (j m:Nat):Int:=Dr3 (fun f=>U0 kd j (fF f).1) m
structure SndB (fS:Nat→ProcS × Int) (fF:Nat→FileS × Int) (fP:Nat→PipeS × Int):Prop where
 par:∀ i:Nat,i<8→(fS i).1.parent>0→(fS i).1.parent≠i+1∧∃ k:Nat,(fS i).1.parent=k+1∧k<8∧(fS k).2=1
 fd:∀ i:Nat,i<8→∀ f ∈ (fS i).1.fds,f>0→∃ k:Nat,f=k+1∧k<12∧(fF k).2=1
 refs:∀ f:Nat,f<12→(fF f).2=1→(fF f).1.refs=Aw7 fS f 8
 pipe:∀ f:Nat,f<12→((fF f).1.kind=1∨(fF f).1.kind=2)→∃ k:Nat,(fF f).1.pipe=k∧k<4∧(fP k).2=1
 ends:∀ j:Nat,j<4→(fP j).2=1→(fP j).1.readers=A77 fF 1 j 12∧(fP j).1.writers=A77 fF 2 j 12∧A77 fF 1 j 12+A77 fF 2 j 12≠0
theorem rd0 {X:CX} (c:Clean 3 X) {r:RecS} {a n:Nat} (e:E7 3 r=some (0,a,n)):rd X r=slice (X.m.getD 0 []) a n:=by
 unfold rd;rw [c.len,e]
theorem Jt1 {X:CX} (c:Clean 3 X) (i:Nat) (h:i<8):auS (X.m.getD 0 []) i=vS X i:=by
 have e:E7 3 ⟨1,(i:Int)⟩=some (0,24*i,24):=by
  unfold E7;rw [if_neg (by simp [J8];omega)];rfl
 show O2 _=O2 _
 rw [rd0 c e];unfold slice atR;rw [Nat.zero_add]
theorem Jq4 {X:CX} (c:Clean 3 X) (i:Nat) (h:i<12):auF (X.m.getD 0 []) i=vF X i:=by
 have e:E7 3 ⟨2,(i:Int)⟩=some (0,192+8*i,8):=by
  unfold E7;rw [if_neg (by simp [J8];omega)];rfl
 show P3 _=P3 _
 rw [rd0 c e];rfl
theorem Jt0 {X:CX} (c:Clean 3 X) (i:Nat) (h:i<4):auP (X.m.getD 0 []) i=vP X i:=by
 have e:E7 3 ⟨3,(i:Int)⟩=some (0,288+40*i,40):=by
  unfold E7;rw [if_neg (by simp [J8];omega)];simp;omega
 show N4 _=N4 _
 rw [rd0 c e];rfl
theorem I74 {X:CX} (c:Clean 3 X):NoBad (X.m.getD 0 []) where
 len:=c.own
 s i h:=by rw [Jt1 c i h];exact c.ok ⟨1,i⟩ (by simp) (by simp) (by simp) (by simp [J8];omega)
 f i h:=by rw [Jq4 c i h];exact c.ok ⟨2,i⟩ (by simp) (by simp) (by simp) (by simp [J8];omega)
 p i h:=by rw [Jt0 c i h];exact c.ok ⟨3,i⟩ (by simp) (by simp) (by simp) (by simp [J8];omega)
 t i h:=by
  obtain rfl:i=0:=by omega
  have:=c.ok ⟨4,0⟩ (by simp) (by simp) (by simp) (by simp [J8])
  rw [rd0 c (show E7 3 ⟨4,0⟩=some (0,448,40) by rfl)] at this
  exact this
 g i h:=by
  obtain rfl:i=0:=by omega
  have:=c.ok ⟨5,0⟩ (by simp) (by simp) (by simp) (by simp [J8])
  rw [rd0 c (show E7 3 ⟨5,0⟩=some (0,488,4) by rfl)] at this
  exact this
theorem SX.snd {X:CX} (H:SX X):Clean 3 X∧SndB (auS (X.m.getD 0 [])) (auF (X.m.getD 0 [])) (auP (X.m.getD 0 [])):=by
 obtain ⟨V,A,B⟩:=H
 have eS:∀ i:Nat,i<8→auS (X.m.getD 0 []) i=V.S i:=fun i h=>(Jt1 A.c i h).trans (A.s i (by omega))
 have eF:∀ i:Nat,i<12→auF (X.m.getD 0 []) i=V.F i:=fun i h=>(Jq4 A.c i h).trans (A.f i (by omega))
 have eP:∀ i:Nat,i<4→auP (X.m.getD 0 []) i=V.P i:=fun i h=>(Jt0 A.c i h).trans (A.p i (by omega))
 have ok:∀ i:Nat,i<8→okS (V.S i).1=true∨(V.S i).1=.zero:=fun i h=>by
  rcases B.sz i (by omega) (by omega) with e|e
  ·exact .inr (by rw [e])
  ·exact .inl e.2
 have eE:∀ (kd:Int) (j:Nat),A77 (auF (X.m.getD 0 [])) kd j 12=Af7 V.F kd j:=fun kd j=>by
  unfold Af7 A77;rw [H55]
  exact E61 12 fun f h=>by rw [eF f h]
 refine ⟨A.c,fun i h hp=>?_,fun i h f hf h0=>?_,fun f h h1=>?_,fun f h hk=>?_,fun j h h1=>?_⟩
 ·rw [eS i h] at hp ⊢
  obtain ⟨h1,h2,_⟩:=B.par i (by omega) (by omega) hp
  have hr:(V.S i).1.parent≤8:=by
   rcases ok i h with e|e
   ·unfold okS at e
    simp only [Bool.and_eq_true,Bool.not_eq_true',Bool.or_eq_false_iff,decide_eq_false_iff_not] at e
    omega
   ·rw [e];decide
  refine ⟨h1,((V.S i).1.parent-1).toNat,by omega,by omega,?_⟩
  rw [eS _ (by omega),show (((V.S i).1.parent-1).toNat:Int)=(V.S i).1.parent-1 by omega];exact h2
 ·rw [eS i h] at hf
  have h1:=B.fd i (by omega) (by omega) f hf h0
  have hr:f≤12:=by
   rcases ok i h with e|e
   ·have:=B19 e f hf;omega
   ·rw [e] at hf;simp at hf;omega
  refine ⟨(f-1).toNat,by omega,by omega,?_⟩
  rw [eF _ (by omega),show ((f-1).toNat:Int)=f-1 by omega];exact h1
 ·rw [eF f h] at h1 ⊢
  rw [B.refs0 (by omega) (by omega) h1]
  unfold Bb5 Aw7;rw [H55]
  exact E61 8 fun i hi=>by rw [eS i hi]
 ·rw [eF f h] at hk ⊢
  have h1:=B.pipe f (by omega) (by omega) hk
  rcases B.fz f (by omega) (by omega) with e|⟨_,_,e|⟨_,e1,e2⟩⟩
  ·rw [e] at hk;rcases hk with hk|hk<;>cases hk
  ·omega
  ·refine ⟨(V.F f).1.pipe.toNat,by omega,by omega,?_⟩
   rw [eP _ (by omega),show ((V.F f).1.pipe.toNat:Int)=(V.F f).1.pipe by omega];exact h1
 ·rw [eP j h] at h1 ⊢
  rw [eE,eE];exact B.ends j (by omega) (by omega) h1
structure AuA where
 a1:Option Addr
 c1:Nat
 a2:Option Addr
 c2:Nat
 a3:Option Addr
 c3:Nat
 a4:Option Addr
 c4:Nat
 a5:Option Addr
 c5:Nat
 a6:Option Addr
 c6:Nat
 a7:Option Addr
 c7:Nat
 a8:Option Addr
 c8:Nat
 a9:Option Addr
 c9:Nat
 a0:Option Addr
 c0:Nat
def rS (S:Nat→ProcS × Int):List Value:=D66 8 fun j=>(S j).1
def rF (S:Nat→FileS × Int):List Value:=D69 12 fun j=>(S j).1
def rP (S:Nat→PipeS × Int):List Value:=D80 4 fun j=>(S j).1
abbrev iS {α:Type} (n:Nat) (S:Nat→α × Int):List Value:=isL n fun j=>(S j).2
abbrev Bl7 (xb:Nat) (x:AuA):HP:=pt xb (.cells Eq6 false [.slice x.a1 8 x.c1,.slice x.a2 8 x.c2,.slice x.a3 12 x.c3,.slice x.a4 12 x.c4,.slice x.a5 4 x.c5,.slice x.a6 4 x.c6,.slice x.a7 1 x.c7,.slice x.a8 1 x.c8,.slice x.a9 1 x.c9,.slice x.a0 1 x.c0])
abbrev lS (x:AuA) (S:Nat→ProcS × Int):HP:=slC false A7 16 x.a1 8 x.c1 (rS S)
abbrev jS (x:AuA) (S:Nat→ProcS × Int):HP:=slC false A8 1 x.a2 8 x.c2 (iS 8 S)
abbrev lF (x:AuA) (S:Nat→FileS × Int):HP:=slC false D2 4 x.a3 12 x.c3 (rF S)
abbrev jF (x:AuA) (S:Nat→FileS × Int):HP:=slC false A8 1 x.a4 12 x.c4 (iS 12 S)
abbrev lP (x:AuA) (S:Nat→PipeS × Int):HP:=slC false D9 36 x.a5 4 x.c5 (rP S)
abbrev jP (x:AuA) (S:Nat→PipeS × Int):HP:=slC false A8 1 x.a6 4 x.c6 (iS 4 S)
theorem Ek5 {n i:Nat} (h:i<n):(List.range n)[i]?=some i:=List.getElem?_range h
theorem Iu6 (S:Nat→ProcS × Int) {i:Nat} (h:i<8):((rS S).drop (i*16)).take 16=B7 (S i).1:=Af8 (f:=fun i=>B7 (S i).1) (fun x=>Aj4 _) (Ek5 h)
theorem Io7 (S:Nat→FileS × Int) {i:Nat} (h:i<12):((rF S).drop (i*4)).take 4=Ag6 (S i).1:=Af8 (f:=fun i=>Ag6 (S i).1) (fun x=>rfl) (Ek5 h)
theorem Jv4 (S:Nat→PipeS × Int) {i:Nat} (h:i<4):((rP S).drop (i*36)).take 36=I8 (S i).1:=Af8 (f:=fun i=>I8 (S i).1) (fun x=>Bc3 (S x).1.len) (Ek5 h)
theorem H43 (S:Nat→ProcS × Int):(rS S).length=128:=by
 have:=N1 (f:=fun i=>B7 (S i).1) (k:=16) (fun x=>Aj4 _) (List.range 8)
 rw [List.length_range] at this;exact this
theorem Hx6 (S:Nat→FileS × Int):(rF S).length=48:=by
 have:=N1 (f:=fun i=>Ag6 (S i).1) (k:=4) (fun x=>rfl) (List.range 12)
 rw [List.length_range] at this;exact this
theorem Jr0 (S:Nat→PipeS × Int):(rP S).length=144:=by
 have:=N1 (f:=fun i=>I8 (S i).1) (k:=36) (fun x=>Bc3 (S x).1.len) (List.range 4)
 rw [List.length_range] at this;exact this
theorem Gj9 (xb:Nat) (S:Nat→ProcS × Int) (F:Nat→FileS × Int) (P:Nat→PipeS × Int) (x:AuA) (A:SndB S F P):∀ (m i:Nat),i+m=8 →
  CtJ D6 Y1 Aw9 [(0,P0 xb),(9,.slice x.a1 8 x.c1),(10,int 8),(11,int i)] [Bl7 xb x,lS x S,jS x S] fun v own=>v=.bool false∧own [Bl7 xb x,lS x S,jS x S]
 | 0,i,hi=>by
  obtain rfl:i=8:=by omega
  refine CtJ.of B06 fun h r=>Tr.eq (Df4 ..) ?_;refine Je ?_
  refine Yf (by simp) ?_
  refine Ys fun o=>?_
  exact ⟨rfl,o.sub⟩
 | m+1,i,hi=>by
  have e1:=wN i
  have ih:=Gj9 xb S F P x A m (i+1) (by omega)
  have hx:=Iu6 S (i:=i) (by omega)
  have hl:=H43 S
  have hp:=A.par i (by omega)
  have ht:=fun k hk=>I33 8 x.a1 x.a2 x.c1 x.c2 (fun j=>(S j).2) k hk
  generalize (S i).1=p at *
  obtain ⟨a1,c1,a2,c2,a3,c3,a4,c4,a5,c5,a6,c6,a7,c7,a8,c8,a9,c9,a0,c0⟩:=x
  dsimp only at ih ht ⊢
  refine CtJ.of B06 fun h r=>Tr.eq (Df4 ..) ?_;refine Je ?_
  refine Yt (by simp;omega) ?_
  rw [e1]
  (refine Jc ?_;intros;repeat(refine Gw ?_;rintro px rfl;refine Jc ?_;intros))
  rw [Int.toNat_natCast]
  refine Tr.xAggS (xs:=B7 p) ⟨by omega,by omega,hx⟩ ?_
  refine Yn fun b2 h=>?_
  (refine Jb ?_;intros)
  by_cases h1:p.parent>0
  ·obtain ⟨h2,k,h3,h4,h5⟩:=hp h1
   refine Yb (Yt (by simpa using h1) ?_)
   (refine Jb ?_;intros)
   refine Yb (Yf (by rw [beq_eq_false_iff_ne];omega) ?_)
   (refine Jb ?_;intros)
   have e2:IntKind.wrap .i64 (p.parent-1)=(k:Int):=by rw [B4];omega
   rw [e2]
   have J:=ht k (by omega)
   rw [Int.toNat_natCast,h5] at J
   refine Yc (J) ?_;rintro _ h ⟨rfl,o⟩<;>refine Jh o ?_
   (refine Jb ?_;intros)
   refine Ys fun o=>(?_:Tr _ _ _ _) o;refine Je ?_
   refine Ys fun o=>(?_:Tr _ _ _ _) o;refine Je ?_
   refine Yf rfl ?_
   refine B9 [2,2,0] 1 rfl rfl ?_
   exact Yr ih fun v h q=>q
  ·refine Yb (Yf (by simpa using h1) ?_)
   refine Ys fun o=>(?_:Tr _ _ _ _) o;refine Je ?_
   refine Yf rfl ?_
   refine B9 [1,1,1] 1 rfl rfl ?_
   exact Yr ih fun v h q=>q
theorem I40 (xb:Nat) (S:Nat→ProcS × Int) (F:Nat→FileS × Int) (P:Nat→PipeS × Int) (x:AuA) (A:SndB S F P):Ct A6 Y1 [P0 xb] [Bl7 xb x,lS x S,jS x S] fun v own=>v=.bool false∧own [Bl7 xb x,lS x S,jS x S]:=by
 have J:=Gj9 xb S F P x A 8 0 rfl
 obtain ⟨a1,c1,a2,c2,a3,c3,a4,c4,a5,c5,a6,c6,a7,c7,a8,c8,a9,c9,a0,c0⟩:=x
 dsimp only at J ⊢
 refine Ct.of B06 rfl fun h r=>Tr.eq (Gk1 ..) ?_;refine Je ?_
 (refine Ja ?_;intros)
 exact Yr J fun v h q=>q
theorem H49 (S:Nat→ProcS × Int) (f:Nat):∀ m,0≤Aw7 S f m∧Aw7 S f m≤8*m
 | 0=>⟨Int.le_refl 0,by simp [Aw7,Dr3]⟩
 | m+1=>by
  have h1:=H49 S f m
  have h2:=I14 ((f:Int)+1) (S m).1.fds
  have h3:=Et3 ((f:Int)+1) (S m).1.fds
  have:=(S m).1.len
  unfold Aw7 at h1 ⊢;rw [Dr3];omega
theorem Gy0 (f:Nat) (hf:f<12) (S:Nat→ProcS × Int) (a:Option Addr) (c:Nat) (i:Nat) (hi:i<8) (K:CtJ D6 H9 Ao1 [(1,int f),(5,int (Aw7 S f (i+1))),(14,.slice a 8 c),(15,int 8),(16,int ((i+1:Nat):Int))] [slC false A7 16 a 8 c (rS S)] fun v own=>v=int (Aw7 S f 8)∧own [slC false A7 16 a 8 c (rS S)]):∀ (m j:Nat),j+m=8 →
  CtJ D6 H9 Am6 [(1,int f),(5,int (Aw7 S f i+cnt ((f:Int)+1) ((S i).1.fds.take j))),(14,.slice a 8 c),(15,int 8),(16,int i),(21,.agg ⟨(S i).1.fds.map int⟩),(22,int j)] [slC false A7 16 a 8 c (rS S)] fun v own=>v=int (Aw7 S f 8)∧own [slC false A7 16 a 8 c (rS S)]
 | 0,j,hj=>by
  obtain rfl:j=8:=by omega
  have e1:=wN i
  have hl:=(S i).1.len
  rw [List.take_of_length_le (by omega),show Aw7 S f i+cnt ((f:Int)+1) (S i).1.fds=Aw7 S f (i+1) from rfl]
  generalize (S i).1.fds=d at *
  refine CtJ.of Ay2 fun h r=>Tr.eq (Dh7 ..) ?_;refine Je ?_
  refine Yf (by simp) ?_
  rw [e1]
  exact Yr K fun v h q=>q
 | m+1,j,hj=>by
  have e1:=wN j
  have e2:IntKind.wrap .i64 ((f:Int)+1)=(f:Int)+1:=by rw [B4];omega
  have ih:=Gy0 f hf S a c i hi K m (j+1) (by omega)
  have hl:=(S i).1.len
  have hb:=H49 S f i
  have hc:=I14 ((f:Int)+1) ((S i).1.fds.take j)
  have hc0:=Et3 ((f:Int)+1) ((S i).1.fds.take j)
  rw [List.length_take] at hc
  have ht:(S i).1.fds.take (j+1)=(S i).1.fds.take j++[(S i).1.fds.getD j 0]:=by
   rw [List.take_add_one,List.getD_eq_getElem?_getD,List.getElem?_eq_getElem (by omega)];rfl
  have hx:((S i).1.fds.map int)[j]?=some (int ((S i).1.fds.getD j 0)):=Ew4 (by omega)
  rw [ht,Gm8,By6,Ea6] at ih
  generalize (S i).1.fds.getD j 0=d at *
  generalize (S i).1.fds=ds at *
  generalize cnt ((f:Int)+1) (ds.take j)=n at *
  generalize Aw7 S f i=n0 at *
  have e3:IntKind.wrap .i64 (n0+n+1)=n0+(n+(0+1)):=by rw [B4];omega
  refine CtJ.of Ay2 fun h r=>Tr.eq (Dh7 ..) ?_;refine Je ?_
  refine Yt (by simp;omega) ?_
  rw [e1,e2]
  (refine Jb ?_;intros)
  by_cases hd:d=(f:Int)+1
  ·refine Yt (by rw [beq_iff_eq];exact hd) ?_
   rw [e3]
   rw [if_pos hd] at ih
   exact Yr ih fun v h q=>q
  ·refine Yf (by rw [beq_eq_false_iff_ne];exact hd) ?_
   rw [if_neg hd,Int.add_zero,Int.add_zero] at ih
   exact Yr ih fun v h q=>q
theorem Gy2 (f:Nat) (hf:f<12) (S:Nat→ProcS × Int) (a:Option Addr) (c:Nat):∀ (m i:Nat),i+m=8 →
  CtJ D6 H9 Ao1 [(1,int f),(5,int (Aw7 S f i)),(14,.slice a 8 c),(15,int 8),(16,int i)] [slC false A7 16 a 8 c (rS S)] fun v own=>v=int (Aw7 S f 8)∧own [slC false A7 16 a 8 c (rS S)]
 | 0,i,hi=>by
  obtain rfl:i=8:=by omega
  generalize Aw7 S f 8=n
  refine CtJ.of Ay2 fun h r=>Tr.eq (Do0 ..) ?_;refine Je ?_
  refine Yf (by simp) ?_
  refine Ys fun o=>?_
  exact ⟨rfl,o.sub⟩
 | m+1,i,hi=>by
  have J:=Gy0 f hf S a c i (by omega) (Gy2 f hf S a c m (i+1) (by omega)) 8 0 rfl
  have hx:=Iu6 S (i:=i) (by omega)
  have hl:=H43 S
  rw [List.take_zero,Ea6,Int.add_zero] at J
  generalize (S i).1=p at *
  generalize Aw7 S f i=n0 at *
  refine CtJ.of Ay2 fun h r=>Tr.eq (Do0 ..) ?_;refine Je ?_
  refine Yt (by simp;omega) ?_
  (refine Jc ?_;intros;repeat(refine Gw ?_;rintro px rfl;refine Jc ?_;intros))
  rw [Int.toNat_natCast]
  refine Tr.xAggS (xs:=B7 p) ⟨by omega,by omega,hx⟩ ?_
  refine Yn fun b2 h=>?_
  (refine Ja ?_;intros)
  refine B9 [1] 1 rfl rfl ?_
  exact Yr J fun v h q=>q
theorem I79 (f:Nat) (hf:f<12) (xb:Nat) (S:Nat→ProcS × Int) (x:AuA):Ct A6 H9 [P0 xb,int f] [Bl7 xb x,lS x S] fun v own=>v=int (Aw7 S f 8)∧own [Bl7 xb x,lS x S]:=by
 have J:=Gy2 f hf S x.a1 x.c1 8 0 rfl
 obtain ⟨a1,c1,a2,c2,a3,c3,a4,c4,a5,c5,a6,c6,a7,c7,a8,c8,a9,c9,a0,c0⟩:=x
 dsimp only at J ⊢
 rw [show Aw7 S f 0=0 from rfl] at J
 refine Ct.of Ay2 rfl fun h r=>Tr.eq (Gt1 ..) ?_;refine Je ?_
 (refine Ja ?_;intros)
 refine Yr J fun v h q=>?_
 obtain ⟨rfl,o⟩:=q
 exact ⟨rfl,by first|exact o|exact Own.fin o [1,0] 0 rfl rfl⟩
theorem Hc3 (xb:Nat) (S:Nat→ProcS × Int) (F:Nat→FileS × Int) (P:Nat→PipeS × Int) (x:AuA) (A:SndB S F P):∀ (m i:Nat),i+m=12 →
  CtJ D6 Ad1 A66 [(0,P0 xb),(9,.slice x.a3 12 x.c3),(10,int 12),(11,int i)] [Bl7 xb x,lS x S,lF x F,jF x F] fun v own=>v=.bool false∧own [Bl7 xb x,lS x S,lF x F,jF x F]
 | 0,i,hi=>by
  obtain rfl:i=12:=by omega
  refine CtJ.of Dc3 fun h r=>Tr.eq (Dp6 ..) ?_;refine Je ?_
  refine Yf (by simp) ?_
  refine Ys fun o=>?_
  exact ⟨rfl,o.sub⟩
 | m+1,i,hi=>by
  have e1:=wN i
  have ih:=Hc3 xb S F P x A m (i+1) (by omega)
  have hx:=Io7 F (i:=i) (by omega)
  have hl:=Hx6 F
  have hp:=A.refs i (by omega)
  have ht:=Hm9 12 x.a3 x.a4 x.c3 x.c4 (fun j=>(F j).2) i (by omega)
  have hn:=I79 i (by omega) xb S x
  rw [Int.toNat_natCast] at ht
  generalize (F i).1=p at *
  generalize (F i).2=z at *
  generalize Aw7 S i 8=n at *
  obtain ⟨a1,c1,a2,c2,a3,c3,a4,c4,a5,c5,a6,c6,a7,c7,a8,c8,a9,c9,a0,c0⟩:=x
  dsimp only at ih ht hn ⊢
  refine CtJ.of Dc3 fun h r=>Tr.eq (Dp6 ..) ?_;refine Je ?_
  refine Yt (by simp;omega) ?_
  rw [e1]
  (refine Jc ?_;intros;repeat(refine Gw ?_;rintro px rfl;refine Jc ?_;intros))
  rw [Int.toNat_natCast]
  refine Tr.xAggS (xs:=Ag6 p) ⟨by omega,by omega,hx⟩ ?_
  refine Yn fun b2 h=>?_
  (refine Jb ?_;intros)
  refine Yc (ht) ?_;rintro _ h ⟨rfl,o⟩<;>refine Jh o ?_
  (refine Jb ?_;intros)
  by_cases h1:z=1
  ·have h2:=hp h1
   refine Yb (Yt (by rw [beq_iff_eq];exact h1) ?_)
   (refine Jb ?_;intros)
   refine Yc (hn) ?_;rintro _ h ⟨rfl,o⟩<;>refine Jh o ?_
   (refine Jb ?_;intros)
   refine Ys fun o=>(?_:Tr _ _ _ _) o;refine Je ?_
   refine Yf (by rw [h2];simp) ?_
   refine B9 [0,0,2,0] 1 rfl rfl ?_
   exact Yr ih fun v h q=>q
  ·refine Yb (Yf (by rw [beq_eq_false_iff_ne];exact h1) ?_)
   refine Ys fun o=>(?_:Tr _ _ _ _) o;refine Je ?_
   refine Yf rfl ?_
   refine B9 [2,2,2,0] 1 rfl rfl ?_
   exact Yr ih fun v h q=>q
theorem Jn1 (xb:Nat) (S:Nat→ProcS × Int) (F:Nat→FileS × Int) (P:Nat→PipeS × Int) (x:AuA) (A:SndB S F P):Ct A6 Ad1 [P0 xb] [Bl7 xb x,lS x S,lF x F,jF x F] fun v own=>v=.bool false∧own [Bl7 xb x,lS x S,lF x F,jF x F]:=by
 have J:=Hc3 xb S F P x A 12 0 rfl
 obtain ⟨a1,c1,a2,c2,a3,c3,a4,c4,a5,c5,a6,c6,a7,c7,a8,c8,a9,c9,a0,c0⟩:=x
 dsimp only at J ⊢
 refine Ct.of Dc3 rfl fun h r=>Tr.eq (G44 ..) ?_;refine Je ?_
 (refine Ja ?_;intros)
 exact Yr J fun v h q=>q
def clC (fb xb:Nat) (x:AuA) (q:HP):HP:=hex fun _:Unit=>sl [pt fb (.cells Da1 false [P0 xb]),Bl7 xb x,q]
instance {fb xb:Nat} {x:AuA} {q:HP}:Chk (clC fb xb x q) (fun _:Unit=>[pt fb (.cells Da1 false [P0 xb]),Bl7 xb x,q]):=⟨rfl⟩
theorem Jl9 (fb xb:Nat) (F:Nat→FileS × Int) (x:AuA) (f:Int) (hf:f>0→∃ k:Nat,f=k+1∧k<12∧(F k).2=1):Ct A6 Av0 [int f,P0 fb] [clC fb xb x (jF x F)] fun v own=>v=.bool false∧own [clC fb xb x (jF x F)]:=by
 refine Ct.of Gi3 rfl fun h r=>Tr.eq (Gk5 ..) ?_;refine Je ?_
 refine B6 (clC fb xb x (jF x F)) fun u=>?_;refine Je ?_
 by_cases h1:f>0
 ·obtain ⟨k,h3,h4,h5⟩:=hf h1
  have e2:IntKind.wrap .i64 (f-1)=(k:Int):=by rw [B4];omega
  have J:=Hm9 12 x.a3 x.a4 x.c3 x.c4 (fun j=>(F j).2) k (by omega)
  rw [Int.toNat_natCast,h5] at J
  refine Yb (Yt (by simpa using h1) ?_)
  (refine Ja ?_;intros)
  refine Je ?_
  (refine Ja ?_;intros)
  rw [e2]
  refine Yc (J) ?_;rintro _ h ⟨rfl,o⟩<;>refine Jh o ?_
  (refine Ja ?_;intros)
  refine Ys fun o=>(?_:Tr _ _ _ _) o;refine Je ?_
  refine B5 (clC fb xb x (jF x F)) () ?_;refine Je ?_
  refine Ys fun o=>?_
  exact ⟨rfl,o.sub⟩
 ·refine Yb (Yf (by simpa using h1) ?_)
  refine Ys fun o=>(?_:Tr _ _ _ _) o;refine Je ?_
  refine B5 (clC fb xb x (jF x F)) () ?_;refine Je ?_
  refine Ys fun o=>?_
  exact ⟨rfl,o.sub⟩
theorem Hb2 (pb pr:HP) (a:Option Addr) (ro:Bool) (e:TypeId) (n c:Nat) (ds:List Int) (hn:ds.length=n) (h9:n≤100) [ks:IsSl pb a ro e 1 n c (ds.map int)] (g:FuncId) (cp:List Value) (hq:∀ d ∈ ds,Ct A6 g (int d::cp) [pr] fun v own=>v=.bool false∧own [pr]):∀ (m i:Nat),i+m=n →
  CtJ D6 D8 L7 [(0,.slice a n c),(1,.func (.func g) ⟨[]⟩ ⟨cp⟩),(7,int n),(8,int i)] [pb,pr] fun v own=>v=int (-1)∧own [pb,pr]
 | 0,i,hi=>by
  obtain rfl:i=n:=by omega
  refine CtJ.of G5 fun h r=>Tr.eq (L8 ..) ?_;refine Je ?_
  refine Yf (by simp) ?_
  (refine Ja ?_;intros)
  refine Ys fun o=>?_
  exact ⟨rfl,o.sub⟩
 | m+1,i,hi=>by
  have e1:=wN i
  have ih:=Hb2 pb pr a ro e n c ds hn h9 g cp hq m (i+1) (by omega)
  have hx:(ds.map int)[i]?=some (int (ds.getD i 0)):=Ew4 (by omega)
  have hm:=hq _ (Dr4 (l:=ds) (j:=i) (by omega))
  generalize ds.getD i 0=d at *
  refine CtJ.of G5 fun h r=>Tr.eq (L8 ..) ?_;refine Je ?_
  refine Yt (by simp;omega) ?_
  rw [e1]
  (refine Jb ?_;intros;repeat(refine Gw ?_;rintro px rfl;refine Jb ?_;intros))
  refine Yc (hm) ?_;rintro _ h ⟨rfl,o⟩<;>refine Jh o ?_
  (refine Jb ?_;intros)
  refine B9 [1,0] 0 rfl rfl ?_
  exact Yr ih fun v h q=>q
theorem Hz2 (pb pr:HP) (a:Option Addr) (ro:Bool) (e:TypeId) (n c:Nat) (ds:List Int) (hn:ds.length=n) (h9:n≤100) [ks:IsSl pb a ro e 1 n c (ds.map int)] (g:FuncId) (cp:List Value) (hq:∀ d ∈ ds,Ct A6 g (int d::cp) [pr] fun v own=>v=.bool false∧own [pr]) :
  Ct A6 E3 [.slice a n c,.func (.func g) ⟨[]⟩ ⟨cp⟩] [pb,pr] fun v own=>v=.bool false∧own [pb,pr]:=by
 have J:Ct A6 D8 [.slice a n c,.func (.func g) ⟨[]⟩ ⟨cp⟩] [pb,pr] fun v own=>v=int (-1)∧own [pb,pr]:=by
  have K:=Hb2 pb pr a ro e n c ds hn h9 g cp hq n 0 (Nat.zero_add _)
  refine Ct.of G5 rfl fun h r=>Tr.eq (As0 ..) ?_;refine Je ?_
  exact Yr K fun v h q=>q
 refine Ct.of Al5 rfl fun h r=>Tr.eq (Al7 ..) ?_;refine Je ?_
 refine Yc (J) ?_;rintro _ h ⟨rfl,o⟩<;>refine Jh o ?_
 (refine Jb ?_;intros)
 refine Ys fun o=>?_
 exact ⟨rfl,o.sub⟩
abbrev hd8 (p:ProcS):List Value:=[int p.state,int p.parent,int p.group,int p.code,int p.pending,int p.mask,int p.ignored,int p.caught]
theorem Js8 (fb xb:Nat) (F:Nat→FileS × Int) (x:AuA) (p:ProcS) (hf:∀ f ∈ p.fds,f>0→∃ k:Nat,f=k+1∧k<12∧(F k).2=1):Ct A6 A45 [.agg ⟨B7 p⟩,P0 fb] [clC fb xb x (jF x F)] fun v own=>v=.bool false∧own [clC fb xb x (jF x F)]:=by
 refine Ct.of G08 rfl fun h r=>Tr.eq (G19 ..) ?_;refine Je ?_
 refine Yn fun b h=>?_
 (refine Jb ?_;intros)
 refine Gr0 0 rfl (hd8 p) (p.fds.map int) [] (by simp) 1 8 8 8 ⟨by simp [p.len],by omega,by simp,fun _=>rfl,by omega,fun h=>by omega⟩ ?_
 refine (?_:Tr (slX false A7 1 (some ⟨b,8,none⟩) 8 8 (hd8 p,[]) (p.fds.map int)::clC fb xb x (jF x F)::_) _ _ _)
 refine Yc (Hz2 (slX false A7 1 (some ⟨b,8,none⟩) 8 8 (hd8 p,[]) (p.fds.map int)) (clC fb xb x (jF x F)) (some ⟨b,8,none⟩) false A7 8 8 p.fds p.len (by omega) Av0 [P0 fb] (fun d hd=>Jl9 fb xb F x d (hf d hd))) ?_;rintro _ h ⟨rfl,o⟩<;>refine Jh o ?_
 (refine Jb ?_;intros)
 refine Ys fun o=>?_
 exact ⟨rfl,o.sub⟩
theorem Hb4 (pr:HP) (a:Option Addr) (c:Nat) (S:Nat→ProcS × Int) (g:FuncId) (cp:List Value) (hq:∀ i:Nat,i<8→Ct A6 g (.agg ⟨B7 (S i).1⟩::cp) [pr] fun v own=>v=.bool false∧own [pr]):∀ (m i:Nat),i+m=8 →
  CtJ D6 E2 N6 [(0,.slice a 8 c),(1,.func (.func g) ⟨[]⟩ ⟨cp⟩),(7,int 8),(8,int i)] [slC false A7 16 a 8 c (rS S),pr] fun v own=>v=int (-1)∧own [slC false A7 16 a 8 c (rS S),pr]
 | 0,i,hi=>by
  obtain rfl:i=8:=by omega
  refine CtJ.of Ab0 fun h r=>Tr.eq (Am0 ..) ?_;refine Je ?_
  refine Yf (by simp) ?_
  (refine Ja ?_;intros)
  refine Ys fun o=>?_
  exact ⟨rfl,o.sub⟩
 | m+1,i,hi=>by
  have e1:=wN i
  have ih:=Hb4 pr a c S g cp hq m (i+1) (by omega)
  have hx:=Iu6 S (i:=i) (by omega)
  have hl:=H43 S
  have hm:=hq i (by omega)
  generalize (S i).1=p at *
  refine CtJ.of Ab0 fun h r=>Tr.eq (Am0 ..) ?_;refine Je ?_
  refine Yt (by simp;omega) ?_
  rw [e1]
  (refine Jc ?_;intros;repeat(refine Gw ?_;rintro px rfl;refine Jc ?_;intros))
  rw [Int.toNat_natCast]
  refine Tr.xAggS (xs:=B7 p) ⟨by omega,by omega,hx⟩ ?_
  (refine Jb ?_;intros)
  refine Yc (hm) ?_;rintro _ h ⟨rfl,o⟩<;>refine Jh o ?_
  (refine Jb ?_;intros)
  refine B9 [1,0] 0 rfl rfl ?_
  exact Yr ih fun v h q=>q
theorem Hx1 (pr:HP) (a:Option Addr) (c:Nat) (S:Nat→ProcS × Int) (g:FuncId) (cp:List Value) (hq:∀ i:Nat,i<8→Ct A6 g (.agg ⟨B7 (S i).1⟩::cp) [pr] fun v own=>v=.bool false∧own [pr]) :
  Ct A6 N8 [.slice a 8 c,.func (.func g) ⟨[]⟩ ⟨cp⟩] [slC false A7 16 a 8 c (rS S),pr] fun v own=>v=.bool false∧own [slC false A7 16 a 8 c (rS S),pr]:=by
 have J:Ct A6 E2 [.slice a 8 c,.func (.func g) ⟨[]⟩ ⟨cp⟩] [slC false A7 16 a 8 c (rS S),pr] fun v own=>v=int (-1)∧own [slC false A7 16 a 8 c (rS S),pr]:=by
  have K:=Hb4 pr a c S g cp hq 8 0 (Nat.zero_add _)
  refine Ct.of Ab0 rfl fun h r=>Tr.eq (Bs8 ..) ?_;refine Je ?_
  exact Yr K fun v h q=>q
 refine Ct.of Bk9 rfl fun h r=>Tr.eq (Bl0 ..) ?_;refine Je ?_
 refine Yc (J) ?_;rintro _ h ⟨rfl,o⟩<;>refine Jh o ?_
 (refine Jb ?_;intros)
 refine Ys fun o=>?_
 exact ⟨rfl,o.sub⟩
theorem Ju4 (xb:Nat) (S:Nat→ProcS × Int) (F:Nat→FileS × Int) (P:Nat→PipeS × Int) (x:AuA) (A:SndB S F P):Ct A6 B26 [P0 xb] [Bl7 xb x,lS x S,jF x F] fun v own=>v=.bool false∧own [Bl7 xb x,lS x S,jF x F]:=by
 refine Ct.of Hh7 rfl fun h r=>Tr.eq (Hh1 ..) ?_;refine Je ?_
 refine Yn fun fb h=>?_
 (refine Jb ?_;intros)
 refine Je ?_
 (refine Jb ?_;intros)
 refine G1 (clC fb xb x (jF x F)) () [0,0,1] rfl ?_;refine Je ?_
 refine Yc (Hx1 (clC fb xb x (jF x F)) x.a1 x.c1 S A45 [P0 fb] (fun i hi=>Js8 fb xb F x (S i).1 (A.fd i hi))) ?_;rintro _ h ⟨rfl,o⟩<;>refine Jh o ?_
 (refine Jb ?_;intros)
 refine B6 (clC fb xb x (jF x F)) fun u=>?_;refine Je ?_
 refine Ys fun o=>?_
 exact ⟨rfl,o.fin [1,2,1] 1 rfl rfl⟩
def Gh8 (f:FileS):Bool:=(f.kind==1 || f.kind==2) && decide (f.pipe<4)
theorem Ix5 (f:FileS):Ct A6 B64 [.agg ⟨Ag6 f⟩] [] fun v own=>v=.bool (Gh8 f)∧own []:=by
 unfold Gh8
 refine Ct.of Ii1 rfl fun h r=>Tr.eq (If3 ..) ?_;refine Je ?_
 refine Yn fun b h=>?_
 (refine Jb ?_;intros)
 by_cases h1:f.kind=1
 ·refine Yb (Yt (by rw [beq_iff_eq];exact h1) ?_)
  refine Ys fun o=>(?_:Tr _ _ _ _) o;refine Je ?_
  refine Yb (Yt rfl ?_)
  (refine Jb ?_;intros)
  refine Ys fun o=>(?_:Tr _ _ _ _) o;refine Je ?_
  refine Ys fun o=>?_
  exact ⟨by simp [h1],o.sub⟩
 ·refine Yb (Yf (by rw [beq_eq_false_iff_ne];exact h1) ?_)
  (refine Jb ?_;intros)
  refine Ys fun o=>(?_:Tr _ _ _ _) o;refine Je ?_
  by_cases h2:f.kind=2
  ·refine Yb (Yt (by rw [beq_iff_eq];exact h2) ?_)
   (refine Jb ?_;intros)
   refine Ys fun o=>(?_:Tr _ _ _ _) o;refine Je ?_
   refine Ys fun o=>?_
   exact ⟨by simp [h2],o.sub⟩
  ·refine Yb (Yf (by rw [beq_eq_false_iff_ne];exact h2) ?_)
   refine Ys fun o=>(?_:Tr _ _ _ _) o;refine Je ?_
   refine Ys fun o=>?_
   exact ⟨by simp [h1,h2],o.sub⟩
theorem G58 (f:FileS):Gh8 f=true↔(f.kind=1∨f.kind=2)∧f.pipe<4:=by unfold Gh8;simp
theorem Jg0 (fb xb:Nat) (P:Nat→PipeS × Int) (x:AuA) (f:FileS) (hf:(f.kind=1∨f.kind=2)→∃ k:Nat,f.pipe=k∧k<4∧(P k).2=1):Ct A6 Au7 [.agg ⟨Ag6 f⟩,P0 fb] [clC fb xb x (jP x P)] fun v own=>v=.bool false∧own [clC fb xb x (jP x P)]:=by
 refine Ct.of Gm2 rfl fun h r=>Tr.eq (Gl3 ..) ?_;refine Je ?_
 refine Yn fun b h=>?_
 (refine Jb ?_;intros)
 refine Yc (Ix5 f) ?_;rintro _ h ⟨rfl,o⟩<;>refine Jh o ?_
 (refine Jb ?_;intros)
 by_cases h1:Gh8 f=true
 ·obtain ⟨k,h3,h4,h5⟩:=hf ((G58 f).1 h1).1
  have J:=Hq1 4 x.a5 x.a6 x.c5 x.c6 (fun j=>(P j).2) k (by omega)
  rw [Int.toNat_natCast,h5] at J
  refine Yb (Yt h1 ?_)
  refine B6 (clC fb xb x (jP x P)) fun u=>?_;refine Je ?_
  (refine Jb ?_;intros)
  refine Je ?_
  (refine Jb ?_;intros)
  rw [h3]
  refine Yc (J) ?_;rintro _ h ⟨rfl,o⟩<;>refine Jh o ?_
  (refine Jb ?_;intros)
  refine Ys fun o=>(?_:Tr _ _ _ _) o;refine Je ?_
  refine G1 (clC fb xb x (jP x P)) () [1,1,0] rfl ?_;refine Je ?_
  refine Ys fun o=>?_
  exact ⟨rfl,o.sub⟩
 ·refine Yb (Yf (by simpa using h1) ?_)
  refine Ys fun o=>(?_:Tr _ _ _ _) o;refine Je ?_
  refine Ys fun o=>?_
  exact ⟨rfl,o.sub⟩
theorem G76 (pr:HP) (a:Option Addr) (c:Nat) (S:Nat→FileS × Int) (g:FuncId) (cp:List Value) (hq:∀ i:Nat,i<12→Ct A6 g (.agg ⟨Ag6 (S i).1⟩::cp) [pr] fun v own=>v=.bool false∧own [pr]):∀ (m i:Nat),i+m=12 →
  CtJ D6 E1 N7 [(0,.slice a 12 c),(1,.func (.func g) ⟨[]⟩ ⟨cp⟩),(7,int 12),(8,int i)] [slC false D2 4 a 12 c (rF S),pr] fun v own=>v=int (-1)∧own [slC false D2 4 a 12 c (rF S),pr]
 | 0,i,hi=>by
  obtain rfl:i=12:=by omega
  refine CtJ.of Ab3 fun h r=>Tr.eq (Am2 ..) ?_;refine Je ?_
  refine Yf (by simp) ?_
  (refine Ja ?_;intros)
  refine Ys fun o=>?_
  exact ⟨rfl,o.sub⟩
 | m+1,i,hi=>by
  have e1:=wN i
  have ih:=G76 pr a c S g cp hq m (i+1) (by omega)
  have hx:=Io7 S (i:=i) (by omega)
  have hl:=Hx6 S
  have hm:=hq i (by omega)
  generalize (S i).1=p at *
  refine CtJ.of Ab3 fun h r=>Tr.eq (Am2 ..) ?_;refine Je ?_
  refine Yt (by simp;omega) ?_
  rw [e1]
  (refine Jc ?_;intros;repeat(refine Gw ?_;rintro px rfl;refine Jc ?_;intros))
  rw [Int.toNat_natCast]
  refine Tr.xAggS (xs:=Ag6 p) ⟨by omega,by omega,hx⟩ ?_
  (refine Jb ?_;intros)
  refine Yc (hm) ?_;rintro _ h ⟨rfl,o⟩<;>refine Jh o ?_
  (refine Jb ?_;intros)
  refine B9 [1,0] 0 rfl rfl ?_
  exact Yr ih fun v h q=>q
theorem H42 (pr:HP) (a:Option Addr) (c:Nat) (S:Nat→FileS × Int) (g:FuncId) (cp:List Value) (hq:∀ i:Nat,i<12→Ct A6 g (.agg ⟨Ag6 (S i).1⟩::cp) [pr] fun v own=>v=.bool false∧own [pr]) :
  Ct A6 N9 [.slice a 12 c,.func (.func g) ⟨[]⟩ ⟨cp⟩] [slC false D2 4 a 12 c (rF S),pr] fun v own=>v=.bool false∧own [slC false D2 4 a 12 c (rF S),pr]:=by
 have J:Ct A6 E1 [.slice a 12 c,.func (.func g) ⟨[]⟩ ⟨cp⟩] [slC false D2 4 a 12 c (rF S),pr] fun v own=>v=int (-1)∧own [slC false D2 4 a 12 c (rF S),pr]:=by
  have K:=G76 pr a c S g cp hq 12 0 (Nat.zero_add _)
  refine Ct.of Ab3 rfl fun h r=>Tr.eq (Bt4 ..) ?_;refine Je ?_
  exact Yr K fun v h q=>q
 refine Ct.of Bk8 rfl fun h r=>Tr.eq (Bk7 ..) ?_;refine Je ?_
 refine Yc (J) ?_;rintro _ h ⟨rfl,o⟩<;>refine Jh o ?_
 (refine Jb ?_;intros)
 refine Ys fun o=>?_
 exact ⟨rfl,o.sub⟩
theorem Jm6 (xb:Nat) (S:Nat→ProcS × Int) (F:Nat→FileS × Int) (P:Nat→PipeS × Int) (x:AuA) (A:SndB S F P):Ct A6 Bo0 [P0 xb] [Bl7 xb x,lF x F,jP x P] fun v own=>v=.bool false∧own [Bl7 xb x,lF x F,jP x P]:=by
 refine Ct.of G11 rfl fun h r=>Tr.eq (G57 ..) ?_;refine Je ?_
 refine Yn fun fb h=>?_
 (refine Jb ?_;intros)
 refine Je ?_
 (refine Jb ?_;intros)
 refine G1 (clC fb xb x (jP x P)) () [0,0,1] rfl ?_;refine Je ?_
 refine Yc (H42 (clC fb xb x (jP x P)) x.a3 x.c3 F Au7 [P0 fb] (fun i hi=>Jg0 fb xb P x (F i).1 (A.pipe i hi))) ?_;rintro _ h ⟨rfl,o⟩<;>refine Jh o ?_
 (refine Jb ?_;intros)
 refine B6 (clC fb xb x (jP x P)) fun u=>?_;refine Je ?_
 refine Ys fun o=>?_
 exact ⟨rfl,o.fin [1,2,1] 1 rfl rfl⟩
theorem Jk1 (kd j:Int) (f:FileS):U0 kd j f≤1:=by unfold U0;split<;>omega
theorem Ev6 (F:Nat→FileS × Int) (kd:Int) (j:Nat):∀ m,0≤A77 F kd j m∧A77 F kd j m≤m
 | 0=>⟨Int.le_refl 0,by simp [A77,Dr3]⟩
 | m+1=>by
  have h1:=Ev6 F kd j m
  have h2:=Jk1 kd j (F m).1
  have h3:=Gn8 kd j (F m).1
  unfold A77 at h1 ⊢;rw [Dr3];omega
abbrev Gz5 (xb:Nat) (x:AuA) (F:Nat→FileS × Int) (P:Nat→PipeS × Int):List HP:=[Bl7 xb x,lF x F,lP x P,jP x P]
theorem G68 (xb b:Nat) (S:Nat→ProcS × Int) (F:Nat→FileS × Int) (P:Nat→PipeS × Int) (x:AuA) (A:SndB S F P) (i:Nat) (hi:i<4) (K:CtJ D6 H8 Ar4 [(0,P0 xb),(13,.slice x.a5 4 x.c5),(14,int 4),(15,int ((i+1:Nat):Int))] (Gz5 xb x F P) fun v own=>v=.bool false∧own (Gz5 xb x F P)):∀ (m k:Nat),k+m=12 →
  CtJ D6 H8 Ah2 [(0,P0 xb),(3,int i),(4,P0 b),(5,int (A77 F 1 i k)),(6,int (A77 F 2 i k)),(13,.slice x.a5 4 x.c5),(14,int 4),(15,int i),(24,.slice x.a3 12 x.c3),(25,int 12),(26,int k)] [Bl7 xb x,lF x F,lP x P,jP x P,pt b (.cells D9 false (I8 (P i).1))] fun v own=>v=.bool false∧own (Gz5 xb x F P)
 | 0,k,hk=>by
  obtain rfl:k=12:=by omega
  have e1:=wN i
  have hp:=A.ends i hi
  have ht:=Hq1 4 x.a5 x.a6 x.c5 x.c6 (fun j=>(P j).2) i (by omega)
  have b1:=Ev6 F 1 i 12
  have b2:=Ev6 F 2 i 12
  rw [Int.toNat_natCast] at ht
  generalize A77 F 1 i 12=n1 at *
  generalize A77 F 2 i 12=n2 at *
  have e2:IntKind.wrap .i64 (n1+n2)=n1+n2:=by rw [B4];omega
  generalize (P i).1=p at *
  generalize (P i).2=z at *
  obtain ⟨a1,c1,a2,c2,a3,c3,a4,c4,a5,c5,a6,c6,a7,c7,a8,c8,a9,c9,a0,c0⟩:=x
  dsimp only at K ht ⊢
  refine CtJ.of A41 fun h r=>Tr.eq (Dq2 ..) ?_;refine Je ?_
  refine Yf (by simp) ?_
  (refine Jb ?_;unhygienic intros)
  refine Yc (ht) ?_;rintro _ h ⟨rfl,o⟩<;>refine Jh o ?_
  (refine Jb ?_;unhygienic intros)
  rw [e1,e2]
  by_cases h1:z=1
  ·obtain ⟨p1,p2,p3⟩:=hp h1
   refine Yb (Yt (by rw [beq_iff_eq];exact h1) ?_)
   (refine Jb ?_;unhygienic intros)
   refine Yb (Yf (by rw [p1];simp) ?_)
   (refine Jb ?_;unhygienic intros)
   refine Ys fun o=>(?_:Tr _ _ _ _) o;refine Je ?_
   refine Yb (Yf (by rw [p2];simp) ?_)
   refine Ys fun o=>(?_:Tr _ _ _ _) o;refine Je ?_
   refine Ys fun o=>(?_:Tr _ _ _ _) o;refine Je ?_
   refine Yf (by rw [beq_eq_false_iff_ne];exact p3) ?_
   refine B9 [1,1,1,0] 1 rfl rfl ?_
   exact Yr K fun v h q=>q
  ·refine Yb (Yf (by rw [beq_eq_false_iff_ne];exact h1) ?_)
   refine Ys fun o=>(?_:Tr _ _ _ _) o;refine Je ?_
   refine Yf rfl ?_
   refine B9 [1,1,1,0] 1 rfl rfl ?_
   exact Yr K fun v h q=>q
 | m+1,k,hk=>by
  have e1:=wN k
  have ih:=G68 xb b S F P x A i hi K m (k+1) (by omega)
  have hx:=Io7 F (i:=k) (by omega)
  have hl:=Hx6 F
  have b1:=Ev6 F 1 i k
  have b2:=Ev6 F 2 i k
  have s1:A77 F 1 i (k+1)=A77 F 1 i k+U0 1 i (F k).1:=rfl
  have s2:A77 F 2 i (k+1)=A77 F 2 i k+U0 2 i (F k).1:=rfl
  rw [s1,s2] at ih
  clear s1 s2
  generalize A77 F 1 i k=n1 at *
  generalize A77 F 2 i k=n2 at *
  have e2:=wI n1
  have e3:=wI n2
  have ho:((F k).1.kind=1∨(F k).1.kind=2)∧(F k).1.pipe=i→Gh8 (F k).1=true:=fun h=>(G58 _).2 ⟨h.1,by omega⟩
  have ho2:Gh8 (F k).1=true→(F k).1.kind=1∨(F k).1.kind=2:=fun h=>((G58 _).1 h).1
  generalize (F k).1=f at *
  generalize (P i).1=p at *
  obtain ⟨a1,c1,a2,c2,a3,c3,a4,c4,a5,c5,a6,c6,a7,c7,a8,c8,a9,c9,a0,c0⟩:=x
  dsimp only at ih ⊢
  refine CtJ.of A41 fun h r=>Tr.eq (Dq2 ..) ?_;refine Je ?_
  refine Yt (by simp;omega) ?_
  rw [e1,e2,e3]
  (refine Jc ?_;unhygienic intros;repeat(refine Gw ?_;rintro px rfl;refine Jc ?_;unhygienic intros))
  rw [Int.toNat_natCast]
  refine Tr.xAggS (xs:=Ag6 f) ⟨by omega,by omega,hx⟩ ?_
  refine Yn fun b2 h=>?_
  (refine Jb ?_;unhygienic intros)
  refine Yc (Ix5 f) ?_;rintro _ h ⟨rfl,o⟩<;>refine Jh o ?_
  (refine Jb ?_;unhygienic intros)
  by_cases h1:Gh8 f=true
  ·refine Yb (Yf (by rw [h1];rfl) ?_)
   (refine Jb ?_;unhygienic intros)
   refine Ys fun o=>(?_:Tr _ _ _ _) o;refine Je ?_
   by_cases h2:f.pipe=i
   ·refine Yf (by rw [h2];simp) ?_
    (refine Jb ?_;unhygienic intros)
    by_cases h3:f.kind=1
    ·refine Yt (by rw [beq_iff_eq];exact h3) ?_
     have o1:U0 1 i f=1:=by unfold U0;rw [if_pos ⟨h3,h2⟩]
     have o2:U0 2 i f=0:=by unfold U0;rw [if_neg (by omega)]
     rw [o1,o2,Int.add_zero] at ih
     refine B9 [1,1,1,1,1] 1 rfl rfl ?_
     exact Yr ih fun v h q=>q
    ·refine Yf (by rw [beq_eq_false_iff_ne];exact h3) ?_
     have o1:U0 1 i f=0:=by unfold U0;rw [if_neg (by omega)]
     have o2:U0 2 i f=1:=by unfold U0;rw [if_pos ⟨(ho2 h1).resolve_left h3,h2⟩]
     rw [o1,o2,Int.add_zero] at ih
     refine B9 [1,1,1,1,1] 1 rfl rfl ?_
     exact Yr ih fun v h q=>q
   ·refine Yt (by rw [bne_iff_ne];exact h2) ?_
    have o1:U0 1 i f=0:=by unfold U0;rw [if_neg (by omega)]
    have o2:U0 2 i f=0:=by unfold U0;rw [if_neg (by omega)]
    rw [o1,o2,Int.add_zero,Int.add_zero] at ih
    refine B9 [1,1,1,1,1] 1 rfl rfl ?_
    exact Yr ih fun v h q=>q
  ·refine Yb (Yt (by simpa using h1) ?_)
   refine Ys fun o=>(?_:Tr _ _ _ _) o;refine Je ?_
   refine Yt rfl ?_
   have o1:U0 1 i f=0:=by unfold U0;rw [if_neg (fun h=>h1 (ho ⟨.inl h.1,h.2⟩))]
   have o2:U0 2 i f=0:=by unfold U0;rw [if_neg (fun h=>h1 (ho ⟨.inr h.1,h.2⟩))]
   rw [o1,o2,Int.add_zero,Int.add_zero] at ih
   refine B9 [1,1,1,1,1] 1 rfl rfl ?_
   exact Yr ih fun v h q=>q
theorem Hf5 (xb:Nat) (S:Nat→ProcS × Int) (F:Nat→FileS × Int) (P:Nat→PipeS × Int) (x:AuA) (A:SndB S F P):∀ (m i:Nat),i+m=4 →
  CtJ D6 H8 Ar4 [(0,P0 xb),(13,.slice x.a5 4 x.c5),(14,int 4),(15,int i)] (Gz5 xb x F P) fun v own=>v=.bool false∧own (Gz5 xb x F P)
 | 0,i,hi=>by
  obtain rfl:i=4:=by omega
  refine CtJ.of A41 fun h r=>Tr.eq (Dq0 ..) ?_;refine Je ?_
  refine Yf (by simp) ?_
  refine Ys fun o=>?_
  exact ⟨rfl,o.sub⟩
 | m+1,i,hi=>by
  have J:=fun b=>G68 xb b S F P x A i (by omega) (Hf5 xb S F P x A m (i+1) (by omega)) 12 0 rfl
  have hx:=Jv4 P (i:=i) (by omega)
  have hl:=Jr0 P
  have z1:A77 F 1 i 0=0:=rfl
  have z2:A77 F 2 i 0=0:=rfl
  rw [z1,z2] at J
  clear z1 z2
  have hq:(I8 (P i).1).length=36:=Bc3 (P i).1.len
  generalize (P i).1=p at *
  obtain ⟨a1,c1,a2,c2,a3,c3,a4,c4,a5,c5,a6,c6,a7,c7,a8,c8,a9,c9,a0,c0⟩:=x
  dsimp only at J ⊢
  refine CtJ.of A41 fun h r=>Tr.eq (Dq0 ..) ?_;refine Je ?_
  refine Yt (by simp;omega) ?_
  (refine Jc ?_;unhygienic intros;repeat(refine Gw ?_;rintro px rfl;refine Jc ?_;unhygienic intros))
  rw [Int.toNat_natCast]
  refine Tr.xAggS (xs:=I8 p) ⟨by omega,by omega,hx⟩ ?_
  refine Yn fun b2 h=>?_
  (refine Jb ?_;unhygienic intros)
  refine B9 [1,1,1,1,0] 0 rfl rfl ?_
  exact Yr (J b2) fun v h q=>q
theorem Ji0 (xb:Nat) (S:Nat→ProcS × Int) (F:Nat→FileS × Int) (P:Nat→PipeS × Int) (x:AuA) (A:SndB S F P):Ct A6 H8 [P0 xb] (Gz5 xb x F P) fun v own=>v=.bool false∧own (Gz5 xb x F P):=by
 have J:=Hf5 xb S F P x A 4 0 rfl
 obtain ⟨a1,c1,a2,c2,a3,c3,a4,c4,a5,c5,a6,c6,a7,c7,a8,c8,a9,c9,a0,c0⟩:=x
 dsimp only at J ⊢
 refine Ct.of A41 rfl fun h r=>Tr.eq (Gz9 ..) ?_;refine Je ?_
 (refine Ja ?_;unhygienic intros)
 exact Yr J fun v h q=>q
theorem Gi9 (a:Option Addr) (c:Nat) (ns:Nat→ByteArray):∀ (m i:Nat),i+m=5 →
  CtJ D6 Ae9 Ay8 [(4,.slice none 0 0),(29,.slice a 5 c),(30,int 5),(31,int i)] [slC false Aq5 2 a 5 c ((List.range 5).flatMap fun i=>[.string (ns i),.bool false])] fun v own=>v=.slice none 0 0∧own []
 | 0,i,hi=>by
  obtain rfl:i=5:=by omega
  refine CtJ.of Ds2 fun h r=>Tr.eq (D49 ..) ?_;refine Je ?_
  refine Yf (by simp) ?_
  refine Ys fun o=>?_
  exact ⟨rfl,o.sub⟩
 | m+1,i,hi=>by
  have e1:=wN i
  have ih:=Gi9 a c ns m (i+1) (by omega)
  have hx:=Af8 (f:=fun i=>[Value.string (ns i),.bool false]) (k:=2) (fun x=>rfl) (Ek5 (n:=5) (i:=i) (by omega))
  have hl:=N1 (f:=fun i=>[Value.string (ns i),.bool false]) (k:=2) (fun x=>rfl) (List.range 5)
  rw [List.length_range] at hl
  generalize ((List.range 5).flatMap fun i=>[Value.string (ns i),.bool false])=cs at *
  refine CtJ.of Ds2 fun h r=>Tr.eq (D49 ..) ?_;refine Je ?_
  refine Yt (by simp;omega) ?_
  rw [e1]
  (refine Jc ?_;unhygienic intros;repeat(refine Gw ?_;rintro px rfl;refine Jc ?_;unhygienic intros))
  rw [Int.toNat_natCast]
  refine Tr.xAggS (xs:=[.string (ns i),.bool false]) ⟨by omega,by omega,hx⟩ ?_
  refine Yn fun b2 h=>?_
  (refine Jb ?_;unhygienic intros)
  refine B9 [1] 1 rfl rfl ?_
  exact Yr ih fun v h q=>q
def nsF (i:Nat):ByteArray:=[ByteArray.mk ⟨[112,97,114,101,110,116]⟩,ByteArray.mk ⟨[102,100]⟩,ByteArray.mk ⟨[114,101,102,115]⟩,ByteArray.mk ⟨[112,105,112,101]⟩,ByteArray.mk ⟨[101,110,100,115]⟩].getD i ⟨⟨[]⟩⟩
theorem Iy7 (a:Option Addr) (cc:Nat) (l:List UInt8) (N:NoBad l) (A:SndB (auS l) (auF l) (auP l)):Ct A6 Ae9 [.slice a l.length cc] [slC false A3 1 a l.length cc (A0 l)] fun v own=>v=.slice none 0 0∧own [slC false A3 1 a l.length cc (A0 l)]:=by
 refine Ct.of Ds2 rfl fun h r=>Tr.eq (Hj6 ..) ?_;refine Je ?_
 refine Yc (Jm3 a cc l N) ?_;rintro _ h ⟨rfl,o⟩<;>refine Jh o ?_
 (refine Jb ?_;unhygienic intros)
 refine Yc (Jg6 a cc l N.len) ?_
 rintro _ h ⟨xb,a1,c1,a2,c2,a3,c3,a4,c4,a5,c5,a6,c6,a7,c7,a8,c8,a9,c9,a0,c0,rfl,o⟩
 obtain ⟨x,hx⟩:∃ x:AuA,x=⟨a1,c1,a2,c2,a3,c3,a4,c4,a5,c5,a6,c6,a7,c7,a8,c8,a9,c9,a0,c0⟩:=⟨_,rfl⟩
 have o2:Own h (slC false A3 1 a l.length cc (A0 l)::Bl7 xb x::lS x (auS l)::jS x (auS l)::lF x (auF l)::jF x (auF l)::lP x (auP l)::jP x (auP l)::slC false A8 1 a8 1 c8 (isL 1 fun j=>(auT l j).2)::slC false A8 1 a0 1 c0 (isL 1 fun j=>(auG l j).2)::r):=by rw [hx];exact o
 clear o hx
 refine (?_:Tr _ _ _ _) o2
 (refine Jb ?_;unhygienic intros)
 refine Yc (I40 xb (auS l) (auF l) (auP l) x A) ?_;rintro _ h ⟨rfl,o⟩<;>refine Jh o ?_
 (refine Jb ?_;unhygienic intros)
 refine Yc (Ju4 xb (auS l) (auF l) (auP l) x A) ?_;rintro _ h ⟨rfl,o⟩<;>refine Jh o ?_
 (refine Jb ?_;unhygienic intros)
 refine Yc (Jn1 xb (auS l) (auF l) (auP l) x A) ?_;rintro _ h ⟨rfl,o⟩<;>refine Jh o ?_
 (refine Jb ?_;unhygienic intros)
 refine Yc (Jm6 xb (auS l) (auF l) (auP l) x A) ?_;rintro _ h ⟨rfl,o⟩<;>refine Jh o ?_
 (refine Jb ?_;unhygienic intros)
 refine Yc (Ji0 xb (auS l) (auF l) (auP l) x A) ?_;rintro _ h ⟨rfl,o⟩<;>refine Jh o ?_
 (refine Jb ?_;unhygienic intros)
 refine Ah3 0 rfl 2 5 rfl (by omega) ?_
 refine B9 [0,7] 9 rfl rfl ?_
 refine (?_:Tr (slC false Aq5 2 (some ⟨b,0,none⟩) 5 5 ((List.range 5).flatMap fun i=>[.string (nsF i),.bool false])::slC false A3 1 a l.length cc (A0 l)::r) _ _ _)
 refine Yr (Gi9 (some ⟨b,0,none⟩) 5 nsF 5 0 rfl) ?_
 rintro v h ⟨rfl,o⟩
 exact ⟨rfl,o⟩
theorem Je1 (a:Option Addr) (cc:Nat) (l:List UInt8) (N:NoBad l) (A:SndB (auS l) (auF l) (auP l)):Ct A6 Da5 [.slice a l.length cc] [slC false A3 1 a l.length cc (A0 l)] fun v own=>v=.bool true∧own [slC false A3 1 a l.length cc (A0 l)]:=by
 refine Ct.of Hu5 rfl fun h r=>Tr.eq (Hs2 ..) ?_;refine Je ?_
 refine Yc (Iy7 a cc l N A) ?_;rintro _ h ⟨rfl,o⟩<;>refine Jh o ?_
 (refine Jb ?_;unhygienic intros)
 refine Ys fun o=>?_
 exact ⟨rfl,o.sub⟩
structure NoS (X X':CX) (i:Int):Prop where
 look:Go0 X=X'
 none:Ej5 X' i=((.zero,2),X')
theorem Jb2 {nc:Nat} {i:Int} (h:¬ (0≤i∧i<8)):E7 nc ⟨1,i⟩=none:=by
 unfold E7;rw [if_pos (by simp [J8];omega)]
theorem NoS.out {nc:Nat} {X:CX} (c:Clean nc X) {i:Int} (h:¬ (0≤i∧i<8)):NoS X X i :=
 ⟨D64 c,by show Z8 O2 _ _ _=_;unfold Z8 rdX;rw [Jb2 h]⟩
section
variable (b k:Nat) (F:Fr) (ok:FrOk F) {X X':CX} {i:Int} (N:NoS X X' i)
include ok N
theorem Eb6:Ct A6 Am4 [P0 b,int i] [cmC b k F X] fun v own=>v=.tuple ⟨[.agg ⟨Dx7⟩,int 105]⟩∧own [cmC b k F X']:=by
 refine Ct.of Gt9 rfl fun h r=>Tr.eq (Gw7 ..) ?_;refine Je ?_
 (refine Jc ?_;intros)
 refine Yn fun b0 h=>?_
 refine Yc (Go4 b k F X ok) ?_;rintro _ h ⟨rfl,o⟩<;>refine Jh o ?_
 rw [N.look]
 (refine Ja ?_;intros)
 refine Yc (Bd1 b k F X' ok i) ?_;rintro _ h ⟨rfl,o⟩<;>refine Jh o ?_
 rw [N.none]
 dsimp only
 (refine Jc ?_;intros)
 refine Yn fun b1 h=>?_
 (refine Jb ?_;intros)
 refine Tr.orG (c:=true) (fun hb=>?_) ?_
 ·exact Jz
 refine Yt (by simp) ?_
 (refine Ja ?_;intros)
 refine Ys fun o=>?_
 exact ⟨rfl,o.sub⟩
theorem Jd9:Ct A6 Bd5 [P0 b,int i] [cmC b k F X] fun v own=>v=.agg ⟨M7 0 105 false⟩∧own [cmC b k F X']:=by
 refine Ct.of Gy8 rfl fun h r=>Tr.eq (Gx8 ..) ?_;refine Je ?_
 refine Yn fun b0 h=>?_
 refine Yc (Eb6 b k F ok N) ?_;rintro _ h ⟨rfl,o⟩<;>refine Jh o ?_
 (refine Jc ?_;intros)
 refine Yn fun b1 h=>?_
 (refine Ja ?_;intros)
 refine Yt rfl ?_
 refine Yc (Ac2 105) ?_;rintro _ h ⟨rfl,o⟩<;>(refine Jf o ?_;intros)
 refine Ys fun o=>?_
 exact ⟨rfl,o.sub⟩
theorem Ja9 (code:Int):Ct A6 Bs3 [P0 b,int i,int code] [cmC b k F X] fun v own=>v=.agg ⟨M7 0 105 false⟩∧own [cmC b k F X']:=by
 refine Ct.of Gz1 rfl fun h r=>Tr.eq (Gv6 ..) ?_;refine Je ?_
 refine Yn fun b0 h=>?_
 refine Yc (Eb6 b k F ok N) ?_;rintro _ h ⟨rfl,o⟩<;>refine Jh o ?_
 (refine Jc ?_;intros)
 refine Yn fun b1 h=>?_
 (refine Jb ?_;intros)
 refine Yt rfl ?_
 refine Yc (Ac2 105) ?_;rintro _ h ⟨rfl,o⟩<;>(refine Jf o ?_;intros)
 refine Ys fun o=>?_
 exact ⟨rfl,o.sub⟩
theorem I70:Ct A6 Ae1 [P0 b,int i] [cmC b k F X] fun v own=>v=.agg ⟨M7 0 105 false⟩∧own [cmC b k F X']:=by
 refine Ct.of Dw8 rfl fun h r=>Tr.eq (Gy5 ..) ?_;refine Je ?_
 refine Yn fun b0 h=>?_
 refine Yn fun b4 h=>?_
 (refine Ja ?_;intros)
 refine Yc (Eb6 b k F ok N) ?_;rintro _ h ⟨rfl,o⟩<;>refine Jh o ?_
 (refine Jc ?_;intros)
 refine Yn fun b1 h=>?_
 (refine Jb ?_;intros)
 refine Yt rfl ?_
 refine Yc (Ac2 105) ?_;rintro _ h ⟨rfl,o⟩<;>(refine Jf o ?_;intros)
 refine Ys fun o=>?_
 exact ⟨rfl,o.sub⟩
theorem I97 (t n:Int):Ct A6 Am5 [P0 b,int i,int t,int n] [cmC b k F X] fun v own=>v=.agg ⟨M7 0 105 false⟩∧own [cmC b k F X']:=by
 refine Ct.of Dx4 rfl fun h r=>Tr.eq (Gw6 ..) ?_;refine Je ?_
 refine Yn fun b0 h=>?_
 refine Yc (Eb6 b k F ok N) ?_;rintro _ h ⟨rfl,o⟩<;>refine Jh o ?_
 (refine Jc ?_;intros)
 refine Yn fun b1 h=>?_
 (refine Jb ?_;intros)
 refine Yt rfl ?_
 refine Yc (Ac2 105) ?_;rintro _ h ⟨rfl,o⟩<;>(refine Jf o ?_;intros)
 refine Ys fun o=>?_
 exact ⟨rfl,o.sub⟩
theorem I25 (t g:Int):Ct A6 Bj2 [P0 b,int i,int t,int g] [cmC b k F X] fun v own=>v=.agg ⟨M7 0 105 false⟩∧own [cmC b k F X']:=by
 refine Ct.of Gj2 rfl fun h r=>Tr.eq (Gl8 ..) ?_;refine Je ?_
 refine Yn fun b0 h=>?_
 refine Yc (Eb6 b k F ok N) ?_;rintro _ h ⟨rfl,o⟩<;>refine Jh o ?_
 (refine Jc ?_;intros)
 refine Yn fun b1 h=>?_
 (refine Jb ?_;intros)
 refine Yt rfl ?_
 refine Yc (Ac2 105) ?_;rintro _ h ⟨rfl,o⟩<;>(refine Jf o ?_;intros)
 refine Ys fun o=>?_
 exact ⟨rfl,o.sub⟩
end
theorem Jw0:Snd V1 (-1):=by
 have hS:∀ j,V1.S j=if j=0 then (p0,1) else (.zero,0):=fun _=>rfl
 have hF:∀ j,V1.F j=if j=0 then (f0,1) else (.zero,0):=fun _=>rfl
 have hP:∀ j:Int,j<4→V1.P j=(.zero,0):=fun j h=>if_pos h
 refine ⟨fun i a b=>?_,fun f a b=>?_,fun j a b=>.inl (hP j (by omega)),fun i a b h=>?_,fun i a b f hf h0=>?_,fun f a b h=>?_,by omega,fun f a b h=>?_,fun j a b h=>?_⟩
 ·rw [hS];split
  ·exact .inr ⟨rfl,rfl⟩
  ·exact .inl rfl
 ·rw [hF];split
  ·exact .inr ⟨rfl,rfl,.inl rfl⟩
  ·exact .inl rfl
 ·rw [hS] at h
  split at h
  ·exact absurd h (by decide)
  ·exact absurd h (by decide)
 ·rw [hS] at hf
  split at hf
  ·have:f ∈ ([1,0,0,0,0,0,0,0]:List Int):=hf
   simp at this
   have:f=1:=by omega
   subst this;rfl
  ·have:f ∈ Av8:=hf
   simp at this;omega
 ·rw [hF] at h ⊢
  split at h
  ·rename_i e;subst e;rfl
  ·cases h
 ·rw [hF] at h
  split at h
  ·exact absurd h (by decide)
  ·exact absurd h (by decide)
 ·rw [hP j b] at h;cases h
theorem sx1:SX X1:=⟨V1,Jv9,Jw0⟩
theorem Ct.imp {call:E0} {f:FuncId} {vs:List Value} {l:List HP} {Q Q':Value→(List HP→Prop)→Prop} (J:Ct call f vs l Q) (k:∀ v own,Q v own→Q' v own):Ct call f vs l Q':=fun h r o =>
 Wp.mono (J h r o) fun v h' q=>k v _ q
abbrev SXQ (b k:Nat) (v:Value) (own:List HP→Prop):Prop:=∃ L X',v=.agg ⟨L⟩∧SX X'∧own [cmC b k F1 X']
section
variable (b k:Nat) {X:CX} (H:SX X)
include H
theorem SX.c:Clean 3 X:=by
 obtain ⟨V,A,_⟩:=H
 exact A.c
theorem I96 (i:Int):Ct A6 Bd5 [P0 b,int i] [cmC b k F1 X] (SXQ b k):=by
 by_cases hi:0≤i∧i<8
 ·exact Ct.imp (Il3 b k F1 X Bf5 H.c i hi) fun v own q=>⟨_,_,q.1,H.fork hi,q.2⟩
 ·exact Ct.imp (Jd9 b k F1 Bf5 (NoS.out H.c hi)) fun v own q=>⟨_,_,q.1,H,q.2⟩
theorem Jc2 (i code:Int):Ct A6 Bs3 [P0 b,int i,int code] [cmC b k F1 X] (SXQ b k):=by
 by_cases hi:0≤i∧i<8
 ·exact Ct.imp (Jl6 b k F1 X Bf5 H.c i code hi) fun v own q=>⟨_,_,q.1,H.exit hi code,q.2⟩
 ·exact Ct.imp (Ja9 b k F1 Bf5 (NoS.out H.c hi) code) fun v own q=>⟨_,_,q.1,H,q.2⟩
theorem Jb4 (i:Int):Ct A6 Ae1 [P0 b,int i] [cmC b k F1 X] (SXQ b k):=by
 by_cases hi:0≤i∧i<8
 ·exact Ct.imp (Hi8 b k F1 X Bf5 H.c i hi) fun v own q=>⟨_,_,q.1,H.wait hi,q.2⟩
 ·exact Ct.imp (I70 b k F1 Bf5 (NoS.out H.c hi)) fun v own q=>⟨_,_,q.1,H,q.2⟩
theorem Ja7 (i t n:Int):Ct A6 Am5 [P0 b,int i,int t,int n] [cmC b k F1 X] (SXQ b k):=by
 by_cases hi:0≤i∧i<8
 ·exact Ct.imp (Jo3 b k F1 X Bf5 H.c i t n hi) fun v own q=>⟨_,_,q.1,H.kill i t n,q.2⟩
 ·exact Ct.imp (I97 b k F1 Bf5 (NoS.out H.c hi) t n) fun v own q=>⟨_,_,q.1,H,q.2⟩
theorem I26 (i t g:Int):Ct A6 Bj2 [P0 b,int i,int t,int g] [cmC b k F1 X] (SXQ b k):=by
 by_cases hi:0≤i∧i<8
 ·exact Ct.imp (I73 b k F1 X Bf5 H.c i t g hi) fun v own q=>⟨_,_,q.1,H.group hi t g,q.2⟩
 ·exact Ct.imp (I25 b k F1 Bf5 (NoS.out H.c hi) t g) fun v own q=>⟨_,_,q.1,H,q.2⟩
end
structure Op4 where
 k:Int
 i:Int
 a:Int
 b:Int
abbrev Gd8 (x:Op4):List Value:=[int x.k,int x.i,int x.a,int x.b]
abbrev Je2 (a:Option Addr) (c:Nat) (xs:List Op4):HP:=slC true Dm1 4 a xs.length c (xs.flatMap Gd8)
abbrev Ia6 (k c:Nat) (a:Option Addr) (lc:Nat) (xs:List Op4) (i:Nat):Prop :=
 ∀ X,SX X→CtJ D6 D5 A07 [(0,.slice a xs.length lc),(3,P0 k),(4,P0 c),(7,int i)] [cmC c k F1 X,Je2 a lc xs] fun v own=>v=.bool true∧own []
theorem Jb0 (k c:Nat) (a:Option Addr) (lc:Nat) (xs:List Op4) (i:Nat) (hi:i<60) (K:Ia6 k c a lc xs (i+1)) (X:CX) (H:SX X) :
  CtJ D6 D5 Z5 [(0,.slice a xs.length lc),(3,P0 k),(4,P0 c),(7,int i)] [cmC c k F1 X,Je2 a lc xs] fun v own=>v=.bool true∧own []:=by
 have e1:=wN i
 have ih:=K X H
 obtain ⟨hc,sn⟩:=H.snd
 have J:=fun y d=>Je1 y d _ (I74 hc) sn
 rw [hc.own] at J
 refine CtJ.of Bf7 fun h r=>Tr.eq (E31 ..) ?_;refine Je ?_
 refine Jq6 c k X fun y d h=>?_
 refine Je ?_
 (refine Jb ?_;intros)
 refine Yb (Yf rfl ?_)
 refine Yc (J y d) ?_;rintro _ h ⟨rfl,o⟩<;>refine Jh o ?_
 (refine Jb ?_;intros)
 refine Ys fun o=>(?_:Tr _ _ _ _) o;refine Je ?_
 refine Yb (Yf rfl ?_)
 refine Yc (Jf2 c k F1 X Bf5) ?_;rintro _ h ⟨a1,c1,rfl,o⟩<;>refine Jh o ?_
 rw [hc.bad,I47] at o ⊢
 (refine Jb ?_;intros)
 refine Ys fun o=>(?_:Tr _ _ _ _) o;refine Je ?_
 refine Yf rfl ?_
 rw [e1]
 refine B9 [1,2] 2 rfl rfl ?_
 exact Yr ih fun v h q=>q
theorem Je9 (k c:Nat) (a:Option Addr) (lc:Nat) (xs:List Op4):∀ (m i:Nat),i+m=60→Ia6 k c a lc xs i:=by
 have fin:∀ (i:Nat),¬ (i<xs.length∧i<60)→Ia6 k c a lc xs i:=by
  intro i hi X H
  refine CtJ.of Bf7 fun h r=>Tr.eq (Dl3 ..) ?_;refine Je ?_
  (refine Jb ?_;intros)
  refine Tr.andG (c:=decide ((i:Int)<60)) (fun hb=>?_) ?_
  ·exact Jz
  refine Yf (by simp;omega) ?_
  refine Yc (In7) ?_;rintro _ h ⟨rfl,o⟩<;>refine Jh o ?_
  (refine Jb ?_;intros)
  refine Ys fun o=>?_
  exact ⟨rfl,o.sub⟩
 intro m
 induction m with
 | zero=>intro i hi;exact fin i (by omega)
 | succ m ihm =>
  intro i hi
  by_cases hg0:i<xs.length∧i<60
  case neg=>exact fin i hg0
  intro X H
  have R:=fun X' H'=>Jb0 k c a lc xs i hg0.2 (ihm (i+1) (by omega)) X' H'
  have hg:xs[i]?=some xs[i]:=List.getElem?_eq_getElem hg0.1
  have hx:=Af8 (f:=Gd8) (k:=4) (fun x=>rfl) hg
  have hl:=N1 (f:=Gd8) (k:=4) (fun x=>rfl) xs
  generalize xs[i]=x at hx
  have b1:=I96 c k H x.i
  have b2:=Jc2 c k H x.i x.a
  have b3:=Jb4 c k H x.i
  have b4:=Ja7 c k H x.i x.a x.b
  have b5:=I26 c k H x.i x.a x.b
  refine CtJ.of Bf7 fun h r=>Tr.eq (Dl3 ..) ?_;refine Je ?_
  (refine Jb ?_;intros)
  refine Tr.andG (c:=decide ((i:Int)<60)) (fun hb=>?_) ?_
  ·exact Jz
  refine Yt (by simp;omega) ?_
  (refine Jc ?_;intros;repeat(refine Gw ?_;rintro px rfl;refine Jc ?_;intros))
  rw [Int.toNat_natCast]
  refine Tr.xAggS (xs:=Gd8 x) ⟨by omega,by omega,hx⟩ ?_
  refine Yn fun b h=>?_
  (refine Jb ?_;intros)
  by_cases h0:x.k=0
  ·refine Yt (by rw [beq_iff_eq];exact h0) ?_
   (refine Jb ?_;intros)
   refine Yc (b1) ?_;rintro _ h ⟨L,X',rfl,H',o⟩<;>refine Jh o ?_
   (refine Jb ?_;intros)
   refine B9 [0,1] 1 rfl rfl ?_
   exact Yr (R X' H') fun v h q=>q
  refine Yf (by rw [beq_eq_false_iff_ne];exact h0) ?_
  by_cases h1:x.k=1
  ·refine Yt (by rw [beq_iff_eq];exact h1) ?_
   (refine Jb ?_;intros)
   refine Yc (b2) ?_;rintro _ h ⟨L,X',rfl,H',o⟩<;>refine Jh o ?_
   (refine Jb ?_;intros)
   refine B9 [0,1] 1 rfl rfl ?_
   exact Yr (R X' H') fun v h q=>q
  refine Yf (by rw [beq_eq_false_iff_ne];exact h1) ?_
  by_cases h2:x.k=2
  ·refine Yt (by rw [beq_iff_eq];exact h2) ?_
   (refine Jb ?_;intros)
   refine Yc (b3) ?_;rintro _ h ⟨L,X',rfl,H',o⟩<;>refine Jh o ?_
   (refine Jb ?_;intros)
   refine B9 [0,1] 1 rfl rfl ?_
   exact Yr (R X' H') fun v h q=>q
  refine Yf (by rw [beq_eq_false_iff_ne];exact h2) ?_
  by_cases h3:x.k=3
  ·refine Yt (by rw [beq_iff_eq];exact h3) ?_
   (refine Jb ?_;intros)
   refine Yc (b4) ?_;rintro _ h ⟨L,X',rfl,H',o⟩<;>refine Jh o ?_
   (refine Jb ?_;intros)
   refine B9 [0,1] 1 rfl rfl ?_
   exact Yr (R X' H') fun v h q=>q
  refine Yf (by rw [beq_eq_false_iff_ne];exact h3) ?_
  (refine Jb ?_;intros)
  refine Yc (b5) ?_;rintro _ h ⟨L,X',rfl,H',o⟩<;>refine Jh o ?_
  (refine Jb ?_;intros)
  refine B9 [0,1] 1 rfl rfl ?_
  exact Yr (R X' H') fun v h q=>q
theorem H05 (a:Option Addr) (lc:Nat) (xs:List Op4):Ct A6 D5 [.slice a xs.length lc] [Je2 a lc xs] fun v own=>v=.bool true∧own []:=by
 refine Ct.of Bf7 rfl fun h r=>Tr.eq (Gr1 ..) ?_;refine Je ?_
 refine Yc (H79) ?_;rintro _ h ⟨a1,rfl,o⟩<;>refine Jh o ?_
 (refine Ja ?_;intros)
 refine Yc (Ik5 a1) ?_
 rintro _ h ⟨k,c,w,m,K',rfl,o⟩
 refine Jh o ?_
 (refine Jb ?_;intros)
 refine Yb (Yf rfl ?_)
 refine Ji6 c k X1 fun rg=>?_
 (refine Jb ?_;intros)
 refine Ys fun o=>(?_:Tr _ _ _ _) o;refine Je ?_
 refine Yf rfl ?_
 refine B9 [0,2] 2 rfl rfl ?_
 exact Yr (Je9 k c a lc xs 60 0 rfl X1 sx1) fun v h q=>q
end Go.EQ

set_option maxRecDepth 100000
namespace Go.EQ
open Go Go.NN Go.Proofs Go.ChangeShapes Go.WideShapes Go.RowKit
theorem Jo1:∀ f,(cutsOf f).globs=0:=Gb6 Jg8 (by kernel_rfl)
theorem Jm8:∀ f,(cutsOf f).globs≤PR.globals.size:=fun f=>by rw [Jo1 f];exact Nat.zero_le _
theorem Jm4:PR.follows .mixedOrders=true:=by kernel_rfl
theorem Jq5:laidOutB PR=true:=by kernel_rfl
theorem Ju6:ownKnob PR.godebug=none:=by kernel_rfl
end Go.EQ

set_option maxRecDepth 100000
namespace Go.EQ
open Go Go.NN Go.Proofs Go.Proofs.YtoegoalficgneaaGreat Go.ChangeShapes Go.WideShapes Go.RowKit
theorem Jw3 {W:World}:Ah8 PR W Dm1 (fun (_:Unit) (x:Op4)=>Gd8 x) (fun _ _=>sl []) (fun _=>True) :=
 (Ah8.struct Iq6 (by kernel_rfl) (Ed2.cons (Ah8.int Hw2) (Ed2.cons (Ah8.int Hw2) (Ed2.cons (Ah8.int Hw2) (Ed2.cons (Ah8.int Hw2) Ed2.nil))))).as
  fun ⟨k,i,a,b,_⟩ _=>⟨⟨k,i,a,b⟩,trivial,fun _=>⟨(),rfl,fun hh r o=>o.of_sl 0 rfl⟩⟩
theorem Ik3:∀ (g:List Unit) (l:List Op4),g.length=l.length→((List.zip g l).flatMap fun p=>Gd8 p.2)=l.flatMap Gd8
 | [],[],_=>rfl
 | _::g,x::l,h=>by
  have:=Ik3 g l (by simpa using h)
  simp only [List.zip_cons_cons,List.flatMap_cons] at this ⊢
  rw [this]
theorem Ju3 {W:World}:Ah8 PR W Ee3 (fun (g:Option Addr × Nat) (l:List Op4)=>[.slice g.1 l.length g.2]) (fun g l=>slC true Dm1 4 g.1 l.length g.2 (l.flatMap Gd8)) (fun _=>True) :=
 (Ah8.slice (sz:=4) Dm1 Gf7 (by kernel_rfl) (by omega) (fun _ _=>rfl) Jw3).as fun l _=>⟨l,trivial,fun g=>⟨g.1,rfl,fun hh r o=>by
  have hp:=(o.of_sl 2 rfl).pure
  have:=o.of_sl 0 rfl
  rwa [Ik3 g.2 l hp] at this⟩⟩
theorem Ji4 {H:Type} {enc:TypeId × Value→H} {W:World} {v0:Value} {d0:DataW H} {p0:List MemPlace} {b0:Nat} (k0:Value.okWide PR W .any b0 Ee3 v0)
  (h0:DataW.Trod enc PR W 0 (fun _=>true) true Ee3 v0 d0 p0) :
  Calls PR D5 #[v0] W fun e W'=>e=.returned (.bool true)∧Below W.heap.size W W':=by
 obtain ⟨x0,hl0,i0⟩:=Ju3.arg (Id8 Gf7 k0) h0
 refine i0.run Jm4 Jm8 fun vs ps J hh r o=>?_
 obtain ⟨⟨a0,c0⟩,e0a,e0b⟩:=J
 subst e0a
 subst e0b
 obtain ⟨v,h',e,rfl,_⟩:=H05 a0 c0 x0 hh r o
 exact ⟨h',e⟩
theorem Je7 (os:Os) (started:os.Started) (H:Type) (enc:TypeId × Value→H) :
  ReturnsInHanded {} Tryz.checked os D5 .any (Rows.procSoundSpec.pre6 enc Tryz.prog Tryz.f5 Rows.procSoundRow.domain false) (Rows.procSoundSpec.post enc Tryz.prog Tryz.f5 false true false false):=by
 refine returnsInHanded_of_change (C:=Tryz.checked) Ju6 started (by kernel_rfl) Tryz.func5
  (ChangeSpec.witness6 (enc:=enc) (C:=Tryz.checked) false ⟨#[],#[.slice none 0 0],[]⟩ 8 (by kernel_rfl) (by kernel_rfl) (by kernel_rfl) (by kernel_rfl)) ?_
 intro W base args ds gs before hval hW hcnd _
 have hW':=hW
 obtain ⟨p,q,hA,hV,rfl,hfz,hnd⟩:=hW
 rw [Tryz.params5] at hA hval
 obtain ⟨v0,d0,rfl,rfl,h0⟩:=trodAll_one hA
 refine (Ji4 (hval 0 _ v0 rfl rfl) h0).mono fun e W' ⟨he,hb⟩=>?_
 subst he
 refine ⟨_,rfl,I35 Jq5 ?_ rfl Jq8 rfl (fun ds gs hl=>?_) hW' hb⟩
 ·rw [Tryz.params5];intro t ht;simp at ht;subst ht;exact ⟨by kernel_rfl,of_decide_eq_true (by kernel_rfl)⟩
 ·replace hl:ds.length=1:=hl
  cases gs with
  | cons _ _=>exact .inr (by simp)
  | nil=>match ds,hl with|[_],_=>exact .inl rfl
theorem Jp5:Tryz.pinned.checked.prog.funcNamed Rows.procSoundRow.func=some D5:=by kernel_rfl
theorem B0 {a b:Bool} (x:(a && b)=true):a=true:=by cases a<;>simp_all
theorem Be4 {a b:Bool} (x:(a && b)=true):b=true:=by cases a<;>simp_all
theorem A46 {a b:Bool} (x:a=true) (y:b=true):(a && b)=true:=by rw [x,y];rfl
theorem Jw2:(Rows.procSoundRow.wf (OpenSpec.ofChange Rows.procSoundSpec) && laidOutB Tryz.pinned.checked.prog && mapsRowed Tryz.pinned.checked.prog && Tryz.f5.params.all (Tryz.pinned.checked.prog.readableRec ·) && namedTie Tryz.pinned.checked.prog Rows.procSoundRow.named Rows.procSoundSpec.vars && (Rows.procSoundRow.stops==[]) && (Tryz.pinned.checked.prog.stops==[]) && (Rows.procSoundRow.knobs==[]) && (Tryz.pinned.checked.prog.stopKnobs==[]))=true:=by kernel_rfl
theorem It3:((Rows.procSoundRow.inPlace==Tryz.pinned.checked.prog.inPlace D5) && (Rows.procSoundRow.unfollowed==Tryz.pinned.checked.prog.unfollowed D5) && (Rows.procSoundRow.recurses==Tryz.pinned.checked.prog.recurses D5) && (Rows.procSoundRow.named==Tryz.pinned.checked.prog.varsNamed D5))=true:=by kernel_rfl
theorem Bm0:((Rows.procSoundRow.maps==(Tryz.f5.params.toList++Rows.procSoundSpec.plain.varTypes Tryz.pinned.checked.prog).any (Tryz.pinned.checked.prog.mapsRec ·)) && (Rows.procSoundRow.ifaces==(Tryz.f5.params.toList++Rows.procSoundSpec.plain.varTypes Tryz.pinned.checked.prog).any (Tryz.pinned.checked.prog.ifacesRec ·)) && (Rows.procSoundRow.mapsOut==Tryz.pinned.checked.prog.mapsAmong Tryz.f5.resultTypes.toList) && (Rows.procSoundRow.loops==(Tryz.f5.params.toList++Rows.procSoundSpec.plain.varTypes Tryz.pinned.checked.prog).any (Tryz.pinned.checked.prog.loopsFrom ·)) && (Rows.procSoundRow.wideKeys==(Tryz.f5.params.toList++Rows.procSoundSpec.plain.varTypes Tryz.pinned.checked.prog++Tryz.f5.resultTypes.toList).any (Tryz.pinned.checked.prog.wideKeysFrom ·)) && Rows.procSoundSpec.vars.all (Tryz.pinned.checked.prog.varReadable ·) && Tryz.f5.resultTypes.all (fun t=>Tryz.pinned.checked.prog.readableRec t && decide (t<Tryz.pinned.checked.prog.types.size)) && (Rows.procSoundRow.ifacesOut==Tryz.f5.resultTypes.toList.any (Tryz.pinned.checked.prog.ifacesRec ·)) && (Rows.procSoundRow.loopsOut==Tryz.f5.resultTypes.toList.any (Tryz.pinned.checked.prog.loopsFrom ·)) && (Rows.procSoundRow.plainKeys==Tryz.pinned.checked.prog.plainKeys) && Rows.procSoundRow.shortTexts.isNone && Tryz.pinned.checked.prog.stopsHeard && Tryz.pinned.checked.prog.mayEnter && (Rows.procSoundRow.lifted==Tryz.pinned.checked.prog.liftsFinal) && (Tryz.pinned.checked.prog.make==some Rows.procSoundRow.make) && (Rows.procSoundRow.kinds==(if Rows.procSoundRow.domain.isEmpty then [] else Tryz.f5.params.toList.map fun t=>match Tryz.pinned.checked.prog.underlying t with|some (.int k)=>some k|_=>none)) && (Rows.procSoundRow.pinned==Rows.procSoundRow.pinnedBy) && (Rows.procSoundRow.veiled==(Tryz.f5.params.toList++Rows.procSoundSpec.plain.varTypes Tryz.pinned.checked.prog++Tryz.f5.resultTypes.toList).any (Tryz.pinned.checked.prog.veiledRec ·)) && Rows.procSoundRow.veiledFits Tryz.pinned.checked.prog Tryz.f5.params.toList (Tryz.f5.params.toList++Rows.procSoundSpec.plain.varTypes Tryz.pinned.checked.prog++Tryz.f5.resultTypes.toList))=true:=by kernel_rfl
theorem Je6:joinedFacts Tryz.pinned.checked.prog D5 Tryz.f5 Rows.procSoundSpec Rows.procSoundRow=true:=by
 unfold joinedFacts
 exact (A46 (A46 (A46 (A46 (A46 (A46 (A46 (A46 (A46 (A46 (A46 (A46 (A46 (A46 (A46 (A46 (A46 (A46 (A46 (A46 (A46 (A46 (A46 Jw2 (B0 (B0 (B0 It3)))) (Be4 (B0 (B0 It3)))) (Be4 (B0 It3))) (Be4 It3)) (B0 (B0 (B0 (B0 (B0 (B0 (B0 (B0 (B0 (B0 (B0 (B0 (B0 (B0 (B0 (B0 (B0 (B0 Bm0))))))))))))))))))) (Be4 (B0 (B0 (B0 (B0 (B0 (B0 (B0 (B0 (B0 (B0 (B0 (B0 (B0 (B0 (B0 (B0 (B0 Bm0))))))))))))))))))) (Be4 (B0 (B0 (B0 (B0 (B0 (B0 (B0 (B0 (B0 (B0 (B0 (B0 (B0 (B0 (B0 (B0 Bm0)))))))))))))))))) (Be4 (B0 (B0 (B0 (B0 (B0 (B0 (B0 (B0 (B0 (B0 (B0 (B0 (B0 (B0 (B0 Bm0))))))))))))))))) (Be4 (B0 (B0 (B0 (B0 (B0 (B0 (B0 (B0 (B0 (B0 (B0 (B0 (B0 (B0 Bm0)))))))))))))))) (Be4 (B0 (B0 (B0 (B0 (B0 (B0 (B0 (B0 (B0 (B0 (B0 (B0 (B0 Bm0))))))))))))))) (Be4 (B0 (B0 (B0 (B0 (B0 (B0 (B0 (B0 (B0 (B0 (B0 (B0 Bm0)))))))))))))) (Be4 (B0 (B0 (B0 (B0 (B0 (B0 (B0 (B0 (B0 (B0 (B0 Bm0))))))))))))) (Be4 (B0 (B0 (B0 (B0 (B0 (B0 (B0 (B0 (B0 (B0 Bm0)))))))))))) (Be4 (B0 (B0 (B0 (B0 (B0 (B0 (B0 (B0 (B0 Bm0))))))))))) (Be4 (B0 (B0 (B0 (B0 (B0 (B0 (B0 (B0 Bm0)))))))))) (Be4 (B0 (B0 (B0 (B0 (B0 (B0 (B0 Bm0))))))))) (Be4 (B0 (B0 (B0 (B0 (B0 (B0 Bm0)))))))) (Be4 (B0 (B0 (B0 (B0 (B0 Bm0))))))) (Be4 (B0 (B0 (B0 (B0 Bm0)))))) (Be4 (B0 (B0 (B0 Bm0))))) (Be4 (B0 (B0 Bm0)))) (Be4 (B0 Bm0))) (Be4 Bm0))
theorem Jo4:Tryz.f5.isInstance Tryz.pinned.checked.prog Rows.procSoundRow.origin Rows.procSoundRow.targs:=of_decide_eq_true (by kernel_rfl)
theorem Jp6:Tryz.f5.isWrapper Tryz.pinned.checked.prog Rows.procSoundRow.wrapper Rows.procSoundRow.mainSum:=by unfold Func.isWrapper;first|(rw [if_pos (by decide +kernel)];kernel_rfl)|(rw [if_neg (by decide +kernel)];exact ⟨rfl,rfl⟩)
theorem ProcSound_holds:Rows.ProcSoundSaid :=
 OpenClaim.holds_of_wide D5 Tryz.f5 rfl rfl rfl rfl rfl rfl rfl ⟨rfl,rfl,rfl,rfl,rfl⟩ rfl rfl rfl rfl rfl Jp5 Tryz.func5 Je6 Jo4 Jp6
  (fun os started H enc _=>Je7 os started H enc)
end Go.EQ
