/- A blocked call ends when a signal that is caught comes, and tells so; one that ends the process ends it with that code; one that is ignored, or kept off, does nothing. -/
import Derived.Test.YtonlefldpebcpaaGreatDoorMb
import Derived.Carry
import Derived.ChangeSlices
import Derived.ChangeSame
import Derived.JoinedOf
import Derived.Handed
import GoSem.ClaimJoined
import Derived.DataElems
set_option linter.all false
namespace Go.NN
def Ai9 (ops:Array Oper):D2→List Evt→D2
 | s,[]=>s
 | s,e::l=>Ai9 ops (Q6 s (E8 ops e.i) e.v) l
theorem G00 (ops:Array Oper):∀ (a b:List Evt) (s:D2),Ai9 ops s (a++b)=Ai9 ops (Ai9 ops s a) b
 | [],b,s=>rfl
 | e::a,b,s=>by simp only [List.cons_append,Ai9];exact G00 ops a b _
def Br0:H→List Evt→H→Prop
 | h,[],h'=>h'=h
 | h,e::l,h'=>e.h=h∧Br0 e.h' l h'
section
variable (P:Program) (call:E0) (ng nt:Nat) (ops:Array Oper) (pl:Plan)
def Go1 (us:List Nat) (pre:List Evt) (c:Nat):Prop:=c ∈ us∨∃ e,e ∈ pre∧e.skip=true∧E8 ops e.i=some c
def Gj6 (s:D2) (us:List Nat) (pre:List Evt) (j:Nat) (want:Bool):Prop :=
 ∀ c,E8 ops j=some c→(∃ b,J6 (Ai9 ops s pre) c=.bool b∧b≠want)∨Go1 ops us pre c
structure SkipF (s:D2) (us:List Nat) (pre:List Evt) (e:Evt) (o:Oper):Prop where
 skip:e.skip=true
 v:e.v=undef
 h:e.h'=e.h
 guard:∃ j want,o.guard=some (j,want)∧Gj6 ops s us pre j want
structure StepF (s:D2) (us:List Nat) (hs:List (Nat × H)) (pre:List Evt) (e:Evt) (o:Oper):Prop where
 skip:e.skip=false
 met:Hm0 ops (Ai9 ops s pre) o.guard
 le:LE ng (Ai9 ops s pre) e.ρ
 op:opK P call e.ρ o e.h pr=some (e.v,e.h')
 ahead:M9 P o.op=.read→∀ j,j ∈ V7 pl.ahead e.i→∃ hE hx,((j,hE) ∈ hs∨∃ e',e' ∈ pre∧e'.skip=false∧e'.i=j∧e'.h=hE)∧opK P call e.ρ o hE pr=some (e.v,hx)
 again:M9 P o.op=.effect→∀ j,j ∈ V7 pl.again e.i→∃ oL d,ops[j]?=some oL∧oL.dst=some d ∧
  ((∃ j' want,oL.guard=some (j',want)∧Gj6 ops s us (pre++[e]) j' want)∨∃ ρ hx,LE ng (Ai9 ops s (pre++[e])) ρ∧opK P call ρ oL e.h' pr=some (J6 (Ai9 ops s (pre++[e])) d,hx))
def EF (s:D2) (us:List Nat) (hs:List (Nat × H)) (pre:List Evt) (e:Evt):Prop :=
 ∃ o,ops[e.i]?=some o∧(∀ t,o.dst=some t→t<nt)∧(SkipF ops s us pre e o∨StepF P call ng ops pl s us hs pre e o)
end
section
variable {P:Program} {call:E0} {ng nt:Nat} {ops:Array Oper} {pl:Plan}
theorem Ha9 {us:List Nat} {d:Option Nat} {c:Nat} (hc:c ∈ Bx9 us d):c ∈ us:=by
 cases d with
 | none=>exact hc
 | some t=>simp only [Bx9,List.mem_filter] at hc;exact hc.1
theorem In3 {us:List Nat} {d:Option Nat} {c:Nat} (hc:c ∈ B52 us d):c ∈ us∨d=some c:=by
 cases d with
 | none=>exact .inl hc
 | some t =>
  simp only [B52,List.mem_cons] at hc;rcases hc with rfl|hc
  ·exact .inr rfl
  ·exact .inl hc
theorem Go1.cons {us us1:List Nat} {pre:List Evt} {e0:Evt} {c:Nat} (hu:∀ c,c ∈ us1→c ∈ us∨(e0.skip=true∧E8 ops e0.i=some c)) (hc:Go1 ops us1 pre c):Go1 ops us (e0::pre) c:=by
 rcases hc with hc|⟨e,he,h1⟩
 ·rcases hu c hc with h1|h1
  ·exact .inl h1
  ·exact .inr ⟨e0,by simp,h1⟩
 ·exact .inr ⟨e,by simp [he],h1⟩
theorem EF.cons {s:D2} {us us1:List Nat} {hs hs1:List (Nat × H)} {pre:List Evt} {e0 e:Evt} (hu:∀ c,c ∈ us1→c ∈ us∨(e0.skip=true∧E8 ops e0.i=some c))
  (hh:∀ j hE,(j,hE) ∈ hs1→(j,hE) ∈ hs∨(e0.skip=false∧e0.i=j∧e0.h=hE)) (he:EF P call ng nt ops pl (Q6 s (E8 ops e0.i) e0.v) us1 hs1 pre e):EF P call ng nt ops pl s us hs (e0::pre) e:=by
 have hun:∀ {pre:List Evt} {j:Nat} {want:Bool},Gj6 ops (Q6 s (E8 ops e0.i) e0.v) us1 pre j want→Gj6 ops s us (e0::pre) j want:=fun hm c hc=>(hm c hc).imp id (Go1.cons hu);obtain ⟨o,ho,hlt,hc⟩:=he;refine ⟨o,ho,hlt,?_⟩;rcases hc with ⟨a,b,c,j,want,hg,hm⟩|⟨a,b,c,d,f,g⟩
 ·exact .inl ⟨a,b,c,j,want,hg,hun hm⟩
 ·refine .inr ⟨a,b,c,d,fun hr j hj=>?_,fun hr j hj=>?_⟩
  ·obtain ⟨hE,hx,h1,h2⟩:=f hr j hj;refine ⟨hE,hx,?_,h2⟩;rcases h1 with h1|⟨e',h3,h4⟩
   ·rcases hh j hE h1 with h5|h5
    ·exact .inl h5
    ·exact .inr ⟨e0,by simp,h5⟩
   ·exact .inr ⟨e',by simp [h3],h4⟩
  ·obtain ⟨oL,dd,h1,h2,h3⟩:=g hr j hj;refine ⟨oL,dd,h1,h2,?_⟩;rcases h3 with ⟨j',want,h4,h5⟩|h3
   ·exact .inl ⟨j',want,h4,hun h5⟩
   ·exact .inr h3
theorem Run.facts {l:List Nat} {s:D2} {us:List Nat} {hs:List (Nat × H)} {h:H} {s':D2} {us':List Nat} {hs':List (Nat × H)} {h':H} {tr:List Evt} (run:Run P call ng nt ops pl l s us hs h s' us' hs' h' tr) :
  l=tr.map (·.i)∧Br0 h tr h'∧s'=Ai9 ops s tr∧∀ pre e post,tr=pre++e::post→EF P call ng nt ops pl s us hs pre e:=by
 induction run with
 | nil s us hs h=>exact ⟨rfl,rfl,rfl,fun pre e post hp=>by simp at hp⟩
 | skip i l o j want s us hs h s' us' hs' h' tr ho hlt hg hm _ ih =>
  have hd:E8 ops i=o.dst:=by unfold E8;rw [ho]
  obtain ⟨h1,h2,h3,h4⟩:=ih;refine ⟨by simp [h1],⟨rfl,h2⟩,by simp only [Ai9,hd];exact h3,fun pre e post hp=>?_⟩
  cases pre with
  | nil =>
   simp only [List.nil_append,List.cons.injEq] at hp;obtain ⟨rfl,rfl⟩:=hp;exact ⟨o,ho,hlt,.inl ⟨rfl,rfl,rfl,j,want,hg,fun c hc=>(hm c hc).imp id .inl⟩⟩
  | cons x pre =>
   simp only [List.cons_append,List.cons.injEq] at hp;obtain ⟨rfl,hp⟩:=hp;have:=h4 pre e post hp;rw [← hd] at this;exact this.cons (fun c hc=>(In3 hc).imp id fun hh=>⟨rfl,hh⟩) (fun _ _ hh=>.inl hh)
 | step i l o ρ v s us hs h h1 s' us' hs' h' tr ho hlt hm hle hop hah hag _ ih =>
  have hd:E8 ops i=o.dst:=by unfold E8;rw [ho]
  obtain ⟨g1,g2,g3,g4⟩:=ih;refine ⟨by simp [g1],⟨rfl,g2⟩,by simp only [Ai9,hd];exact g3,fun pre e post hp=>?_⟩
  cases pre with
  | nil =>
   simp only [List.nil_append,List.cons.injEq] at hp;obtain ⟨rfl,rfl⟩:=hp;refine ⟨o,ho,hlt,.inr ⟨rfl,hm,hle,hop,fun hr j hj=>?_,fun hr j hj=>?_⟩⟩
   ·obtain ⟨hE,hx,a,b⟩:=hah hr j hj;exact ⟨hE,hx,.inl a,b⟩
   ·obtain ⟨⟨oL,d,a,b,c⟩⟩:=hag hr j hj;refine ⟨oL,d,a,b,?_⟩;have he:Ai9 ops s ([]++[⟨i,false,v,ρ,h,h1⟩])=Q6 s o.dst v:=by simp only [List.nil_append,Ai9,hd]
    rcases c with ⟨j',want,hg,hu⟩|c
    ·exact .inl ⟨j',want,hg,fun c hc=>by
      rw [he];exact (hu c hc).imp id fun hcu=>.inl (Ha9 hcu)⟩
    ·rw [he];exact .inr c
  | cons x pre =>
   simp only [List.cons_append,List.cons.injEq] at hp;obtain ⟨rfl,hp⟩:=hp;have:=g4 pre e post hp;rw [← hd] at this;refine this.cons (fun c hc=>.inl (Ha9 hc)) (fun j hE hh=>?_);rcases List.mem_cons.1 hh with hh|hh
   ·cases hh;exact .inr ⟨rfl,rfl,rfl⟩
   ·exact .inl hh
end
end Go.NN

namespace Go.NN
section
variable {P:Program} {call:E0} {μ:Mu} {h:H} {w:World} {a:Act} {ρ:Operand→Value}
theorem Rel.hwf (r:Rel P μ h w):h.Wf:=r.wf
theorem Rel.fresh (r:Rel P μ h w) {b:Nat} (hb:h.next≤b):μ b=none:=by
 cases hm:μ b with
 | none=>rfl
 | some y=>have:=r.dom _ _ hm;omega
theorem Rel.npush (r:Rel P μ h w) {x:Blk} (hx:x≠.dead):Rel P μ (h.push x) w∧Ext μ h w μ (h.push x) w:=by
 have hpu:∀ i,i<h.next→(h.push x).blk i=h.blk i:=fun i hi=>by rw [S7,if_neg (by omega)]
 have hmu:∀ i y,μ i=some y→(h.push x).blk i=h.blk i:=fun i y hi=>hpu i (r.dom _ _ hi);have hd:∀ i,h.blk i=some .dead→(h.push x).blk i=some .dead:=fun i hi=>Sub.push r.hwf x i _ hi;have hvr:∀ {v v'},VR P μ h w v v'→VR P μ (h.push x) w v v':=VR.mono (fun _ _ x=>x) hd (fun _ _ x=>x);have hnx:(h.push x).next=h.next+1:=rfl
 have hwr:∀ i,i<h.next→(h.push x).writable i→h.writable i:=fun i hi hw=>by
  unfold H.writable at hw ⊢;rw [hpu i hi] at hw;exact hw
 refine ⟨⟨fun g hg=>(r.glob g hg).imp id (hd g),?_,?_,r.bound,?_,?_,?_⟩,⟨by omega,fun _ _=>rfl,hd,hwr,?_,?_,fun _ _ _=>rfl,fun _ _ x=>x,Nat.le_refl _,rfl,rfl,rfl⟩⟩
 ·intro b hb;rw [hnx] at hb;rw [S7,if_neg (by omega)];exact r.wf b (by omega)
 ·intro b y hb;rw [hnx];have:=r.dom _ _ hb;omega
 ·intro b g δ e ro c hb hc;rw [hmu b _ hb] at hc;obtain ⟨c',fr,h1,h2,h3,h4⟩:=r.cells b g δ e ro c hb hc;exact ⟨c',fr,h1,h2,fun j v hj=>let ⟨v',p,q⟩:=h3 j v hj;⟨v',p,hvr q⟩,h4⟩
 ·intro b g δ es cl hb hc;rw [hmu b _ hb] at hc;obtain ⟨h1,es',h2,h3,h4⟩:=r.maps b g δ es cl hb hc;exact ⟨h1,es',h2,h3,fun j en hj=>let ⟨e',p,q,s,t⟩:=h4 j en hj;⟨e',p,q,s,hvr t⟩⟩
 ·intro b b' g δ δ' hb hb' hw hl;rw [hmu b' _ hb'] at hl;exact r.inj b b' g δ δ' hb hb' (hwr b (r.dom _ _ hb) hw) hl
 ·intro b y hb hc _;rw [hpu b hb];exact hc
 ·intro b g δ hb hm;exact absurd (r.dom _ _ hm) (Nat.not_lt.2 hb)
def H55 (P:Program) (μ:Mu) (h:H) (w:World) (x:Blk) (o:Obj):Prop :=
 (∀ e ro c,x=.cells e ro c→∃ c' fr,o=.cells c' e fr∧(∀ i,i<c'.size→¬ (fr.1≤i∧i<fr.2))∧c.length≤c'.size∧∀ (i:Nat) (v:Value),c[i]?=some v→∃ v':Value,c'[i]?=some v'∧VR P μ h w v v') ∧
 (∀ es cl,x=.map es cl→es=[]∧o=.map #[] cl)
theorem Ee4 {e:TypeId} {c c':List Value} (hc:VRs P μ h w c c'):H55 P μ h w (.cells e false c) (.cells ⟨c'⟩ e) :=
 ⟨fun e' ro c1 hh=>by
  cases hh
  exact ⟨⟨c'⟩,(0,0),rfl,by simp,by simp [hc.length],fun i v hi=>let ⟨v',p,q⟩:=hc.get hi;⟨v',by simpa using p,q⟩⟩,fun es cl hh=>by cases hh⟩
theorem Rel.late (r:Rel P μ h w) {b:Nat} {x:Blk} {o:Obj} (hx:x≠.dead) (hb:h.blk b=some x) (hm:μ b=none) (ho:H55 P μ h w x o) :
  Rel P (upd μ b (w.heap.size,0)) h (w.alloc o)∧(∀ v u,VR P μ h w v u→VR P (upd μ b (w.heap.size,0)) h (w.alloc o) v u):=by
 have hbn:b<h.next:=by
  rcases Nat.lt_or_ge b h.next with h1|h1
  ·exact h1
  ·rw [r.wf b h1] at hb;cases hb
 have hsh:∀ g s,w.shape? g=some s→(w.alloc o).shape? g=some s:=fun g s hs=>by
  unfold World.shape? at hs ⊢;rw [A74]
  ·exact hs
  ·rcases Nat.lt_or_ge g w.heap.size with h1|h1
   ·exact h1
   ·rw [Array.getElem?_eq_none h1] at hs;cases hs
 have hmm:∀ i y,μ i=some y→upd μ b (w.heap.size,0) i=some y:=fun i y hi=>by
  unfold upd;rw [if_neg]
  ·exact hi
  ·intro hh;subst hh;rw [hm] at hi;cases hi
 have hvr:∀ {v u},VR P μ h w v u→VR P (upd μ b (w.heap.size,0)) h (w.alloc o) v u:=VR.mono hmm (fun _ x=>x) hsh
 have hmu:∀ i y,upd μ b (w.heap.size,0) i=some y→(i=b∧y=(w.heap.size,0))∨(i≠b∧μ i=some y):=fun i y hi=>by
  unfold upd at hi;split at hi
  ·cases hi;exact .inl ⟨‹_›,rfl⟩
  ·exact .inr ⟨‹_›,hi⟩
 refine ⟨⟨fun g hg=>(r.glob g hg).imp (hmm _ _) id,r.wf,?_,?_,?_,?_,?_⟩,fun _ _=>hvr⟩
 ·intro i y hi;rcases hmu i y hi with ⟨rfl,_⟩|⟨_,h1⟩
  ·exact hbn
  ·exact r.dom _ _ h1
 ·intro i g δ hi;rw [World.size_alloc];rcases hmu i _ hi with ⟨_,h1⟩|⟨_,h1⟩
  ·cases h1;omega
  ·have:=r.bound i g δ h1;omega
 ·intro i g δ e ro c hi hc;rcases hmu i _ hi with ⟨rfl,h2⟩|⟨_,h2⟩
  ·cases h2
   rw [hb] at hc;cases hc
   obtain ⟨c',fr,rfl,h0,h3,h4⟩:=ho.1 e ro c rfl;refine ⟨c',fr,.of (by rw [A06,if_pos rfl]),by omega,fun i v hi=>?_,fun _=>h0⟩;obtain ⟨v',h5,h6⟩:=h4 i v hi;exact ⟨v',by simpa using h5,hvr h6⟩
  ·obtain ⟨c',fr,h3,h4,h5,h6⟩:=r.cells i g δ e ro c h2 hc;exact ⟨c',fr,h3.to (A74 (r.bound _ _ _ h2)),h4,fun i v hi=>let ⟨v',p,q⟩:=h5 i v hi;⟨v',p,hvr q⟩,h6⟩
 ·intro i g δ es cl hi hc;rcases hmu i _ hi with ⟨rfl,h2⟩|⟨_,h2⟩
  ·cases h2
   rw [hb] at hc;cases hc
   obtain ⟨rfl,rfl⟩:=ho.2 es cl rfl;exact ⟨rfl,[],by rw [A06,if_pos rfl],rfl,fun i e hi=>by simp at hi⟩
  ·obtain ⟨h3,es',h4,h5,h6⟩:=r.maps i g δ es cl h2 hc;exact ⟨h3,es',by rw [A74 (r.bound _ _ _ h2)];exact h4,h5,fun j en hj=>let ⟨e',p,q,s,t⟩:=h6 j en hj;⟨e',p,q,s,hvr t⟩⟩
 ·intro i i' g δ δ' hi hi' hw hl;rcases hmu i _ hi with ⟨rfl,h2⟩|⟨h1,h2⟩<;>rcases hmu i' _ hi' with ⟨rfl,h4⟩|⟨h3,h4⟩
  ·rfl
  ·cases h2;have:=r.bound _ _ _ h4;omega
  ·cases h4;have:=r.bound _ _ _ h2;omega
  ·exact r.inj i i' g δ δ' h2 h4 hw hl
theorem Ext.late {μ0:Mu} {h0:H} {w0:World} (x:Ext μ0 h0 w0 μ h w) (r:Rel P μ h w) {b:Nat} (hb:h0.next≤b) (hm:μ b=none) (o:Obj):Ext μ0 h0 w0 (upd μ b (w.heap.size,0)) h (w.alloc o) where
 next:=x.next
 mu i hi:=by unfold upd;rw [if_neg (by omega)];exact x.mu i hi
 dead:=x.dead
 writ:=x.writ
 un:=x.un
 fresh i g δ hi hg:=by
  unfold upd at hg;split at hg
  ·cases hg;exact .inl x.size
  ·exact x.fresh i g δ hi hg
 old g hg hn:=by rw [A74 (Nat.lt_of_lt_of_le hg x.size)];exact x.old g hg hn
 shape g s hs:=by
  have:=x.shape g s hs;unfold World.shape? at this ⊢;rw [A74]
  ·exact this
  ·rcases Nat.lt_or_ge g w.heap.size with h1|h1
   ·exact h1
   ·rw [Array.getElem?_eq_none h1] at this;cases this
 size:=by rw [World.size_alloc];have:=x.size;omega
 os:=x.os
 output:=x.output
 tape:=x.tape
theorem Jl2 {μ0:Mu} {h0:H} {w0:World} (x:Ext μ0 h0 w0 μ h w):Ext μ0 h0 w0 μ h w.drew where
 next:=x.next
 mu:=x.mu
 dead:=x.dead
 writ:=x.writ
 un:=x.un
 fresh:=x.fresh
 old:=x.old
 shape:=x.shape
 size:=x.size
 os:=x.os
 output:=x.output
 tape:=x.tape
def Dz5 (src dst:TypeId) (v:Value):Sem Value:=convert src dst v
theorem Born.symm {b b':Nat} {v v':Value} (hb:Born b b' v v'):Born b' b v' v:=by cases hb<;>constructor
theorem Jh7 (r:Rel P μ h w) (hρ:∀ y,VR P μ h w (ρ y) (a.eval y)) {o:Oper} (hc:M9 P o.op=.alloc) {v:Value} {h1:H} (hh:opK P call ρ o h pr=some (v,h1)) :
  ∃ x ob u wd,x≠.dead∧h1=h.push x∧(wd=w∨wd=w.drew)∧H55 P μ h wd x ob∧(execOp a.eval o).run P w=.ok (.value u) (wd.alloc ob) ∧
   ∀ (b:Nat) (μ':Mu) (h':H) (v':Value),μ' b=some (w.heap.size,0)→Born h.next b v v'→VR P μ' h' (wd.alloc ob) v' u:=by
 have ptrB:∀ {b:Nat} {μ':Mu} {h':H} {w':World} {v':Value} {g:Nat},μ' b=some (g,0)→Born h.next b (.pointer (some ⟨h.next,0,none⟩)) v'→VR P μ' h' w' v' (.pointer (some ⟨g,0,none⟩)):=by
  intro b μ' h' w' v' g hm hb
  cases hb
  have:=VR.ptr (P:=P) (μ:=μ') (h:=h') (w:=w') b 0 g 0 hm;simpa using this
 obtain ⟨dst,op,type,pos,after,guard⟩:=o
 cases op<;>simp only [M9] at hc<;>try (cases hc;done)
 case alloc e =>
  simp only [opK] at hh
  split at hh
  ·rename_i zs hz
   obtain ⟨z,h2,h3,h4⟩:=Hq9 hz w;simp only [nw,pr,ptr,Option.some.injEq,Prod.mk.injEq] at hh;obtain ⟨rfl,rfl⟩:=hh;have hzc:z.cells=⟨zs⟩:=by rw [← h3]
   refine ⟨_,_,.pointer (some ⟨w.heap.size,0,none⟩),w,by simp,rfl,.inl rfl,Ee4 (VRs.plain1 h4),?_,fun b μ' h' v' hm hb=>ptrB hm hb⟩;simp [execOp,Instr.alloc,h2,newVar,newRow,hzc]
  ·cases hh
 case box e y =>
  simp only [opK] at hh
  split at hh
  ·obtain ⟨cs,hcs,hh⟩:=Bt9 hh;simp only [nw,pr,ptr,Option.some.injEq,Prod.mk.injEq] at hh;obtain ⟨rfl,rfl⟩:=hh;have hy:=hρ y;rw [hcs] at hy
   cases hy':a.eval y<;>rw [hy'] at hy<;>cases hy
   rename_i us hvs
   refine ⟨_,_,.pointer (some ⟨w.heap.size,0,none⟩),w,by simp,rfl,.inl rfl,Ee4 hvs,?_,fun b μ' h' v' hm hb=>ptrB hm hb⟩;simp [execOp,Instr.box,newVar,newRow,hy',Value.cells]
  ·obtain ⟨hone,hh⟩:=Gq8 hh;simp only [nw,pr,ptr,Option.some.injEq,Prod.mk.injEq] at hh;obtain ⟨rfl,rfl⟩:=hh;have hy:=hρ y
   have hone':(a.eval y).oneCell=true:=by
    have:=VRs.oneCells (.cons _ _ _ _ hy .nil) (by simpa using hone);simpa using this
   refine ⟨_,_,.pointer (some ⟨w.heap.size,0,none⟩),w,by simp,rfl,.inl rfl,Ee4 (.cons _ _ _ _ hy .nil),?_,fun b μ' h' v' hm hb=>ptrB hm hb⟩;simp [execOp,Instr.box,newVar,newRow,Bn5 hone']
  ·cases hh
 case buildSlice t len parts =>
  simp only [opK] at hh;obtain ⟨e,R,U,h2,h3,h4⟩:=Gf3 (w:=w) (PR.map hρ parts.toList) (Gi4 _) (E12 _) hh;simp only [nw,pr,Option.some.injEq,Prod.mk.injEq] at h2;obtain ⟨rfl,rfl⟩:=h2;refine ⟨_,_,.slice (some ⟨w.heap.size,0,none⟩) len len,w,by simp,rfl,.inl rfl,Ee4 h4,by simp [execOp,G77,h3],fun b μ' h' v' hm hb=>?_⟩
  cases hb
  exact .sl _ _ _ _ _ 0 _ hm (Nat.le_refl _) (fun _=>rfl)
 case makeMap t re =>
  simp only [opK] at hh
  split at hh
  ·simp only [nw,pr,Option.some.injEq,Prod.mk.injEq] at hh;obtain ⟨rfl,rfl⟩:=hh;refine ⟨_,.map #[] 0,.map (some w.heap.size),w,by simp,rfl,.inl rfl,⟨fun e ro c hh=>by (cases hh),fun es cl hh=>by (cases hh;exact ⟨rfl,rfl⟩)⟩,by simp [execOp,Instr.makeMap],fun b μ' h' v' hm hb=>?_⟩
   cases hb
   exact .map _ _ hm
  ·cases hh
 case makeSlice t l c =>
  simp only [opK] at hh;have hl:=hρ l;have hc':=hρ c;generalize hul:a.eval l=ul at hl;generalize huc:a.eval c=uc at hc';unfold Dx5 at hh
  split at hh
  ·rename_i e l1 c1' hd hel hec
   rw [hel] at hl;rw [hec] at hc';have hl:=hl.int_inv;have hc':=hc'.int_inv;subst hl;subst hc'
   split at hh
   ·rename_i zs n hz hn
    obtain ⟨z,i,hi,hz1,hz2,hz3⟩:=A69 hz
    split at hh
    ·rename_i hb
     simp only [Bool.and_eq_true] at hb;obtain ⟨⟨hb1,hb2⟩,hb3⟩:=hb;obtain ⟨⟨c1,c2,c3⟩,hh⟩:=Aj6 hh;simp only [nw,pr,Option.some.injEq,Prod.mk.injEq] at hh;obtain ⟨rfl,rfl⟩:=hh
     have hby:i.bytes≤4096:=by
      have:=Nat.le_of_ble_eq_true hb1;simpa [bytesN,hi] using this
     have hsz:i.size=n:=by unfold N1 at hn;rw [hi] at hn;simpa using hn
     have hzl:zs.length=n:=Nat.eq_of_beq_eq_true hb2;have hm:(B3:Int)=2147483648:=rfl
     have hbb:(i.bytes:Int)*c1'≤281474976710656:=by
      have h1:(i.bytes:Int)*c1'≤4096*c1':=Int.mul_le_mul_of_nonneg_right (by omega) (by omega);omega
     have hr:=run_make (P:=P) w t e i z hd hi hz1 .i64 .i64 l1 c1' c1 c2 hbb (by omega)
     have hmc:madeCells z.cells (c1'.toNat*i.size)=⟨G9 c1'.toNat zs⟩:=by
      unfold madeCells;rw [show z.cells=⟨zs⟩ from by rw [← hz2]];exact E54 zs c1'.toNat _ (by rw [hsz,hzl])
     rw [hmc] at hr;refine ⟨_,_,.slice (some ⟨w.heap.size,0,none⟩) l1.toNat c1'.toNat,w,by simp,rfl,.inl rfl,Ee4 (VRs.plain1 (B55 hz3 c1'.toNat)),by simp [execOp,hul,huc,hr],fun b μ' h' v' hm hb=>?_⟩
     cases hb
     exact .sl _ _ _ _ _ 0 _ hm (by omega) (fun _=>rfl)
    ·cases hh
   ·cases hh
  ·cases hh
 case convert src dst x =>
  split at hc<;>try (cases hc;done)
  rename_i h1' h2'
  simp only [opK] at hh;unfold Di7 at h1' h2';have hx:=hρ x;generalize hux:a.eval x=ux at hx;unfold convK at hh
  split at hh
  ·simp_all
  ·simp_all
  ·rename_i e s hs hd hex
   rw [hex] at hx;have hx:=hx.str_inv;subst hx
   split at hh
   ·rename_i he hsz
    obtain ⟨hm,hh⟩:=Aj6 hh;simp only [nw,pr,Q0,Option.some.injEq,Prod.mk.injEq] at hh;obtain ⟨rfl,rfl⟩:=hh;generalize hcap:(Question.appendCap s.size 0 e).cut (w.tape w.drawn (.appendCap s.size 0 e))=cap;have hge:s.size≤cap:=by rw [← hcap];exact Gf8 w _ _ _
    let c:Array Value:=s.data.map (fun b=>.int .u8 b.toNat)++Array.replicate (cap-s.size) (.int .u8 0)
    have hcs:c.size=cap:=by simp only [c,Array.size_append,Array.size_map,Array.size_replicate];have:s.data.size=s.size:=rfl;omega
    refine ⟨_,.cells c e (c.size,c.size+1),.slice (some ⟨w.heap.size,0,none⟩) s.size cap,w.drew,by simp,rfl,.inr rfl,⟨fun e' ro c1 hh=>?_,fun es cl hh=>by (cases hh)⟩,?_,fun b μ' h' v' hmm hb=>?_⟩
    ·cases hh
     refine ⟨c,_,rfl,fun i hi=>by simp only;omega,?_,fun i v hi=>?_⟩
     ·have:(A0 s.data.toList).length=s.size:=by simp [A0]
      omega
     refine ⟨v,?_,?_⟩
     ·simp only [c];rw [Array.getElem?_append_left]
      ·simpa [A0] using hi
      ·have:=(List.getElem?_eq_some_iff.1 hi).1;simpa [A0] using this
     ·simp only [A0,List.getElem?_map,Option.map_eq_some_iff] at hi;obtain ⟨b,_,rfl⟩:=hi;exact .int _ _
    ·have hrun:(Dz5 src dst (.string s)).run P w=.ok (.slice (some ⟨w.heap.size,0,none⟩) s.size cap) (w.drew.alloc (.cells c e (c.size,c.size+1))):=by
      unfold Dz5;simp only [convert,Sem.run_bind,run_underlying hs,run_underlying hd,run_underlying he,Result.andThen_ok,Conv.stringToBytes,run_choose,Question.forced,Bool.false_eq_true,if_false,hcap,newRow,run_newObj,Sem.run_pure];show ((markStringish ⟨w.heap.size,0,none⟩).run P (w.drew.alloc (.cells c e))).andThen _=_
      have hsh:(w.drew.alloc (.cells c e)).shape? w.heap.size=some (e,c.size):=by
       unfold World.shape?;rw [A06];simp
      simp only [markStringish,Sem.run_bind,run_shape,hsh,Result.andThen_ok,run_freeze];have:=Gn9 w.drew c e;rw [show w.drew.heap.size=w.heap.size from rfl] at this;rw [this]
     simp only [execOp,hux];unfold Dz5 at hrun;simp only [Sem.run_bind,hrun,Result.andThen_ok,Sem.run_pure]
    ·cases hb
     refine .slOpen _ _ _ _ _ w.heap.size 0 0 cap cap 1 e hmm ?_ hsz (by omega) hge (Nat.le_refl _) (fun _=>rfl);unfold World.shape?;rw [A06];simp [hcs]
   ·cases hh
  ·simp_all
  ·cases hh
 case call c =>
  obtain ⟨callee,args,ats⟩:=c
  cases callee with
  | value f=>simp at hc
  | invoke _ _=>simp at hc
  | builtin b=>cases b<;>simp only at hc<;>cases hc
end
end Go.NN

namespace Go.NN
structure ST (P:Program) (call:E0) (ng nt:Nat) (ops:Array Oper) (pl:Plan) (s:D2) (h:H) (tr:List Evt) (h':H):Prop where
 chain:Br0 h tr h'
 all:∀ i,i<ops.size→∃ e,e ∈ tr∧e.i=i
 ev:∀ pre e post,tr=pre++e::post→∃ o,ops[e.i]?=some o∧PF P nt ops pl (pre.map (·.i)) e.i o∧(SkipF ops s [] pre e o∨StepF P call ng ops pl s [] [] pre e o)
def E76 (P:Program) (ops:Array Oper) (i:Nat):Cls :=
 match ops[i]? with
 | some o=>M9 P o.op
 | none=>.effect
def Gq9:Cls→Bool
 | .effect=>true
 | _=>false
def isE (P:Program) (ops:Array Oper) (e:Evt):Bool:=!e.skip && Gq9 (E76 P ops e.i)
def ver (P:Program) (ops:Array Oper) (S:Nat→Bool):List Evt→H→H
 | [],h'=>h'
 | e::l,h'=>bif isE P ops e && !S e.i then e.h else ver P ops S l h'
def P1 (P:Program) (ops:Array Oper) (S:Nat→Bool):List Evt→List Evt
 | []=>[]
 | e::l=>bif isE P ops e && !S e.i then [] else e::P1 P ops S l
def ins (i:Nat) (S:Nat→Bool):Nat→Bool:=fun j=>j==i || S j
section
variable {P:Program} {call:E0} {ng nt:Nat} {ops:Array Oper} {pl:Plan} {s:D2} {h h':H} {tr:List Evt}
theorem Bm0 {S:Nat→Bool}:∀ {p l:List Evt},(∀ e,e ∈ p→isE P ops e=true→S e.i=true)→ver P ops S (p++l) h'=ver P ops S l h'∧P1 P ops S (p++l)=p++P1 P ops S l
 | [],l,_=>⟨rfl,rfl⟩
 | e::p,l,hp=>by
  have h1:=Bm0 (p:=p) (l:=l) fun e he=>hp e (by simp [he])
  have h2:(isE P ops e && !S e.i)=false:=by
   cases hh:isE P ops e
   ·rfl
   ·rw [hp e (by simp) hh];rfl
  simp only [List.cons_append,ver,P1,h2,cond_false];exact ⟨h1.1,by rw [h1.2]⟩
theorem Is5 {S:Nat→Bool} {i:Nat}:∀ {l:List Evt},(∀ e,e ∈ l→e.i=i→isE P ops e=false)→ver P ops (ins i S) l h'=ver P ops S l h'∧P1 P ops (ins i S) l=P1 P ops S l
 | [],_=>⟨rfl,rfl⟩
 | e::l,hl=>by
  have h1:=Is5 (S:=S) (i:=i) (l:=l) fun e he=>hl e (by simp [he])
  have h2:(isE P ops e && !ins i S e.i)=(isE P ops e && !S e.i):=by
   by_cases hi:e.i=i
   ·rw [hl e (by simp) hi];rfl
   ·have:ins i S e.i=S e.i:=by simp [ins,hi]
    rw [this]
  simp only [ver,P1,h2];rw [h1.1,h1.2];exact ⟨rfl,rfl⟩
theorem Hu4 (S:Nat→Bool) (h':H):∀ (l:List Evt),(P1 P ops S l=l∧ver P ops S l h'=h'∧∀ e,e ∈ l→isE P ops e=true→S e.i=true) ∨
  ∃ e post,l=P1 P ops S l++e::post∧isE P ops e=true∧S e.i=false∧ver P ops S l h'=e.h∧∀ e,e ∈ P1 P ops S l→isE P ops e=true→S e.i=true
 | []=>.inl ⟨rfl,rfl,by simp⟩
 | e::l=>by
  simp only [ver,P1]
  cases hh:(isE P ops e && !S e.i)
  ·have hs:isE P ops e=true→S e.i=true:=fun h1=>by rw [h1] at hh;simpa using hh
   simp only [cond_false];rcases Hu4 S h' l with ⟨h1,h2,h3⟩|⟨e2,post,h1,h2,h3,h4,h5⟩
   ·refine .inl ⟨by rw [h1],h2,fun e2 he2=>?_⟩;rcases List.mem_cons.1 he2 with rfl|he2
    ·exact hs
    ·exact h3 e2 he2
   ·refine .inr ⟨e2,post,by rw [List.cons_append,← h1],h2,h3,h4,fun e3 he3=>?_⟩;rcases List.mem_cons.1 he3 with rfl|he3
    ·exact hs
    ·exact h5 e3 he3
  ·simp only [Bool.and_eq_true,Bool.not_eq_true'] at hh;exact .inr ⟨e,l,rfl,hh.1,hh.2,rfl,by simp⟩
inductive Pushes:H→H→Prop
 | refl (h:H):Pushes h h
 | head (h:H) (x:Blk) (h2:H):x≠.dead→Pushes (h.push x) h2→Pushes h h2
theorem H.Wf.push {h:H} (hw:h.Wf) (x:Blk):(h.push x).Wf:=fun b hb=>by
 have:(h.push x).next=h.next+1:=rfl;rw [this] at hb;rw [S7,if_neg (by omega)];exact hw b (by omega)
theorem Pushes.sub {h h2:H} (p:Pushes h h2) (hw:h.Wf):Sub h h2∧h2.Wf∧h.next≤h2.next:=by
 induction p with
 | refl h=>exact ⟨.refl h,hw,Nat.le_refl _⟩
 | head h x h2 _ _ ih =>
  obtain ⟨a,b,c⟩:=ih (hw.push x);have:(h.push x).next=h.next+1:=rfl;exact ⟨(Sub.push hw x).trans a,b,by omega⟩
theorem Pushes.rel {μ:Mu} {w:World} {h h2:H} (p:Pushes h h2) (r:Rel P μ h w):Rel P μ h2 w∧Ext μ h w μ h2 w:=by
 induction p with
 | refl h=>exact ⟨r,Ext.refl _ _ _ r.dom⟩
 | head h x h2 hx _ ih =>
  obtain ⟨a,b⟩:=r.npush hx;obtain ⟨c,d⟩:=ih a;exact ⟨c,b.trans d⟩
theorem ST.opAt (st:ST P call ng nt ops pl s h tr h') {e:Evt} (he:e ∈ tr):∃ pre post o,tr=pre++e::post∧ops[e.i]?=some o∧PF P nt ops pl (pre.map (·.i)) e.i o∧(SkipF ops s [] pre e o∨StepF P call ng ops pl s [] [] pre e o):=by
 obtain ⟨pre,post,hp⟩:=List.append_of_mem he;obtain ⟨o,h1,h2,h3⟩:=st.ev pre e post hp;exact ⟨pre,post,o,hp,h1,h2,h3⟩
theorem ST.lt (st:ST P call ng nt ops pl s h tr h') {e:Evt} (he:e ∈ tr):e.i<ops.size:=by
 obtain ⟨_,_,o,_,h1,_⟩:=st.opAt he;exact (Array.getElem?_eq_some_iff.1 h1).1
theorem ST.pre_ne (st:ST P call ng nt ops pl s h tr h') {pre post:List Evt} {e e2:Evt} (hp:tr=pre++e::post) (he:e2 ∈ pre):e2.i≠e.i:=fun hh=>by
 obtain ⟨o,_,h1,_⟩:=st.ev pre e post hp;exact h1.new (by rw [← hh];exact List.mem_map_of_mem he)
theorem ST.post_ne (st:ST P call ng nt ops pl s h tr h') {pre post:List Evt} {e e2:Evt} (hp:tr=pre++e::post) (he:e2 ∈ post):e2.i≠e.i:=fun hh=>by
 obtain ⟨q1,q2,hq⟩:=List.append_of_mem he;exact st.pre_ne (pre:=pre++e::q1) (post:=q2) (e:=e2) (e2:=e) (by rw [hp,hq];simp) (by simp) hh.symm
theorem ST.uniq (st:ST P call ng nt ops pl s h tr h') {e1 e2:Evt} (h1:e1 ∈ tr) (h2:e2 ∈ tr) (hi:e1.i=e2.i):e1=e2:=by
 obtain ⟨p,q,hp⟩:=List.append_of_mem h1;rw [hp] at h2;rcases List.mem_append.1 h2 with h2|h2
 ·exact absurd hi.symm (st.pre_ne hp h2)
 ·rcases List.mem_cons.1 h2 with rfl|h2
  ·rfl
  ·exact absurd hi.symm (st.post_ne hp h2)
theorem Gk0 {i:Nat} {o:Oper} (ho:ops[i]?=some o):E8 ops i=o.dst:=by unfold E8;rw [ho]
theorem Bb4 {i:Nat} {o:Oper} (ho:ops[i]?=some o):E76 P ops i=M9 P o.op:=by unfold E76;rw [ho]
theorem ST.wr (st:ST P call ng nt ops pl s h tr h') {e:Evt} (he:e ∈ tr) {t:Nat} (hd:E8 ops e.i=some t):t<nt∧B93 (B84 0 ops.toList) t=some e.i:=by
 obtain ⟨_,_,o,_,h1,h2,_⟩:=st.opAt he;rw [Gk0 h1] at hd;exact h2.dst t hd
theorem ST.wuniq (st:ST P call ng nt ops pl s h tr h') {e1 e2:Evt} (h1:e1 ∈ tr) (h2:e2 ∈ tr) {t:Nat} (d1:E8 ops e1.i=some t) (d2:E8 ops e2.i=some t):e1=e2:=by
 have a:=(st.wr h1 d1).2;have b:=(st.wr h2 d2).2;rw [a] at b;exact st.uniq h1 h2 (Option.some.inj b)
theorem B87:∀ (p:List Evt) (s:D2) (t:Nat),(∀ e,e ∈ p→E8 ops e.i≠some t)→J6 (Ai9 ops s p) t=J6 s t
 | [],s,t,_=>rfl
 | e::p,s,t,hp=>by
  simp only [Ai9];rw [B87 p _ t fun e he=>hp e (by simp [he]),An3,if_neg (hp e (by simp))]
theorem ST.env_mem (st:ST P call ng nt ops pl s h tr h') {p q:List Evt} (hp:tr=p++q) {e:Evt} (he:e ∈ p) {t:Nat} (hd:E8 ops e.i=some t):J6 (Ai9 ops s p) t=e.v:=by
 obtain ⟨p1,p2,hpp⟩:=List.append_of_mem he;have htr:tr=p1++e::(p2++q):=by rw [hp,hpp];simp
 rw [hpp,G00];simp only [Ai9];rw [B87 p2 _ t fun e2 he2 hd2=>?_,An3,if_pos hd];have hm2:e2 ∈ tr:=by rw [htr];simp [he2]
 have hm1:e ∈ tr:=by rw [htr];simp
 have:=st.wuniq hm2 hm1 hd2 hd;exact st.post_ne htr (e2:=e2) (by simp [he2]) (by rw [this])
theorem ST.heap (st:ST P call ng nt ops pl s h tr h') {e:Evt} (he:e ∈ tr) (hn:isE P ops e=false):e.h'=e.h∨(e.skip=false∧E76 P ops e.i=.alloc∧∃ x,x≠.dead∧e.h'=e.h.push x):=by
 obtain ⟨pre,post,o,_,ho,_,hs|hs⟩:=st.opAt he
 ·exact .inl hs.h
 ·unfold isE at hn;rw [hs.skip,Bb4 ho] at hn;simp only [Bool.not_false,Bool.true_and] at hn
  cases hc:M9 P o.op with
  | pure=>exact .inl (H91 hc hs.op).1
  | read=>exact .inl (Ea8 hc hs.op).1
  | alloc =>
   obtain ⟨x,h1,h2,_⟩:=Gk4 hc hs.op;exact .inr ⟨hs.skip,by rw [Bb4 ho,hc],x,h1,h2⟩
  | effect=>rw [hc] at hn;cases hn
theorem ST.allocH (st:ST P call ng nt ops pl s h tr h') {e:Evt} (he:e ∈ tr) (hs:e.skip=false) (hc:E76 P ops e.i=.alloc):∃ x,x≠.dead∧e.h'=e.h.push x:=by
 have hn:isE P ops e=false:=by unfold isE;rw [hc];simp [Gq9]
 obtain ⟨pre,post,o,_,ho,_,h1|h1⟩:=st.opAt he
 ·rw [h1.skip] at hs;cases hs
 ·rw [Bb4 ho] at hc;obtain ⟨x,h2,h3,_⟩:=Gk4 hc h1.op;exact ⟨x,h2,h3⟩
theorem ST.seg (st:ST P call ng nt ops pl s h tr h') {S:Nat→Bool}:∀ (l:List Evt) (g:H),(∀ e,e ∈ l→e ∈ tr)→Br0 g l h'→(∀ e,e ∈ l→isE P ops e=true→S e.i=false)→g.Wf →
  Pushes g (ver P ops S l h')∧(∀ e,e ∈ P1 P ops S l→e.h.Wf∧e.h'.Wf∧g.next≤e.h.next∧e.h.next≤e.h'.next∧e.h'.next≤(ver P ops S l h').next∧Sub e.h' (ver P ops S l h')) ∧
  (P1 P ops S l).Pairwise (fun e1 e2=>e1.h'.next≤e2.h.next)
 | [],g,_,hc,_,_=>by
  simp only [Br0] at hc;subst hc;exact ⟨.refl _,by simp [P1],by simp [P1]⟩
 | e::l,g,hm,hc,hS,hw=>by
  obtain ⟨rfl,hc⟩:=hc
  cases hh:isE P ops e
  ·have hv:ver P ops S (e::l) h'=ver P ops S l h':=by simp [ver,hh]
   have hp:P1 P ops S (e::l)=e::P1 P ops S l:=by simp [P1,hh]
   rw [hv,hp]
   have step:(Pushes e.h' (ver P ops S l h')→Pushes e.h (ver P ops S l h'))∧e.h'.Wf∧e.h.next≤e.h'.next:=by
    rcases st.heap (hm e (by simp)) hh with h1|⟨_,_,x,h1,h2⟩
    ·rw [h1];exact ⟨id,hw,Nat.le_refl _⟩
    ·rw [h2];have:(e.h.push x).next=e.h.next+1:=rfl;exact ⟨fun p=>.head _ x _ h1 p,hw.push x,by omega⟩
   obtain ⟨a,b,c⟩:=st.seg l e.h' (fun e he=>hm e (by simp [he])) hc (fun e he=>hS e (by simp [he])) step.2.1;have hs:=a.sub step.2.1;refine ⟨step.1 a,fun e2 he2=>?_,List.pairwise_cons.2 ⟨fun e2 he2=>(b e2 he2).2.2.1,c⟩⟩;rcases List.mem_cons.1 he2 with rfl|he2
   ·exact ⟨hw,step.2.1,Nat.le_refl _,step.2.2,hs.2.2,hs.1⟩
   ·obtain ⟨b1,b2,b3,b4,b5,b6⟩:=b e2 he2;exact ⟨b1,b2,by have:=step.2.2;omega,b4,b5,b6⟩
  ·have hf:=hS e (by simp) hh;have hv:ver P ops S (e::l) h'=e.h:=by simp [ver,hh,hf]
   have hp:P1 P ops S (e::l)=[]:=by simp [P1,hh,hf]
   rw [hv,hp];exact ⟨.refl _,by simp,.nil⟩
theorem Br0.split:∀ {p:List Evt} {g:H} {e:Evt} {q:List Evt},Br0 g (p++e::q) h'→Br0 e.h' q h'
 | [],g,e,q,hc=>hc.2
 | x::p,g,e,q,hc=>Br0.split (p:=p) hc.2
theorem Ir9 {α:Type} {R:α→α→Prop}:∀ {l:List α},l.Pairwise R→∀ {a b:α},a ∈ l→b ∈ l→a≠b→R a b∨R b a
 | [],_,a,b,ha,_,_=>by simp at ha
 | x::l,hp,a,b,ha,hb,hn=>by
  obtain ⟨h1,h2⟩:=List.pairwise_cons.1 hp;rcases List.mem_cons.1 ha with ha|ha<;>rcases List.mem_cons.1 hb with hb|hb
  ·exact absurd (ha.trans hb.symm) hn
  ·rw [ha];exact .inl (h1 b hb)
  ·rw [hb];exact .inr (h1 a ha)
  ·exact Ir9 h2 ha hb hn
end
end Go.NN

namespace Go.NN
structure Inv (P:Program) (nt:Nat) (ops:Array Oper) (pl:Plan) (s:D2) (h:H) (tr:List Evt) (h':H) (μ0:Mu) (w0:World) (a0:Act) (S:Nat→Bool) (μ:Mu) (a:Act) (w:World):Prop where
 rel:Rel P μ (ver P ops S tr h') w
 ext:Ext μ0 h w0 μ (ver P ops S tr h') w
 size:a.tmps.size=nt
 done:∀ e,e ∈ tr→S e.i=true→∀ t,E8 ops e.i=some t→VR P μ (ver P ops S tr h') w e.v (a.tmps.getD t Go.undef)
 todo:∀ t,(∀ e,e ∈ tr→S e.i=true→E8 ops e.i≠some t)→VR P μ (ver P ops S tr h') w (J6 s t) (a.tmps.getD t Go.undef)
 skips:∀ e,e ∈ tr→S e.i=true→e.skip=true→∀ t,E8 ops e.i=some t→a.tmps.getD t Go.undef=Go.undef
 closed:∀ i j,i<ops.size→S i=true→inB pl i j=true→S j=true
 pend:∀ e,e ∈ P1 P ops S tr→e.skip=false→E76 P ops e.i=.alloc→S e.i=false→μ e.h.next=none∧(ver P ops S tr h').blk e.h.next=e.h'.blk e.h.next
 wfs:∀ e,e ∈ P1 P ops S tr→e.h.Wf∧e.h'.Wf∧h.next≤e.h.next∧e.h.next≤e.h'.next∧e.h'.next≤(ver P ops S tr h').next
 ord:(P1 P ops S tr).Pairwise (fun e1 e2=>e1.h'.next≤e2.h.next)
 defers:a.defers=a0.defers
section
variable {P:Program} {call:E0} {ng nt:Nat} {ops:Array Oper} {pl:Plan} {s:D2} {h h':H} {tr:List Evt} {μ0:Mu} {w0:World} {a0:Act} {S:Nat→Bool} {μ:Mu} {a:Act} {w:World}
theorem Bk9 {i:Nat} {S:Nat→Bool} {j:Nat}:ins i S j=true↔j=i∨S j=true:=by simp [ins]
theorem El1 {i:Nat} {S:Nat→Bool} {j:Nat}:ins i S j=false↔j≠i∧S j=false:=by simp [ins]
structure Rdy (P:Program) (call:E0) (ng nt:Nat) (ops:Array Oper) (pl:Plan) (s:D2) (tr:List Evt) (S:Nat→Bool) (pre:List Evt) (e:Evt) (post:List Evt) (o:Oper):Prop where
 split:tr=pre++e::post
 op:ops[e.i]?=some o
 pf:PF P nt ops pl (pre.map (·.i)) e.i o
 not:S e.i=false
 direct:∀ ed,ed ∈ o.after.toList→Region.binds .any ed=true→S ed.on=true
section
variable {pre post:List Evt} {e:Evt} {o:Oper}
theorem Rdy.mem (R:Rdy P call ng nt ops pl s tr S pre e post o):e ∈ tr:=by rw [R.split];simp
theorem Rdy.preMem (R:Rdy P call ng nt ops pl s tr S pre e post o) {e2:Evt} (he:e2 ∈ pre):e2 ∈ tr:=by rw [R.split];simp [he]
theorem Rdy.bef (R:Rdy P call ng nt ops pl s tr S pre e post o) (st:ST P call ng nt ops pl s h tr h') (I:Inv P nt ops pl s h tr h' μ0 w0 a0 S μ a w) {j:Nat} (hj:inB pl e.i j=true):S j=true:=by
 obtain ⟨ed,h1,h2,h3⟩:=R.pf.bef j hj;have h4:=R.direct ed h1 h2;rcases h3 with rfl|h3
 ·exact h4
 ·have:=R.pf.direct ed h1 h2;obtain ⟨e2,he2,hi2⟩:=List.mem_map.1 this;exact I.closed ed.on j (by rw [← hi2];exact st.lt (R.preMem he2)) h4 h3
theorem Rdy.slot (R:Rdy P call ng nt ops pl s tr S pre e post o) (st:ST P call ng nt ops pl s h tr h') (I:Inv P nt ops pl s h tr h' μ0 w0 a0 S μ a w) {t:Nat} (ht:t ∈ o.looksAt ops) :
  VR P μ (ver P ops S tr h') w (J6 (Ai9 ops s pre) t) (a.tmps.getD t Go.undef):=by
 by_cases hw:∃ e2,e2 ∈ tr∧E8 ops e2.i=some t
 ·obtain ⟨e2,he2,hd2⟩:=hw;rcases R.pf.slots t ht e2.i (st.wr he2 hd2).2 with ⟨hb,hp⟩|⟨_,hb,hp⟩
  ·obtain ⟨e3,he3,hi3⟩:=List.mem_map.1 hp;have:e3=e2:=st.uniq (R.preMem he3) he2 hi3;subst this;rw [st.env_mem R.split he3 hd2];exact I.done _ he2 (R.bef st I hb) t hd2
  ·have hn:S e2.i=false:=by
    rcases hb with hb|hb
    ·rw [hb];exact R.not
    ·cases hh:S e2.i
     ·rfl
     ·have:=I.closed e2.i e.i (st.lt he2) hh hb;rw [R.not] at this;cases this
   rw [B87 pre s t fun e3 he3 hd3=>hp (by
    have:=st.wuniq (R.preMem he3) he2 hd3 hd2;subst this;exact List.mem_map_of_mem he3)]
   exact I.todo t fun e3 he3 hs3 hd3=>by
    have:=st.wuniq he3 he2 hd3 hd2;subst this;rw [hn] at hs3;cases hs3
 ·rw [B87 pre s t fun e3 he3 hd3=>hw ⟨e3,R.preMem he3,hd3⟩];exact I.todo t fun e3 he3 _ hd3=>hw ⟨e3,he3,hd3⟩
theorem Dt8 {ops:Array Oper} {o:Oper} {j:Nat} {want:Bool} {c:Nat} (hg:o.guard=some (j,want)) (hc:E8 ops j=some c):c ∈ o.looksAt ops:=by
 unfold Oper.looksAt;rw [hg];simp only [List.mem_append,Option.mem_toList]
 right
 unfold E8 at hc
 cases ho:ops[j]? with
 | none=>rw [ho] at hc;cases hc
 | some oj=>rw [ho] at hc;simpa using hc
theorem Hw6 {ops:Array Oper} {o:Oper} {t:Nat} (ht:Operand.tmp t ∈ o.op.operands):t ∈ o.looksAt ops:=by
 unfold Oper.looksAt;exact List.mem_append_left _ (List.mem_filterMap.2 ⟨.tmp t,by simpa using ht,rfl⟩)
theorem Rdy.vals (R:Rdy P call ng nt ops pl s tr S pre e post o) (st:ST P call ng nt ops pl s h tr h') (I:Inv P nt ops pl s h tr h' μ0 w0 a0 S μ a w) (hng:ng≤P.globals.size) {env:D2} {ρ:Operand→Value} (hle:LE ng env ρ)
  (henv:∀ t,t ∈ o.looksAt ops→J6 env t=J6 (Ai9 ops s pre) t):∃ ρ',(∀ y,VR P μ (ver P ops S tr h') w (ρ' y) (a.eval y))∧∀ (g:H),opK P call ρ' o g pr=opK P call ρ o g pr:=by
 classical
 refine ⟨fun y=>if y ∈ o.op.operands then ρ y else undef,fun y=>?_,fun g=>?_⟩
 ·dsimp only
  split
  ·rename_i hy
   rcases hle y with h1|h1
   ·rw [h1]
    cases y with
    | tmp t =>
     simp only [ev,Act.eval];have ht:=Hw6 (ops:=ops) hy;rw [henv t ht];exact R.slot st I ht
    | const v =>
     simp only [ev,Act.eval]
     cases hp:Gm5 v
     ·exact .undef _
     ·exact VR.plain hp
    | global g =>
     simp only [ev,Act.eval]
     cases hb:Nat.blt g ng
     ·exact .undef _
     ·have hlt:g<P.globals.size:=Nat.lt_of_lt_of_le (Nat.le_of_ble_eq_true hb) hng;rcases I.rel.glob g hlt with h1|h1
      ·have:=VR.ptr (P:=P) (μ:=μ) (h:=ver P ops S tr h') (w:=w) g 0 g 0 h1;simpa using this
      ·exact .ptrDead _ _ _ _ h1
    | func f=>exact .fn _ _ _ _ _ .nil .nil
   ·rw [h1];exact .undef _
  ·exact .undef _
 ·exact Jg0 o g pr fun x hx=>by simp [hx]
theorem Rdy.wanted (R:Rdy P call ng nt ops pl s tr S pre e post o) (st:ST P call ng nt ops pl s h tr h') (I:Inv P nt ops pl s h tr h' μ0 w0 a0 S μ a w) (hm:Hm0 ops (Ai9 ops s pre) o.guard):Region.wanted o (yielded ops a.tmps)=true:=by
 unfold Region.wanted
 cases hg:o.guard with
 | none=>rfl
 | some p =>
  obtain ⟨j,want⟩:=p;rw [hg] at hm;obtain ⟨c,hc,hs⟩:=hm;have hv:=R.slot st I (Dt8 hg hc);rw [hs] at hv;have:=Eo4 hv.bool_inv;simp only [Dj9,hc,this,beq_self_eq_true]
theorem Rdy.unwanted (R:Rdy P call ng nt ops pl s tr S pre e post o) (st:ST P call ng nt ops pl s h tr h') (I:Inv P nt ops pl s h tr h' μ0 w0 a0 S μ a w) {j:Nat} {want:Bool} (hg:o.guard=some (j,want)) (hm:Gj6 ops s [] pre j want) :
  Region.wanted o (yielded ops a.tmps)=false:=by
 unfold Region.wanted;rw [hg];simp only [Dj9]
 cases hc:E8 ops j with
 | none=>rfl
 | some c =>
  rcases hm c hc with ⟨b,hs,hne⟩|hcu
  ·have hv:=R.slot st I (Dt8 hg hc);rw [hs] at hv;have:=Eo4 hv.bool_inv;simp only [this];simpa using hne
  ·rcases hcu with hcu|⟨e2,he2,hs2,hd2⟩
   ·simp at hcu
   ·have hS:S e2.i=true:=by
     rcases R.pf.slots c (Dt8 hg hc) e2.i (st.wr (R.preMem he2) hd2).2 with ⟨hb,_⟩|⟨_,_,hp⟩
     ·exact R.bef st I hb
     ·exact absurd (List.mem_map_of_mem he2) hp
    have hh:=I.skips e2 (R.preMem he2) hS hs2 c hd2;rw [Array.getD_eq_getD_getElem?] at hh
    cases hx:a.tmps[c]? with
    | none=>simp only [hx];rfl
    | some v=>rw [hx] at hh;simp at hh;subst hh;simp only [hx];rfl
theorem Rdy.next (R:Rdy P call ng nt ops pl s tr S pre e post o) (st:ST P call ng nt ops pl s h tr h') (I:Inv P nt ops pl s h tr h' μ0 w0 a0 S μ a w) {μ1:Mu} {w1:World} {u:Value}
  (r1:Rel P μ1 (ver P ops (ins e.i S) tr h') w1) (x1:Ext μ0 h w0 μ1 (ver P ops (ins e.i S) tr h') w1) (mono:∀ v u,VR P μ (ver P ops S tr h') w v u→VR P μ1 (ver P ops (ins e.i S) tr h') w1 v u)
  (hv:VR P μ1 (ver P ops (ins e.i S) tr h') w1 e.v u) (hsk:e.skip=true→u=Go.undef)
  (pend:∀ e2,e2 ∈ P1 P ops (ins e.i S) tr→e2.skip=false→E76 P ops e2.i=.alloc→ins e.i S e2.i=false→μ1 e2.h.next=none∧(ver P ops (ins e.i S) tr h').blk e2.h.next=e2.h'.blk e2.h.next)
  (wfs:∀ e2,e2 ∈ P1 P ops (ins e.i S) tr→e2.h.Wf∧e2.h'.Wf∧h.next≤e2.h.next∧e2.h.next≤e2.h'.next∧e2.h'.next≤(ver P ops (ins e.i S) tr h').next)
  (ord:(P1 P ops (ins e.i S) tr).Pairwise (fun e1 e2=>e1.h'.next≤e2.h.next)) :
  Inv P nt ops pl s h tr h' μ0 w0 a0 (ins e.i S) μ1 (a.put o.dst u) w1:=by
 have hlt:∀ t,o.dst=some t→t<a.tmps.size:=fun t ht=>by rw [I.size];exact (R.pf.dst t ht).1
 have hd:E8 ops e.i=o.dst:=Gk0 R.op;refine ⟨r1,x1,by rw [H94];exact I.size,fun e2 he2 hs2 t ht=>?_,fun t hn=>?_,fun e2 he2 hs2 hsk2 t ht=>?_,fun i j hi hs hb=>?_,pend,wfs,ord,(E93 _ _ _).trans I.defers⟩
 ·rw [D97 _ _ _ _ hlt];by_cases hdt:o.dst=some t
  ·have:=st.wuniq he2 R.mem ht (hd.trans hdt);subst this;rw [if_pos hdt];exact hv
  ·rw [if_neg hdt];rcases Bk9.1 hs2 with h1|h1
   ·have:=st.uniq he2 R.mem h1;subst this;exact absurd (hd.symm.trans ht) hdt
   ·exact mono _ _ (I.done e2 he2 h1 t ht)
 ·rw [D97 _ _ _ _ hlt,if_neg]
  ·exact mono _ _ (I.todo t fun e2 he2 hs2=>hn e2 he2 (Bk9.2 (.inr hs2)))
  ·intro hdt;exact hn e R.mem (Bk9.2 (.inl rfl)) (hd.trans hdt)
 ·rw [D97 _ _ _ _ hlt];by_cases hdt:o.dst=some t
  ·have:=st.wuniq he2 R.mem ht (hd.trans hdt);subst this;rw [if_pos hdt];exact hsk hsk2
  ·rw [if_neg hdt];rcases Bk9.1 hs2 with h1|h1
   ·have:=st.uniq he2 R.mem h1;subst this;exact absurd (hd.symm.trans ht) hdt
   ·exact I.skips e2 he2 h1 hsk2 t ht
 ·rcases Bk9.1 hs with rfl|h1
  ·exact Bk9.2 (.inr (R.bef st I hb))
  ·exact Bk9.2 (.inr (I.closed i j hi h1 hb))
theorem Rdy.same (R:Rdy P call ng nt ops pl s tr S pre e post o) (st:ST P call ng nt ops pl s h tr h') (hn:isE P ops e=false):ver P ops (ins e.i S) tr h'=ver P ops S tr h'∧P1 P ops (ins e.i S) tr=P1 P ops S tr :=
 Is5 fun e2 he2 hi=>by rw [st.uniq he2 R.mem hi];exact hn
theorem Rdy.still (R:Rdy P call ng nt ops pl s tr S pre e post o) (st:ST P call ng nt ops pl s h tr h') (I:Inv P nt ops pl s h tr h' μ0 w0 a0 S μ a w) (hn:isE P ops e=false) {μ1:Mu} {w1:World} {u:Value}
  (r1:Rel P μ1 (ver P ops S tr h') w1) (x1:Ext μ (ver P ops S tr h') w μ1 (ver P ops S tr h') w1) (hv:VR P μ1 (ver P ops S tr h') w1 e.v u) (hsk:e.skip=true→u=Go.undef) :
  Inv P nt ops pl s h tr h' μ0 w0 a0 (ins e.i S) μ1 (a.put o.dst u) w1:=by
 obtain ⟨e1,e2⟩:=R.same st hn;refine R.next st I (by rw [e1];exact r1) (by rw [e1];exact I.ext.trans x1) (by rw [e1];exact fun v u hv=>x1.vr I.rel hv) (by rw [e1];exact hv) hsk ?_ (by rw [e1,e2];exact I.wfs) (by rw [e2];exact I.ord);rw [e1,e2];intro e3 he3 hs3 hc3 hi3;obtain ⟨h1,h2⟩:=I.pend e3 he3 hs3 hc3 (El1.1 hi3).2;refine ⟨?_,h2⟩
 obtain ⟨x,hx,hx2⟩:=st.allocH (by
  have:∀ {l:List Evt} {y:Evt},y ∈ P1 P ops S l→y ∈ l:=by
   intro l
   induction l with
   | nil=>intro y hy;simp [P1] at hy
   | cons z l ih =>
    intro y hy;simp only [P1] at hy
    cases hh:(isE P ops z && !S z.i)<;>rw [hh] at hy
    ·rcases List.mem_cons.1 hy with rfl|hy
     ·simp
     ·simp [ih hy]
    ·simp at hy
  exact this he3) hs3 hc3
 have hw:=I.wfs e3 he3;have:e3.h'.next=e3.h.next+1:=by rw [hx2];rfl
 rw [x1.mu _ (by omega)];exact h1
end
end
end Go.NN

namespace Go.NN
section
variable {P:Program} {call:E0} {ng nt:Nat} {ops:Array Oper} {pl:Plan} {s:D2} {h h':H} {tr:List Evt} {μ0:Mu} {w0:World} {a0:Act} {S:Nat→Bool} {μ:Mu} {a:Act} {w:World}
variable {pre post:List Evt} {e:Evt} {o:Oper}
theorem E99 {S:Nat→Bool}:∀ {l:List Evt} {y:Evt},y ∈ P1 P ops S l→y ∈ l
 | [],y,hy=>by simp [P1] at hy
 | z::l,y,hy=>by
  simp only [P1] at hy
  cases hh:(isE P ops z && !S z.i)<;>rw [hh] at hy
  ·rcases List.mem_cons.1 hy with rfl|hy
   ·simp
   ·simp [E99 hy]
  ·simp at hy
theorem Eg3 (st:ST P call ng nt ops pl s h tr h') {e:Evt} (he:e ∈ tr) (hE:isE P ops e=true):∃ pre post o,tr=pre++e::post∧ops[e.i]?=some o∧M9 P o.op=.effect∧PF P nt ops pl (pre.map (·.i)) e.i o∧StepF P call ng ops pl s [] [] pre e o:=by
 obtain ⟨pre,post,o,h1,h2,h3,h4⟩:=st.opAt he;unfold isE at hE;simp only [Bool.and_eq_true,Bool.not_eq_true',Bb4 h2] at hE;refine ⟨pre,post,o,h1,h2,?_,h3,?_⟩
 ·cases hc:M9 P o.op<;>rw [hc] at hE<;>first|rfl|(cases hE.2)
 ·rcases h4 with h4|h4
  ·rw [h4.skip] at hE;cases hE.1
  ·exact h4
theorem ST.splitEq (st:ST P call ng nt ops pl s h tr h') {e:Evt} {p q p2 q2:List Evt} (h1:tr=p++e::q) (h2:tr=p2++e::q2):p=p2∧q=q2:=by
 have key:∀ (p p2 q q2:List Evt),p++e::q=p2++e::q2→(∀ x,x ∈ p→x≠e)→(∀ x,x ∈ p2→x≠e)→p=p2∧q=q2:=by
  intro p
  induction p with
  | nil =>
   intro p2 q q2 hh _ hn
   cases p2 with
   | nil=>simpa using hh
   | cons x p2=>simp only [List.nil_append,List.cons_append,List.cons.injEq] at hh;exact absurd hh.1.symm (hn x (by simp))
  | cons y p ih =>
   intro p2 q q2 hh hn hn2
   cases p2 with
   | nil=>simp only [List.nil_append,List.cons_append,List.cons.injEq] at hh;exact absurd hh.1 (hn y (by simp))
   | cons x p2 =>
    simp only [List.cons_append,List.cons.injEq] at hh;obtain ⟨h3,h4⟩:=ih p2 q q2 hh.2 (fun z hz=>hn z (by simp [hz])) (fun z hz=>hn2 z (by simp [hz]));exact ⟨by rw [hh.1,h3],h4⟩
 refine key p p2 q q2 (h1.symm.trans h2) (fun x hx hh=>?_) (fun x hx hh=>?_)
 ·exact st.pre_ne h1 hx (by rw [hh])
 ·exact st.pre_ne h2 hx (by rw [hh])
theorem Rdy.later (R:Rdy P call ng nt ops pl s tr S pre e post o) (st:ST P call ng nt ops pl s h tr h') (I:Inv P nt ops pl s h tr h' μ0 w0 a0 S μ a w) {e2:Evt} (he:e2 ∈ tr) (hb:inB pl e2.i e.i=true):S e2.i=false:=by
 cases hh:S e2.i
 ·rfl
 ·have:=I.closed e2.i e.i (st.lt he) hh hb;rw [R.not] at this;cases this
theorem Rdy.env (R:Rdy P call ng nt ops pl s tr S pre e post o) (st:ST P call ng nt ops pl s h tr h') (hc:M9 P o.op≠.pure) {p q:List Evt} (hp:tr=p++q) (hsub:∀ x,x ∈ pre→x ∈ p) {t:Nat} (ht:t ∈ o.looksAt ops) :
  J6 (Ai9 ops s p) t=J6 (Ai9 ops s pre) t:=by
 by_cases hw:∃ e2,e2 ∈ tr∧E8 ops e2.i=some t
 ·obtain ⟨e2,he2,hd2⟩:=hw;rcases R.pf.slots t ht e2.i (st.wr he2 hd2).2 with ⟨_,hpm⟩|⟨hcc,_⟩
  ·obtain ⟨e3,he3,hi3⟩:=List.mem_map.1 hpm;have:e3=e2:=st.uniq (R.preMem he3) he2 hi3;subst this;rw [st.env_mem R.split he3 hd2,st.env_mem hp (hsub _ he3) hd2]
  ·exact absurd hcc hc
 ·rw [B87 pre s t fun e3 he3 hd3=>hw ⟨e3,R.preMem he3,hd3⟩,B87 p s t fun e3 he3 hd3=>hw ⟨e3,by rw [hp];simp [he3],hd3⟩]
theorem Rdy.reread (R:Rdy P call ng nt ops pl s tr S pre e post o) (st:ST P call ng nt ops pl s h tr h') (I:Inv P nt ops pl s h tr h' μ0 w0 a0 S μ a w) (F:StepF P call ng ops pl s [] [] pre e o) (hc:M9 P o.op=.read) :
  ∃ env ρ,LE ng env ρ∧(∀ t,t ∈ o.looksAt ops→J6 env t=J6 (Ai9 ops s pre) t)∧opK P call ρ o (ver P ops S tr h') pr=some (e.v,ver P ops S tr h'):=by
 have hnp:M9 P o.op≠.pure:=by rw [hc];simp
 have hne:isE P ops e=false:=by unfold isE;rw [Bb4 R.op,hc];simp [Gq9]
 have walk:∀ (l p:List Evt) (g:H),tr=p++l→(∀ x,x ∈ pre→x ∈ p)→e ∈ p→Br0 g l h'→(∀ x,x ∈ P1 P ops S l→x.h.Wf∧x.h'.Wf) →
   (∃ env ρ,LE ng env ρ∧(∀ t,t ∈ o.looksAt ops→J6 env t=J6 (Ai9 ops s pre) t)∧opK P call ρ o g pr=some (e.v,g)) →
   ∃ env ρ,LE ng env ρ∧(∀ t,t ∈ o.looksAt ops→J6 env t=J6 (Ai9 ops s pre) t)∧opK P call ρ o (ver P ops S l h') pr=some (e.v,ver P ops S l h'):=by
  intro l
  induction l with
  | nil=>intro p g _ _ _ hch _ hs;simp only [Br0] at hch;subst hch;exact hs
  | cons e2 l ih =>
   intro p g hp hsub hep hch hwf hs;obtain ⟨rfl,hch⟩:=hch;have he2:e2 ∈ tr:=by rw [hp];simp
   have hp2:tr=(p++[e2])++l:=by rw [hp];simp
   have hsub2:∀ x,x ∈ pre→x ∈ p++[e2]:=fun x hx=>by simp [hsub x hx]
   cases hE:isE P ops e2
   ·have hv:ver P ops S (e2::l) h'=ver P ops S l h':=by simp [ver,hE]
    have hpv:P1 P ops S (e2::l)=e2::P1 P ops S l:=by simp [P1,hE]
    rw [hv];rw [hpv] at hwf;refine ih (p++[e2]) e2.h' hp2 hsub2 (by simp [hep]) hch (fun x hx=>hwf x (by simp [hx])) ?_;obtain ⟨env,ρ,h1,h2,h3⟩:=hs;refine ⟨env,ρ,h1,h2,?_⟩;rcases st.heap he2 hE with h4|⟨_,_,x,_,h4⟩
    ·rw [h4];exact h3
    ·rw [h4];exact (Ea8 hc h3).2 _ (Sub.push (hwf e2 (by simp)).1 x)
   ·cases hS:S e2.i
    ·have hv:ver P ops S (e2::l) h'=e2.h:=by simp [ver,hE,hS]
     rw [hv];exact hs
    ·have hv:ver P ops S (e2::l) h'=ver P ops S l h':=by simp [ver,hE,hS]
     have hpv:P1 P ops S (e2::l)=e2::P1 P ops S l:=by simp [P1,hE,hS]
     rw [hv];rw [hpv] at hwf;refine ih (p++[e2]) e2.h' hp2 hsub2 (by simp [hep]) hch (fun x hx=>hwf x (by simp [hx])) ?_;obtain ⟨pre2,post2,o2,g1,g2,g3,g4,g5⟩:=Eg3 st he2 hE;obtain ⟨rfl,rfl⟩:=st.splitEq g1 hp;rcases g4.rds g3 e.i o (List.mem_map_of_mem hep) R.op hc with hb|hag
     ·have:=R.later st I he2 hb;rw [hS] at this;cases this
     ·obtain ⟨oL,d,k1,k2,k3⟩:=g5.again g3 e.i hag;rw [R.op] at k1;cases k1
      have hd:E8 ops e.i=some d:=(Gk0 R.op).trans k2;rcases k3 with ⟨j',want,k4,k5⟩|⟨ρ,hx,k4,k5⟩
      ·exfalso;have hm:=F.met;rw [k4] at hm;obtain ⟨c,hcd,hsv⟩:=hm;have hlk:=Dt8 (ops:=ops) k4 hcd;have henv:=R.env st hnp hp2 hsub2 hlk;rcases k5 c hcd with ⟨b,hb1,hb2⟩|hsk
       ·rw [henv,hsv] at hb1
        cases hb1
        exact hb2 rfl
       ·rcases hsk with hsk|⟨e3,he3,hs3,hd3⟩
        ·simp at hsk
        ·have:=st.env_mem hp2 he3 hd3;rw [henv,hsv] at this;obtain ⟨_,_,o3,_,_,_,f3|f3⟩:=st.opAt (e:=e3) (by rw [hp2];exact List.mem_append_left _ he3)
         ·rw [f3.v] at this;cases this
         ·rw [f3.skip] at hs3;cases hs3
      ·have hval:=st.env_mem hp2 (e:=e) (by simp [hep]) hd;rw [hval] at k5;have:=(Ea8 hc k5).1;subst this;exact ⟨_,ρ,k4,fun t ht=>R.env st hnp hp2 hsub2 ht,k5⟩
 have hst:∃ env ρ,LE ng env ρ∧(∀ t,t ∈ o.looksAt ops→J6 env t=J6 (Ai9 ops s pre) t)∧opK P call ρ o e.h' pr=some (e.v,e.h'):=by
  have h1:=(Ea8 hc F.op).1;refine ⟨_,e.ρ,F.le,fun t ht=>rfl,?_⟩;have:=F.op;rw [h1] at this;rw [h1];exact this
 rcases Hu4 (P:=P) (ops:=ops) S h' pre with ⟨h1,h2,h3⟩|⟨e2,post2,h1,h2,h3,h4,h5⟩
 ·have hsk:=Bm0 (h':=h') (l:=e::post) h3
  have hv:ver P ops S tr h'=ver P ops S post h':=by
   rw [R.split,hsk.1];simp [ver,hne]
  have hpv:P1 P ops S tr=pre++e::P1 P ops S post:=by
   rw [R.split,hsk.2];simp [P1,hne]
  rw [hv];refine walk post (pre++[e]) e.h' (by rw [R.split];simp) (fun x hx=>by simp [hx]) (by simp) ?_ (fun x hx=>?_) hst
  ·have:=st.chain;rw [R.split] at this;exact Br0.split this
  ·have:=I.wfs x (by rw [hpv];simp [hx]);exact ⟨this.1,this.2.1⟩
 ·have hv:ver P ops S tr h'=e2.h:=by
   rw [R.split,h1,List.append_assoc];rw [(Bm0 (h':=h') (l:=(e2::post2)++e::post) h5).1];simp [ver,h2,h3]
  rw [hv];have hm2:e2 ∈ pre:=by rw [h1];simp
  obtain ⟨pre2,q2,o2,g1,g2,g3,g4,g5⟩:=Eg3 st (R.preMem hm2) h2;rcases R.pf.effs hnp e2.i o2 (List.mem_map_of_mem hm2) g2 g3 with hb|⟨_,hah⟩
  ·have:=R.bef st I hb;rw [h3] at this;cases this
  ·obtain ⟨hE,hx,k1,k2⟩:=F.ahead hc e2.i hah;rcases k1 with k1|⟨e3,k3,_,k4,k5⟩
   ·simp at k1
   ·have:e3=e2:=st.uniq (R.preMem k3) (R.preMem hm2) k4;subst this;subst k5;have:=(Ea8 hc k2).1;subst this;exact ⟨_,e.ρ,F.le,fun t ht=>rfl,k2⟩
end
end Go.NN

namespace Go.NN
section
variable {P:Program} {call:E0} {ng nt:Nat} {ops:Array Oper} {pl:Plan} {s:D2} {h h':H} {tr:List Evt} {μ0:Mu} {w0:World} {a0:Act} {S:Nat→Bool} {μ:Mu} {a:Act} {w:World}
variable {pre post:List Evt} {e:Evt} {o:Oper} {Q:Exit→Act→World→Prop}
theorem Jj6 {g:H} {x y:Blk} (hh:g.push x=g.push y):x=y:=by
 have h1:(g.push x).blk g.next=(g.push y).blk g.next:=by rw [hh]
 rw [S7,S7,if_pos rfl,if_pos rfl] at h1;exact Option.some.inj h1
theorem Rdy.stepA (R:Rdy P call ng nt ops pl s tr S pre e post o) (st:ST P call ng nt ops pl s h tr h') (I:Inv P nt ops pl s h tr h' μ0 w0 a0 S μ a w) (hng:ng≤P.globals.size) (F:StepF P call ng ops pl s [] [] pre e o) (hc:M9 P o.op=.alloc)
  {K:Act→World→Prop} (hK:∀ μ' a' w',Inv P nt ops pl s h tr h' μ0 w0 a0 (ins e.i S) μ' a' w'→K a' w'):o.wp P a w K Q:=by
 have hnp:M9 P o.op≠.pure:=by rw [hc];simp
 have hne:isE P ops e=false:=by unfold isE;rw [Bb4 R.op,hc];simp [Gq9]
 have hpre:∀ x,x ∈ pre→isE P ops x=true→S x.i=true:=fun x hx hE=>by
  obtain ⟨_,_,o2,_,g2,g3,_,_⟩:=Eg3 st (R.preMem hx) hE;rcases R.pf.effs hnp x.i o2 (List.mem_map_of_mem hx) g2 g3 with hb|⟨hr,_⟩
  ·exact R.bef st I hb
  ·rw [hc] at hr;cases hr
 have hmem:e ∈ P1 P ops S tr:=by
  rw [R.split,(Bm0 (h':=h') (l:=e::post) hpre).2];simp [P1,hne]
 obtain ⟨hm,hb⟩:=I.pend e hmem F.skip (by rw [Bb4 R.op,hc]) R.not;obtain ⟨x,hx,hpush,hall⟩:=Gk4 hc F.op;rw [hpush,S7,if_pos rfl] at hb;obtain ⟨v',h1,h2⟩:=hall (ver P ops S tr h');obtain ⟨ρ',hρ',hop⟩:=R.vals st I hng F.le (fun t ht=>rfl);rw [← hop] at h1;obtain ⟨x2,ob,u,wd,h3,h4,h5,h6,h7,h8⟩:=Jh7 I.rel hρ' hc h1;have:=Jj6 h4;subst this;have rd:Rel P μ (ver P ops S tr h') wd:=by rcases h5 with rfl|rfl;exact I.rel;exact I.rel.drew
 have xd:Ext μ0 h w0 μ (ver P ops S tr h') wd:=by rcases h5 with rfl|rfl;exact I.ext;exact Jl2 I.ext
 have hsz:wd.heap.size=w.heap.size:=by rcases h5 with rfl|rfl<;>rfl
 have hvd:∀ v u,VR P μ (ver P ops S tr h') w v u→VR P μ (ver P ops S tr h') wd v u:=by rcases h5 with rfl|rfl;exact fun _ _ h=>h;exact fun _ _ h=>h.drew
 obtain ⟨l1,l2⟩:=rd.late hx hb hm h6;have hwf:=I.wfs e hmem;have l3:=xd.late rd (b:=e.h.next) hwf.2.2.1 hm ob;obtain ⟨e1,e2⟩:=R.same st hne;unfold Oper.wp;rw [h7];show K (a.put o.dst u) (wd.alloc ob);refine hK _ _ _ (R.next st I (μ1:=upd μ e.h.next (wd.heap.size,0)) (by rw [e1];exact l1) (by rw [e1];exact l3) (by rw [e1];exact fun v u hv=>l2 v u (hvd v u hv)) ?_ (fun hs=>by rw [F.skip] at hs;cases hs) ?_ (by rw [e1,e2];exact I.wfs) (by rw [e2];exact I.ord))
 ·rw [e1];exact h8 e.h.next _ _ e.v (by rw [hsz];simp [upd]) h2.symm
 ·rw [e1,e2];intro e3 he3 hs3 hc3 hi3;obtain ⟨hne3,hS3⟩:=El1.1 hi3;obtain ⟨k1,k2⟩:=I.pend e3 he3 hs3 hc3 hS3;refine ⟨?_,k2⟩;obtain ⟨y,_,hy⟩:=st.allocH (E99 he3) hs3 hc3;have n1:e3.h'.next=e3.h.next+1:=by rw [hy];rfl
  have n2:e.h'.next=e.h.next+1:=by rw [hpush];rfl
  have hdiff:e3.h.next≠e.h.next:=by
   rcases Ir9 I.ord he3 hmem (fun hh=>hne3 (by rw [hh])) with h9|h9<;>omega
  unfold upd;rw [if_neg hdiff];exact k1
theorem Rdy.stepE (R:Rdy P call ng nt ops pl s tr S pre e post o) (st:ST P call ng nt ops pl s h tr h') (I:Inv P nt ops pl s h tr h' μ0 w0 a0 S μ a w) (hcall:Dj1 P call) (hng:ng≤P.globals.size) (F:StepF P call ng ops pl s [] [] pre e o) (hc:M9 P o.op=.effect)
  {K:Act→World→Prop} (hK:∀ μ' a' w',Inv P nt ops pl s h tr h' μ0 w0 a0 (ins e.i S) μ' a' w'→K a' w'):o.wp P a w K Q:=by
 have hnp:M9 P o.op≠.pure:=by rw [hc];simp
 have hE:isE P ops e=true:=by unfold isE;rw [Bb4 R.op,hc,F.skip];rfl
 have hpre:∀ x,x ∈ pre→isE P ops x=true→S x.i=true:=fun x hx hE=>by
  obtain ⟨_,_,o2,_,g2,g3,_,_⟩:=Eg3 st (R.preMem hx) hE;rcases R.pf.effs hnp x.i o2 (List.mem_map_of_mem hx) g2 g3 with hb|⟨hr,_⟩
  ·exact R.bef st I hb
  ·rw [hc] at hr;cases hr
 have hpost:∀ x,x ∈ post→isE P ops x=true→ins e.i S x.i=false:=fun x hx hEx=>by
  have hxm:x ∈ tr:=by rw [R.split];simp [hx]
  obtain ⟨p2,q2,o2,g1,g2,g3,g4,_⟩:=Eg3 st hxm hEx
  have hep:e ∈ p2:=by
   obtain ⟨q1,q3,hq⟩:=List.append_of_mem hx;have:tr=(pre++e::q1)++x::q3:=by rw [R.split,hq];simp
   obtain ⟨rfl,_⟩:=st.splitEq g1 this;simp
  rw [El1];refine ⟨st.post_ne R.split hx,?_⟩;rcases g4.effs (by rw [g3];simp) e.i o (List.mem_map_of_mem hep) R.op hc with hb|⟨hr,_⟩
  ·exact R.later st I hxm hb
  ·rw [g3] at hr;cases hr
 have v0:ver P ops S tr h'=e.h:=by
  rw [R.split,(Bm0 (h':=h') (l:=e::post) hpre).1];simp [ver,hE,R.not]
 have p0:P1 P ops S tr=pre:=by
  rw [R.split,(Bm0 (h':=h') (l:=e::post) hpre).2];simp [P1,hE,R.not]
 have hpre2:∀ x,x ∈ pre→isE P ops x=true→ins e.i S x.i=true:=fun x hx hEx=>Bk9.2 (.inr (hpre x hx hEx));have hi:ins e.i S e.i=true:=Bk9.2 (.inl rfl)
 have v1:ver P ops (ins e.i S) tr h'=ver P ops (ins e.i S) post h':=by
  rw [R.split,(Bm0 (h':=h') (l:=e::post) hpre2).1];simp [ver,hi]
 have p1:P1 P ops (ins e.i S) tr=pre++e::P1 P ops (ins e.i S) post:=by
  rw [R.split,(Bm0 (h':=h') (l:=e::post) hpre2).2];simp [P1,hi]
 have hpm:∀ x,x ∈ post→x ∈ tr:=fun x hx=>by rw [R.split];simp [hx]
 obtain ⟨ρ',hρ',hop⟩:=R.vals st I hng F.le (fun t ht=>rfl);rw [v0] at hρ';have hF:=F.op;rw [← hop] at hF;have hrel:=I.rel;have hext:=I.ext;have hwfs:=I.wfs;have hpend:=I.pend;have hord:=I.ord;rw [v0] at hrel hext;rw [p0,v0] at hwfs hpend;rw [p0] at hord;obtain ⟨v,h1,e1,e2⟩:=Ge7 hcall hrel hρ' hF;simp only [pr,Option.some.injEq,Prod.mk.injEq] at e1;obtain ⟨rfl,rfl⟩:=e1;refine e2.wp fun u w1 hgood=>?_;obtain ⟨μ1,x1,r1,hv⟩:=hgood
 have hch:Br0 e.h' post h':=by
  have:=st.chain;rw [R.split] at this;exact Br0.split this
 obtain ⟨s1,s2,s3⟩:=st.seg (S:=ins e.i S) post e.h' hpm hch hpost r1.hwf;obtain ⟨q1,q2⟩:=s1.rel r1;have ssub:=s1.sub r1.hwf;have xx:=x1.trans q2;refine hK _ _ _ (R.next st I (μ1:=μ1) (w1:=w1) (u:=u) (by rw [v1];exact q1) (by rw [v1];exact hext.trans xx) (by rw [v0,v1];exact fun v u hv=>xx.vr hrel hv) (by rw [v1];exact q2.vr r1 hv) (fun hs=>by rw [F.skip] at hs;cases hs) ?_ ?_ ?_)
 ·rw [p1,v1];intro e3 he3 hs3 hc3 hi3;obtain ⟨hne3,hS3⟩:=El1.1 hi3
  obtain ⟨y,_,hy⟩:=st.allocH (e:=e3) (by
   rcases List.mem_append.1 he3 with he3|he3
   ·exact R.preMem he3
   ·rcases List.mem_cons.1 he3 with rfl|he3
    ·exact R.mem
    ·exact hpm _ (E99 he3)) hs3 hc3
  have n1:e3.h'.next=e3.h.next+1:=by rw [hy];rfl
  have hb3:e3.h'.blk e3.h.next=some y:=by rw [hy,S7,if_pos rfl]
  rcases List.mem_append.1 he3 with he3|he3
  ·obtain ⟨k1,k2⟩:=hpend e3 he3 hs3 hc3 hS3;have hw:=hwfs e3 he3;rw [hb3] at k2 ⊢;refine ⟨by rw [x1.mu _ (by omega)];exact k1,?_⟩;exact ssub.1 _ _ (x1.un _ _ (by omega) k2 k1)
  ·rcases List.mem_cons.1 he3 with rfl|he3
   ·exact absurd rfl hne3
   ·obtain ⟨_,_,m1,m2,m3,m4⟩:=s2 e3 he3;refine ⟨r1.fresh (by omega),?_⟩;rw [hb3];exact m4 _ _ hb3
 ·rw [p1,v1];intro e3 he3;rcases List.mem_append.1 he3 with he3|he3
  ·obtain ⟨m1,m2,m3,m4,m5⟩:=hwfs e3 he3;have:=x1.next;exact ⟨m1,m2,m3,m4,by omega⟩
  ·rcases List.mem_cons.1 he3 with rfl|he3
   ·exact ⟨hrel.hwf,r1.hwf,hext.next,x1.next,ssub.2.2⟩
   ·obtain ⟨m1,m2,m3,m4,m5,_⟩:=s2 e3 he3;have n1:=hext.next;have n2:=x1.next;exact ⟨m1,m2,by omega,m4,m5⟩
 ·rw [p1];refine List.pairwise_append.2 ⟨hord,List.pairwise_cons.2 ⟨fun e3 he3=>(s2 e3 he3).2.2.1,s3⟩,fun e3 he3 e4 he4=>?_⟩;have m5:=(hwfs e3 he3).2.2.2.2;rcases List.mem_cons.1 he4 with rfl|he4
  ·exact m5
  ·have:=(s2 e4 he4).2.2.1;have:=x1.next;omega
theorem Rdy.step (R:Rdy P call ng nt ops pl s tr S pre e post o) (st:ST P call ng nt ops pl s h tr h') (I:Inv P nt ops pl s h tr h' μ0 w0 a0 S μ a w) (hcall:Dj1 P call) (hng:ng≤P.globals.size)
  {K:Act→World→Prop} (hK:∀ μ' a' w',Inv P nt ops pl s h tr h' μ0 w0 a0 (ins e.i S) μ' a' w'→K a' w'):wpOp P ops Q e.i K a w:=by
 unfold wpOp;simp only [R.op];obtain ⟨o2,g1,g2,g3⟩:=st.ev pre e post R.split;rw [R.op] at g1;cases g1
 have still:isE P ops e=false→∀ {env:D2} {ρ:Operand→Value},LE ng env ρ→(∀ t,t ∈ o.looksAt ops→J6 env t=J6 (Ai9 ops s pre) t)→opK P call ρ o (ver P ops S tr h') pr=some (e.v,ver P ops S tr h')→e.skip=false→o.wp P a w K Q:=by
  intro hne env ρ hle henv hop hsk;obtain ⟨ρ',hρ',hop'⟩:=R.vals st I hng hle henv;rw [← hop'] at hop;obtain ⟨v,h1,e1,e2⟩:=Ge7 hcall I.rel hρ' hop;simp only [pr,Option.some.injEq,Prod.mk.injEq] at e1;obtain ⟨rfl,rfl⟩:=e1;refine e2.wp fun u w1 hgood=>?_;obtain ⟨μ1,x1,r1,hv⟩:=hgood;exact hK _ _ _ (R.still st I hne r1 x1 hv (fun hs=>by rw [hsk] at hs;cases hs))
 rcases g3 with F|F
 ·obtain ⟨j,want,hg,hm⟩:=F.guard;rw [R.unwanted st I hg hm];simp only [Bool.false_eq_true,if_false];have hne:isE P ops e=false:=by unfold isE;rw [F.skip];rfl
  exact hK _ _ _ (R.still st I hne I.rel (Ext.refl _ _ _ I.rel.dom) (by rw [F.v];exact .undef _) (fun _=>rfl))
 ·rw [R.wanted st I F.met];simp only [if_true]
  left
  cases hc:M9 P o.op with
  | pure =>
   have hne:isE P ops e=false:=by unfold isE;rw [Bb4 R.op,hc];simp [Gq9]
   exact still hne F.le (fun t ht=>rfl) ((H91 hc F.op).2 _) F.skip
  | read =>
   have hne:isE P ops e=false:=by unfold isE;rw [Bb4 R.op,hc];simp [Gq9]
   obtain ⟨env,ρ,k1,k2,k3⟩:=R.reread st I F hc;exact still hne k1 k2 k3 F.skip
  | alloc=>exact R.stepA st I hng F hc hK
  | effect=>exact R.stepE st I hcall hng F hc hK
end
end Go.NN

namespace Go.NN
section
variable {P:Program} {call:E0} {ng nt:Nat} {ops:Array Oper} {pl:Plan} {s:D2} {h h':H} {tr:List Evt} {μ0:Mu} {w0:World} {a0:Act}
theorem ST.of (hok:H24 P nt ops pl=true) {s':D2} {us':List Nat} {hs':List (Nat × H)} (run:Run P call ng nt ops pl pl.order s [] [] h s' us' hs' h' tr):ST P call ng nt ops pl s h tr h'∧s'=Ai9 ops s tr:=by
 obtain ⟨h1,h2,h3,h4⟩:=run.facts;obtain ⟨k1,k2⟩:=Im7 pl.order [] 0 0 0 hok (fun j=>by simp) (fun j oj hj=>by simp at hj) (fun j oj hj=>by simp at hj);refine ⟨⟨h2,fun i hi=>?_,fun pre e post hp=>?_⟩,h3⟩
 ·have:=k1 i hi;rw [List.nil_append,h1] at this;obtain ⟨e,he,hei⟩:=List.mem_map.1 this;exact ⟨e,he,hei⟩
 ·obtain ⟨o,ho,_,hc⟩:=h4 pre e post hp;obtain ⟨o2,ho2,hpf⟩:=k2 (pre.map (·.i)) e.i (post.map (·.i)) (by rw [h1,hp];simp);rw [ho] at ho2;cases ho2
  exact ⟨o,ho,by simpa using hpf,hc⟩
def left (n:Nat) (listed:Array Bool):Nat:=(List.range n).countP fun i=>!listed.getD i true
theorem Ht2 {α:Type} {p q:α→Bool}:∀ {l:List α} {x:α},x ∈ l→p x=true→q x=false→(∀ y,q y=true→p y=true)→l.countP q<l.countP p
 | [],x,hx,_,_,_=>by simp at hx
 | y::l,x,hx,hp,hq,hm=>by
  have hle:l.countP q≤l.countP p:=List.countP_mono_left fun z _ hz=>hm z hz;rcases List.mem_cons.1 hx with rfl|hx
  ·rw [List.countP_cons,List.countP_cons,hp,hq];simp;omega
  ·have:=Ht2 hx hp hq hm;rw [List.countP_cons,List.countP_cons]
   cases hqy:q y
   ·simp;omega
   ·rw [hm y hqy];simp;omega
theorem He8 {S:Nat→Bool}:∀ (l:List Evt),(∃ e,e ∈ l∧S e.i=false)→∃ pre e post,l=pre++e::post∧S e.i=false∧∀ x,x ∈ pre→S x.i=true
 | [],hx=>by obtain ⟨e,he,_⟩:=hx;simp at he
 | y::l,hx=>by
  cases hy:S y.i
  ·exact ⟨[],y,l,rfl,hy,by simp⟩
  ·obtain ⟨pre,e,post,h1,h2,h3⟩:=He8 l (by
    obtain ⟨e,he,hs⟩:=hx;rcases List.mem_cons.1 he with rfl|he
    ·rw [hy] at hs;cases hs
    ·exact ⟨e,he,hs⟩)
   refine ⟨y::pre,e,post,by rw [h1];rfl,h2,fun x hx=>?_⟩;rcases List.mem_cons.1 hx with rfl|hx
   ·exact hy
   ·exact h3 x hx
theorem E05 {listed:Array Bool} {i:Nat} (hi:i<listed.size):(fun j=>(listed.setIfInBounds i true).getD j true)=ins i (fun j=>listed.getD j true):=by
 funext j
 unfold ins;by_cases hij:j=i
 ·subst hij;simp [Array.getD_eq_getD_getElem?,hi]
 ·simp only [Array.getD_eq_getD_getElem?,Array.getElem?_setIfInBounds,beq_iff_eq,hij,Ne.symm hij,if_false];have:(j==i)=false:=by simpa using hij
  rw [this];simp
theorem Hp5 {listed:Array Bool} {j:Nat} (hj:j<listed.size):listed.getD j false=listed.getD j true:=by
 simp [Array.getD_eq_getD_getElem?,hj]
theorem Jj8 (st:ST P call ng nt ops pl s h tr h') (hcall:Dj1 P call) (hng:ng≤P.globals.size) {Q:Exit→Act→World→Prop}
  (hq:∀ μ' a' w',Ext μ0 h w0 μ' h' w'→Rel P μ' h' w'→SR P μ' h' w' nt (Ai9 ops s tr) a'→a'.defers=a0.defers→Q .normal a' w') :
  ∀ (fuel:Nat) (listed:Array Bool) (μ:Mu) (a:Act) (w:World),listed.size=ops.size→left ops.size listed≤fuel→Inv P nt ops pl s h tr h' μ0 w0 a0 (fun i=>listed.getD i true) μ a w→wpAny P .any ops Q fuel listed a w:=by
 have fin:∀ (listed:Array Bool) (μ:Mu) (a:Act) (w:World),listed.size=ops.size→Inv P nt ops pl s h tr h' μ0 w0 a0 (fun i=>listed.getD i true) μ a w→Region.ready .any ops listed=[]→Q .normal a w:=by
  intro listed μ a w hsz I hr
  have hall:∀ e,e ∈ tr→listed.getD e.i true=true:=by
   intro e he
   cases hh:listed.getD e.i true
   ·exfalso;obtain ⟨pre,e2,post,g1,g2,g3⟩:=He8 (S:=fun i=>listed.getD i true) tr ⟨e,he,hh⟩;obtain ⟨o,ho,hpf,_⟩:=st.ev pre e2 post g1
    have:e2.i ∈ Region.ready .any ops listed:=by
     rw [mem_ready];refine ⟨g2,o,ho,fun ed hed hb=>?_⟩;obtain ⟨e3,he3,hi3⟩:=List.mem_map.1 (hpf.direct ed (by simpa using hed) hb);have h3:=g3 e3 he3;have hlt:e3.i<ops.size:=st.lt (by rw [g1];simp [he3]);rw [← hi3,Hp5 (by omega)];exact h3
    rw [hr] at this;simp at this
   ·rfl
  have hv:ver P ops (fun i=>listed.getD i true) tr h'=h':=by
   have:=(Bm0 (P:=P) (ops:=ops) (S:=fun i=>listed.getD i true) (h':=h') (p:=tr) (l:=[]) fun e he _=>hall e he).1;rw [List.append_nil] at this;rw [this];rfl
  have hrel:=I.rel;have hext:=I.ext;have hdone:=I.done;have htodo:=I.todo;rw [hv] at hrel hext hdone htodo;refine hq μ a w hext hrel ⟨I.size,fun t=>?_⟩ I.defers;by_cases hw:∃ e,e ∈ tr∧E8 ops e.i=some t
  ·obtain ⟨e,he,hd⟩:=hw;rw [st.env_mem (p:=tr) (q:=[]) (by simp) he hd];exact hdone e he (hall e he) t hd
  ·rw [B87 tr s t fun e he hd=>hw ⟨e,he,hd⟩];exact htodo t fun e he _ hd=>hw ⟨e,he,hd⟩
 intro fuel
 induction fuel with
 | zero =>
  intro listed μ a w hsz hl I
  have hr:Region.ready .any ops listed=[]:=by
   apply List.eq_nil_iff_forall_not_mem.2;intro i hi;obtain ⟨h1,o,ho,_⟩:=mem_ready.1 hi;have hlt:i<ops.size:=(Array.getElem?_eq_some_iff.1 ho).1
   have:0<left ops.size listed:=by
    unfold left;rw [List.countP_pos_iff];exact ⟨i,by simpa using hlt,by simp only [h1];rfl⟩
   omega
  exact ⟨hr,fin listed μ a w hsz I hr⟩
 | succ fuel ih =>
  intro listed μ a w hsz hl I;refine ⟨fun hr=>fin listed μ a w hsz I hr,fun i hi=>?_⟩;obtain ⟨h1,o,ho,hall⟩:=mem_ready.1 hi;have hlt:i<ops.size:=(Array.getElem?_eq_some_iff.1 ho).1;obtain ⟨e,he,rfl⟩:=st.all i hlt;obtain ⟨pre,post,o2,g1,g2,g3,_⟩:=st.opAt he;rw [ho] at g2;cases g2
  have R:Rdy P call ng nt ops pl s tr (fun i=>listed.getD i true) pre e post o:=by
   refine ⟨g1,ho,g3,h1,fun ed hed hb=>?_⟩;have h2:=hall ed (by simpa using hed) hb
   have hlt2:ed.on<listed.size:=by
    rcases Nat.lt_or_ge ed.on listed.size with h3|h3
    ·exact h3
    ·simp [Array.getD_eq_getD_getElem?,Array.getElem?_eq_none h3] at h2
   show listed.getD ed.on true=true;rw [← Hp5 hlt2];exact h2
  refine R.step st I hcall hng fun μ' a' w' I'=>?_;rw [← E05 (by omega)] at I';refine ih _ μ' a' w' (by simpa using hsz) ?_ I'
  have:left ops.size (listed.setIfInBounds e.i true)<left ops.size listed:=by
   unfold left;refine Ht2 (x:=e.i) (by simpa using hlt) (by simp only [h1];rfl) ?_ fun y hy=>?_
   ·have:=congrFun (E05 (listed:=listed) (i:=e.i) (by omega)) e.i;simp only [ins,beq_self_eq_true,Bool.true_or] at this;simp only [this];rfl
   ·have:=congrFun (E05 (listed:=listed) (i:=e.i) (by omega)) y;rw [this] at hy;simp only [ins,Bool.not_eq_true',Bool.or_eq_false_iff] at hy ⊢;exact hy.2
  omega
theorem Jh4 (P:Program):Ju1 P:=by
 intro call ng nt ops pl s h s' us' hs' h' tr μ w a Q hcall hng hok run r sr hq t;obtain ⟨st,rfl⟩:=ST.of hok run;refine wpAny_sound ops.size t _ a w ?_;have hS:∀ i,i<ops.size→(Array.replicate ops.size false).getD i true=false:=fun i hi=>by simp [Array.getD_eq_getD_getElem?,hi]
 obtain ⟨s1,s2,s3⟩:=st.seg (S:=fun i=>(Array.replicate ops.size false).getD i true) tr h (fun e he=>he) st.chain (fun e he _=>hS _ (st.lt he)) r.hwf;obtain ⟨q1,q2⟩:=s1.rel r;refine Jj8 (μ0:=μ) (w0:=w) (a0:=a) st hcall hng hq ops.size _ μ a w (by simp) ?_ ⟨q1,q2,sr.size,fun e he hs=>?_,fun t _=>q2.vr r (sr.vr t),fun e he hs=>?_,fun i j hi hs=>?_,fun e he hsk hc hs=>?_,fun e he=>?_,s3,rfl⟩
 ·unfold left;exact Nat.le_trans (List.countP_le_length) (by simp)
 ·rw [hS _ (st.lt he)] at hs;cases hs
 ·rw [hS _ (st.lt he)] at hs;cases hs
 ·simp only [hS i hi] at hs;cases hs
 ·obtain ⟨_,_,m1,m2,m3,m4⟩:=s2 e he;obtain ⟨y,_,hy⟩:=st.allocH (E99 he) hsk hc;have hb:e.h'.blk e.h.next=some y:=by rw [hy,S7,if_pos rfl]
  exact ⟨r.fresh m1,by rw [hb];exact m4 _ _ hb⟩
 ·obtain ⟨m1,m2,m3,m4,m5,_⟩:=s2 e he;exact ⟨m1,m2,m3,m4,m5⟩
end
end Go.NN

namespace Go.NN
def Ai8 (p:Nat→Prop):Prop:=∃ N,∀ m,N≤m→p m
theorem Ai8.of {p:Nat→Prop} (h:∀ m,p m):Ai8 p:=⟨0,fun m _=>h m⟩
theorem Ai8.and {p q:Nat→Prop} (hp:Ai8 p) (hq:Ai8 q):Ai8 fun m=>p m∧q m :=
 let ⟨N,h1⟩:=hp;let ⟨M,h2⟩:=hq;⟨max N M,fun m hm=>⟨h1 m (by omega),h2 m (by omega)⟩⟩
theorem Ai8.mono {p q:Nat→Prop} (hp:Ai8 p) (h:∀ m,p m→q m):Ai8 q:=let ⟨N,h1⟩:=hp;⟨N,fun m hm=>h m (h1 m hm)⟩
def Hl0 (C:E0) (cs:Nat→E0):Prop:=∀ f a h r,C f a h=some r→Ai8 fun m=>cs m f a h=some r
def J69 (R:Ab8) (rs:Nat→Ab8):Prop:=∀ f t s h r,R f t s h=some r→Ai8 fun m=>rs m f t s h=some r
section
variable {P:Program} {C:E0} {cs:Nat→E0}
theorem Gr6 (hC:Hl0 C cs) {ρ:Operand→Value} {o:Oper} {h:H} {α:Type} {k:Value→H→Option α} {kk:Nat→Value→H→Option α} {x:α} (hh:opK P C ρ o h k=some x)
  (hk:∀ v h1,k v h1=some x→Ai8 fun m=>kk m v h1=some x):Ai8 fun m=>opK P (cs m) ρ o h (kk m)=some x:=by
 obtain ⟨v,h1,e1,e2⟩:=Gg1 hh
 have e3:Ai8 fun m=>opK P (cs m) ρ o h pr=some (v,h1):=by
  obtain ⟨dst,op,type,pos,after,guard⟩:=o;by_cases hc:∃ f args ats,op=.call ⟨.value f,args,ats⟩
  ·obtain ⟨f,args,ats,rfl⟩:=hc;simp only [opK] at e1 ⊢;obtain ⟨g,fi,ca,hf,e1⟩:=Is7 e1;rw [hf];unfold Gs9 at e1 ⊢;obtain ⟨u,h2,e3,e4⟩:=Gs7 e1;refine (hC _ _ _ _ e3).mono fun m hm=>?_;simp only [aFn,hm,bnd];exact e4
  ·refine Ai8.of fun m=>?_;rw [← e1]
   cases op<;>try rfl
   case call c =>
    obtain ⟨callee,args,ats⟩:=c
    cases callee with
    | value f=>exact absurd ⟨f,args,ats,rfl⟩ hc
    | invoke _ _=>rfl
    | builtin b=>rfl
 exact (e3.and (hk v h1 e2)).mono fun m ⟨h3,h4⟩=>by rw [J46 _ h3];exact h4
theorem Hb7 (hC:Hl0 C cs) {ρ:Operand→Value} {o:Oper} {hs:List (Nat × H)} {v:Value} {α:Type} {x:α}:∀ {l:List Nat} {k:Option α} {kk:Nat→Option α},A41 P C ρ o hs v l k=some x→(k=some x→Ai8 fun m=>kk m=some x) →
  Ai8 fun m=>A41 P (cs m) ρ o hs v l (kk m)=some x
 | [],k,kk,hh,hk=>hk hh
 | j::l,k,kk,hh,hk=>by
  simp only [A41] at hh ⊢
  split at hh
  ·rename_i h hj
   try simp only [hj]
   refine Gr6 hC (k:=fun v' _=>same v v' (A41 P C ρ o hs v l k)) (kk:=fun m v' _=>same v v' (A41 P (cs m) ρ o hs v l (kk m))) hh fun v' h1 h2=>?_;obtain ⟨_,h3⟩:=G50 h2;refine (Hb7 hC h3 hk).mono fun m hm=>?_;rw [Hc7 h2];exact hm
  ·cases hh
theorem D87 (hC:Hl0 C cs) {ng:Nat} {ops:Array Oper} {rg:List (Nat × Known)} {s:D2} {h:H} {α:Type} {x:α}:∀ {l:List Nat} {k:Option α} {kk:Nat→Option α},Ac9 P C ng ops rg s h l k=some x→(k=some x→Ai8 fun m=>kk m=some x) →
  Ai8 fun m=>Ac9 P (cs m) ng ops rg s h l (kk m)=some x
 | [],k,kk,hh,hk=>hk hh
 | i::l,k,kk,hh,hk=>by
  simp only [Ac9] at hh ⊢
  split at hh
  ·cases hh
  ·rename_i o ho
   split at hh
   ·cases hh
   ·rename_i d hd
    have one:∀ {y},opK P C (ev ng s) o h (fun v' _=>B00 (J6 s d) v' (Ac9 P C ng ops rg s h l k))=some y→y=x→Ai8 fun m=>opK P (cs m) (ev ng s) o h (fun v' _=>B00 (J6 s d) v' (Ac9 P (cs m) ng ops rg s h l (kk m)))=some x:=by
     intro y hy hyx;subst hyx;refine Gr6 hC (k:=fun v' _=>B00 (J6 s d) v' (Ac9 P C ng ops rg s h l k)) (kk:=fun m v' _=>B00 (J6 s d) v' (Ac9 P (cs m) ng ops rg s h l (kk m))) hy fun v' h1 h2=>?_;have h5:=h2;obtain ⟨h3,h4,h6⟩:=Hq1 h2;refine (D87 hC h6 hk).mono fun m hm=>?_;subst h4;unfold B00 at h5 ⊢
     split at h5
     ·cases h5
     ·rw [Hc7 h5];exact hm
    try simp only [ho,hd]
    split at hh
    ·exact one hh rfl
    ·rename_i j want hg
     split at hh
     ·cases hh
     ·rename_i hkn
      try simp only [hkn]
      exact D87 hC hh hk
     ·rename_i hkn
      split at hh
      ·cases hh
      ·rename_i c hc
       obtain ⟨b,hb,hh⟩:=An5 hh;simp only [hkn,hc,hb,aBool]
       cases hbw:(b==want)<;>rw [hbw] at hh
       ·exact D87 hC hh hk
       ·exact one hh rfl
theorem Io2 (hC:Hl0 C cs) {ng nt:Nat} {ops:Array Oper} {pl:Plan}:∀ (n:Nat) (α:Type) (rg:List (Nat × Known)) (hs:List (Nat × H)) (l:List Nat) (s:D2) (h:H) (k:D2→H→Option α) (kk:Nat→D2→H→Option α) (x:α),
  O4 P C ng nt ops pl n α rg hs l s h k=some x→(∀ s h,k s h=some x→Ai8 fun m=>kk m s h=some x)→Ai8 fun m=>O4 P (cs m) ng nt ops pl n α rg hs l s h (kk m)=some x:=by
 intro n
 induction n with
 | zero=>intro α rg hs l s h k kk x hh;simp [O4] at hh
 | succ n ih =>
  intro α rg hs l s h k kk x hh hk
  cases l with
  | nil=>simp only [O4] at hh ⊢;exact hk s h hh
  | cons i l =>
   simp only [O4] at hh ⊢
   split at hh
   ·cases hh
   ·rename_i o ho
    split at hh
    ·cases hh
    ·rename_i hsafe
     try simp only [ho,hsafe]
     have doStep:∀ {y},(opK P C (ev ng s) o h fun v h1=>A41 P C (ev ng s) o hs v (V7 pl.ahead i) (Ac9 P C ng ops rg (Q6 s o.dst v) h1 (V7 pl.again i) (O4 P C ng nt ops pl n α rg ((i,h)::hs) l (Q6 s o.dst v) h1 k)))=some y→y=x →
       Ai8 fun m=>(opK P (cs m) (ev ng s) o h fun v h1=>A41 P (cs m) (ev ng s) o hs v (V7 pl.ahead i) (Ac9 P (cs m) ng ops rg (Q6 s o.dst v) h1 (V7 pl.again i) (O4 P (cs m) ng nt ops pl n α rg ((i,h)::hs) l (Q6 s o.dst v) h1 (kk m))))=some x:=by
      intro y hy hyx;subst hyx;refine Gr6 hC (kk:=fun m v h1=>A41 P (cs m) (ev ng s) o hs v (V7 pl.ahead i) (Ac9 P (cs m) ng ops rg (Q6 s o.dst v) h1 (V7 pl.again i) (O4 P (cs m) ng nt ops pl n α rg ((i,h)::hs) l (Q6 s o.dst v) h1 (kk m)))) hy fun v h1 h2=>?_
      exact Hb7 hC (kk:=fun m=>Ac9 P (cs m) ng ops rg (Q6 s o.dst v) h1 (V7 pl.again i) (O4 P (cs m) ng nt ops pl n α rg ((i,h)::hs) l (Q6 s o.dst v) h1 (kk m))) h2 fun h3 =>
       D87 hC (kk:=fun m=>O4 P (cs m) ng nt ops pl n α rg ((i,h)::hs) l (Q6 s o.dst v) h1 (kk m)) h3 fun h4=>ih α _ _ _ _ _ k kk _ h4 hk
     split at hh
     ·exact doStep hh rfl
     ·rename_i j want hg
      split at hh
      ·cases hh
      ·rename_i c hc
       try simp only [hc]
       split at hh
       ·rename_i hkn
        obtain ⟨b,hb,hh⟩:=An5 hh;simp only [hkn,hb,aBool]
        cases hbw:(b==want)<;>rw [hbw] at hh
        ·exact ih _ _ _ _ _ _ k kk x hh hk
        ·exact doStep hh rfl
       ·rename_i hkn
        try simp only [hkn]
        exact ih _ _ _ _ _ _ k kk x hh hk
       ·rename_i hkn
        try simp only [hkn]
        split at hh
        ·cases hh
        ·rename_i g p r hcut
         try simp only [hcut]
         split at hh
         ·cases hh
         ·rename_i po hpo
          try simp only [hpo]
          split at hh
          ·cases hh
          ·rename_i hsf
           try simp only [hsf]
           obtain ⟨xb,hxb,hh⟩:=An5 hh;have hab:∀ {γ:Type} (k:Bool→Option γ),aBool (.bool xb) k=k xb:=fun _=>rfl;simp only [hxb,hab];obtain ⟨vb,hb1,e1,e2⟩:=Gs7 hh
           have pk:∀ (y:Bool × H) (s:D2) (h:H),(opK P C (ev ng s) po h fun v h=>aBool v fun b=>some (b,h))=some y→Ai8 fun m=>(opK P (cs m) (ev ng s) po h fun v h=>aBool v fun b=>some (b,h))=some y:=fun y s h hy =>
            Gr6 hC (kk:=fun _ v h=>aBool v fun b=>some (b,h)) hy fun v h1 h2=>Ai8.of fun _=>h2
           have e3:Ai8 fun m=>(cond xb
             (O4 P (cs m) ng nt ops pl n (Bool × H) ((j,.said)::rg) hs g (Q6 s (some c) (.bool true)) h fun s h=>opK P (cs m) (ev ng s) po h fun v h=>aBool v fun b=>some (b,h))
             (O4 P (cs m) ng nt ops pl n (Bool × H) ((j,.said)::rg) hs g (Q6 s (some c) (.bool false)) h fun s h=>opK P (cs m) (ev ng s) po h fun v h=>aBool v fun b=>some (b,h)))=some (vb,hb1):=by
            cases xb
            ·exact ih (Bool × H) _ _ _ _ _ _ (fun m s h=>opK P (cs m) (ev ng s) po h fun v h=>aBool v fun b=>some (b,h)) _ e1 fun s h h2=>pk _ s h h2
            ·exact ih (Bool × H) _ _ _ _ _ _ (fun m s h=>opK P (cs m) (ev ng s) po h fun v h=>aBool v fun b=>some (b,h)) _ e1 fun s h h2=>pk _ s h h2
           have e4:=ih α rg hs r _ _ k kk x e2 hk;exact (e3.and e4).mono fun m ⟨h3,h4⟩=>by rw [h3];exact h4
end
theorem G34 {P:Program} {C:E0} {cs:Nat→E0} {R:Ab8} {rs:Nat→Ab8} (hC:Hl0 C cs) (hR:J69 R rs) {cuts:Cuts} {f:FuncId} {fn:Func}:∀ (n:Nat) (first:Bool) (todo:List Item) (s:D2) (h:H) (x:Value × H),
  Z0 P cuts C R f fn n first todo s h=some x→Ai8 fun m=>Z0 P cuts (cs m) (rs m) f fn n first todo s h=some x:=by
 intro n
 induction n with
 | zero=>intro first todo s h x hh;simp [Z0] at hh
 | succ n ih =>
  intro first todo s h x hh
  cases todo with
  | nil=>simp only [Z0] at hh ⊢;exact Ai8.of fun _=>hh
  | cons it k =>
   cases it<;>simp only [Z0] at hh ⊢<;>try (cases hh;done)
   case inBlock id=>exact ih _ _ _ _ _ hh
   case inLoop c =>
    split at hh
    ·exact ih _ _ _ _ _ hh
    ·split at hh
     ·rename_i r hr
      try simp only [hr]
      split at hh
      ·rename_i ks hks
       exact hR _ _ _ _ _ hh
      ·cases hh
     ·cases hh
   case code c =>
    cases c<;>simp only at hh ⊢<;>try (cases hh;done)
    case skip=>exact ih _ _ _ _ _ hh
    case seq x y=>exact ih _ _ _ _ _ hh
    case block id c=>exact ih _ _ _ _ _ hh
    case ret=>exact Ai8.of fun _=>hh
    case exit id =>
     split at hh
     ·rename_i k' hk';exact ih _ _ _ _ _ hh
     ·cases hh
    case cond c y z =>
     obtain ⟨b,hb,hh⟩:=An5 hh;simp only [hb,aBool]
     cases b
     ·exact ih _ _ _ _ _ hh
     ·exact ih _ _ _ _ _ hh
    case loop c =>
     split at hh
     ·rename_i r hr
      try simp only [hr]
      split at hh
      ·rename_i ks hks
       exact hR _ _ _ _ _ hh
      ·cases hh
     ·cases hh
    case region id ops draw =>
     have go:∀ {pl:Plan} {l:List Nat} {fuel:Nat},(O4 P C cuts.globs fn.ntmps ops pl fuel _ [] [] l s h fun s h=>Z0 P cuts C R f fn n false k s h)=some x →
       Ai8 fun m=>(O4 P (cs m) cuts.globs fn.ntmps ops pl fuel _ [] [] l s h fun s h=>Z0 P cuts (cs m) (rs m) f fn n false k s h)=some x:=fun hh =>
      Io2 hC _ _ _ _ _ _ _ _ (fun m s h=>Z0 P cuts (cs m) (rs m) f fn n false k s h) _ hh fun s h h2=>ih _ _ _ _ _ h2
     split at hh
     ·rename_i ks hks
      exact hR _ _ _ _ _ hh
     ·rename_i hcut
      split at hh
      ·exact go hh
      ·split at hh
       ·cases hh
       ·rename_i pl hpl
        split at hh
        ·cases hh
        ·rename_i hok
         exact go hh
def At2:Nat→List Value→D2
 | _,[]=>[]
 | i,v::l=>(i,v)::At2 (i+1) l
section
variable (P:Program) (cutsOf:FuncId→Cuts)
noncomputable def G98 (call:E0) (run:Ab8):E0:=fun f args h =>
 match P.funcs[f]? with
 | none=>none
 | some fn=>match fn.body with
  | none=>none
  | some _ => match fn.name == "runtime.NumGoroutine", Nat.ble args.length fn.ntmps with
   | false,true=>Z0 P (cutsOf f) call run f fn 100000 true (A8 fn) (At2 0 args) h
   | _,_=>none
noncomputable def Hh7 (call:E0) (run:Ab8):Ab8:=fun f todo s h =>
 match P.funcs[f]? with
 | none=>none
 | some fn=>Z0 P (cutsOf f) call run f fn 100000 true todo s h
noncomputable def cum:Nat→E0 × Ab8
 | 0=>(fun _ _ _=>none,fun _ _ _ _=>none)
 | n+1=>(fun f args h=>match (cum n).1 f args h with
   | some r=>some r
   | none=>G98 P cutsOf (cum n).1 (cum n).2 f args h,
  fun f todo s h=>match (cum n).2 f todo s h with
   | some r=>some r
   | none=>Hh7 P cutsOf (cum n).1 (cum n).2 f todo s h)
open Classical in
noncomputable def Call:E0:=fun f args h=>if x:∃ r n,(cum P cutsOf n).1 f args h=some r then some (Classical.choose x) else none
open Classical in
noncomputable def Jump:Ab8:=fun f todo s h=>if x:∃ r n,(cum P cutsOf n).2 f todo s h=some r then some (Classical.choose x) else none
variable {P cutsOf}
theorem Gu3 {n m:Nat} (h:n≤m) {f args hp r} (hr:(cum P cutsOf n).1 f args hp=some r):(cum P cutsOf m).1 f args hp=some r:=by
 induction h with
 | refl=>exact hr
 | step _ ih=>simp only [cum,ih]
theorem Gu1 {n m:Nat} (h:n≤m) {f t s hp r} (hr:(cum P cutsOf n).2 f t s hp=some r):(cum P cutsOf m).2 f t s hp=some r:=by
 induction h with
 | refl=>exact hr
 | step _ ih=>simp only [cum,ih]
theorem It1 {n:Nat} {f args h r} (hr:(cum P cutsOf n).1 f args h=some r):Call P cutsOf f args h=some r:=by
 have hx:∃ r n,(cum P cutsOf n).1 f args h=some r:=⟨r,n,hr⟩
 unfold Call;rw [dif_pos hx];obtain ⟨m,hm⟩:=Classical.choose_spec hx;have h1:=Gu3 (Nat.le_max_left n m) hr;have h2:=Gu3 (Nat.le_max_right n m) hm;rw [h1] at h2;exact h2.symm
theorem It4 {n:Nat} {f t s h r} (hr:(cum P cutsOf n).2 f t s h=some r):Jump P cutsOf f t s h=some r:=by
 have hx:∃ r n,(cum P cutsOf n).2 f t s h=some r:=⟨r,n,hr⟩
 unfold Jump;rw [dif_pos hx];obtain ⟨m,hm⟩:=Classical.choose_spec hx;have h1:=Gu1 (Nat.le_max_left n m) hr;have h2:=Gu1 (Nat.le_max_right n m) hm;rw [h1] at h2;exact h2.symm
theorem G45:Hl0 (Call P cutsOf) (fun n=>(cum P cutsOf n).1):=by
 intro f args h r hr;unfold Call at hr
 split at hr
 ·rename_i hx
  cases hr
  obtain ⟨n,hn⟩:=Classical.choose_spec hx;exact ⟨n,fun m hm=>Gu3 hm hn⟩
 ·cases hr
theorem H62:J69 (Jump P cutsOf) (fun n=>(cum P cutsOf n).2):=by
 intro f t s h r hr;unfold Jump at hr
 split at hr
 ·rename_i hx
  cases hr
  obtain ⟨n,hn⟩:=Classical.choose_spec hx;exact ⟨n,fun m hm=>Gu1 hm hn⟩
 ·cases hr
theorem Hp8 {f args h r}:∀ {n:Nat},(cum P cutsOf n).1 f args h=some r→∃ m,G98 P cutsOf (cum P cutsOf m).1 (cum P cutsOf m).2 f args h=some r
 | 0,hr=>by simp [cum] at hr
 | n+1,hr=>by
  simp only [cum] at hr
  split at hr
  ·cases hr;exact Hp8 ‹_›
  ·exact ⟨n,hr⟩
theorem Ht8 {f t s h r}:∀ {n:Nat},(cum P cutsOf n).2 f t s h=some r→∃ m,Hh7 P cutsOf (cum P cutsOf m).1 (cum P cutsOf m).2 f t s h=some r
 | 0,hr=>by simp [cum] at hr
 | n+1,hr=>by
  simp only [cum] at hr
  split at hr
  ·cases hr;exact Ht8 ‹_›
  ·exact ⟨n,hr⟩
theorem Iu0 {cuts:Cuts} {f:FuncId} {fn:Func} {n:Nat} {first:Bool} {todo:List Item} {s:D2} {h:H} {x:Value × H} {m:Nat}
  (he:Z0 P cuts (cum P cutsOf m).1 (cum P cutsOf m).2 f fn n first todo s h=some x):Ai8 fun k=>Z0 P cuts (cum P cutsOf k).1 (cum P cutsOf k).2 f fn n first todo s h=some x :=
 G34 (cs:=fun k=>(cum P cutsOf k).1) (rs:=fun k=>(cum P cutsOf k).2) (fun f a h r hr=>⟨m,fun k hk=>Gu3 hk hr⟩) (fun f t s h r hr=>⟨m,fun k hk=>Gu1 hk hr⟩) _ _ _ _ _ _ he
theorem Jb7 {f : FuncId} {fn : Func} {c : Code} {args : List Value} {h : H} {r : Value × H} (hf : P.funcs[f]? = some fn) (hb : fn.body = some c) (hn : (fn.name == "runtime.NumGoroutine") = false) (hl : Nat.ble args.length fn.ntmps = true)
  (he:Z0 P (cutsOf f) (Call P cutsOf) (Jump P cutsOf) f fn 100000 true (A8 fn) (At2 0 args) h=some r):Call P cutsOf f args h=some r:=by
 have e1:=G34 G45 H62 _ _ _ _ _ _ he;obtain ⟨N,hN⟩:=e1;have h1:=hN N (Nat.le_refl _)
 cases hc:(cum P cutsOf N).1 f args h with
 | some r2 =>
  obtain ⟨m,hm⟩:=Hp8 hc;simp only [G98,hf,hb,hn,hl] at hm;obtain ⟨M,hM⟩:=Iu0 hm;have h2:=hM (max M N) (Nat.le_max_left _ _);have h3:=hN (max M N) (Nat.le_max_right _ _);have h4:=h2.symm.trans h3
  cases h4
  exact It1 hc
 | none =>
  refine It1 (n:=N+1) ?_;simp only [cum,hc,G98,hf,hb,hn,hl];exact h1
theorem Jb4 {f:FuncId} {fn:Func} {todo:List Item} {s:D2} {h:H} {r:Value × H} (hf:P.funcs[f]?=some fn)
  (he:Z0 P (cutsOf f) (Call P cutsOf) (Jump P cutsOf) f fn 100000 true todo s h=some r):Jump P cutsOf f todo s h=some r:=by
 have e1:=G34 G45 H62 _ _ _ _ _ _ he;obtain ⟨N,hN⟩:=e1;have h1:=hN N (Nat.le_refl _)
 cases hc:(cum P cutsOf N).2 f todo s h with
 | some r2 =>
  obtain ⟨m,hm⟩:=Ht8 hc;simp only [Hh7,hf] at hm;obtain ⟨M,hM⟩:=Iu0 hm;have h2:=hM (max M N) (Nat.le_max_left _ _);have h3:=hN (max M N) (Nat.le_max_right _ _);have h4:=h2.symm.trans h3
  cases h4
  exact It4 hc
 | none =>
  refine It4 (n:=N+1) ?_;simp only [cum,hc,Hh7,hf];exact h1
theorem Gc5:∀ (l:List Value) (i t:Nat),J6 (At2 i l) t=if i≤t then (l[t-i]?).getD undef else undef
 | [],i,t=>by simp [At2,J6]
 | v::l,i,t=>by
  simp only [At2,J6];by_cases h1:i=t
  ·subst h1;simp
  ·rw [E04 h1];simp only;rw [Gc5 l (i+1) t];by_cases h2:i≤t
   ·rw [if_pos h2,if_pos (by omega),show t-i=(t-(i+1))+1 by omega];simp
   ·rw [if_neg h2,if_neg (by omega)]
theorem J02 {μ:Mu} {h:H} {w:World} {args args':List Value} {nt:Nat} (hv:VRs P μ h w args args') (hl:args.length≤nt) :
  SR P μ h w nt (At2 0 args) { tmps:=(⟨args'⟩:Array Value)++Array.replicate (nt-args'.length) Go.undef,defers:=[] }:=by
 have hlen:=hv.length;refine ⟨by simp;omega,fun t=>?_⟩;rw [Gc5];simp only [Nat.zero_le,if_true,Nat.sub_zero]
 cases ht:args[t]? with
 | none=>exact .undef _
 | some v =>
  obtain ⟨v',h1,h2⟩:=hv.get ht;have hlt:=(List.getElem?_eq_some_iff.1 h1).1
  have:((⟨args'⟩:Array Value)++Array.replicate (nt-args'.length) Go.undef).getD t Go.undef=v':=by
   rw [Array.getD_eq_getD_getElem?,Array.getElem?_append_left (by simpa using hlt)];simp [h1]
  rw [this];exact h2
theorem Ic0 {f:FuncId} {fn:Func} {c:Code} {args:Array Value} {w:World} {R:Value→World→Prop} (hf:P.funcs[f]?=some fn) (hb:fn.body=some c)
  (hfin:Fin P f (A8 fn) { tmps:=args++Array.replicate (fn.ntmps-args.size) Go.undef,defers:=[] } w R):Calls P f args w fun e w1=>∃ u,e=.returned u∧R u w1:=by
 intro cs
 let b:Frame:={ (default:Frame) with fn:=f,kind:=.normal }
 have henter:Frame.enter P f args .normal=b.at { tmps:=args++Array.replicate (fn.ntmps-args.size) Go.undef,defers:=[] } (A8 fn):=by
  simp [Frame.enter,Frame.at,hf,hb,b,A8]
 obtain ⟨v,w',fr,hr,st,h1,h2⟩:=hfin b cs rfl rfl;rw [← henter] at st;exact ⟨.returned v,w',fr,⟨v,rfl,hr⟩,st,h1,h2⟩
variable (hm:P.follows .mixedOrders=true) (hng:∀ f,(cutsOf f).globs≤P.globals.size)
include hm hng
theorem Hs3:∀ n,Dj1 P (cum P cutsOf n).1∧Jt3 P (cum P cutsOf n).2
 | 0=>⟨fun _ _ _ _ _ hh=>by simp [cum] at hh,fun _ _ _ _ _ _ hh=>by simp [cum] at hh⟩
 | n+1=>by
  obtain ⟨hc,hr⟩:=Hs3 n;refine ⟨fun f args h v h1 hh=>?_,fun f todo s h v h1 hh=>?_⟩
  ·simp only [cum] at hh
   split at hh
   ·cases hh;exact hc f args h v h1 ‹_›
   ·unfold G98 at hh
    split at hh
    ·cases hh
    ·rename_i fn hf
     split at hh
     ·cases hh
     ·rename_i c hb
      split at hh
      ·rename_i hname hlen
       refine ⟨⟨fn,c,hf,hname,hb⟩,fun μ w args' r hv=>?_⟩;have hl:=hv.length;exact Ic0 hf hb (Ha4 (Jh4 P) hm (hng f) hc hr hf _ _ _ _ _ _ _ hh μ w _ r (J02 hv (Nat.le_of_ble_eq_true hlen)) rfl)
      ·cases hh
  ·simp only [cum] at hh
   split at hh
   ·cases hh;exact hr f todo s h v h1 ‹_›
   ·unfold Hh7 at hh
    split at hh
    ·cases hh
    ·rename_i fn hf
     exact ⟨fn,hf,fun μ w a r sr hd=>Ha4 (Jh4 P) hm (hng f) hc hr hf _ _ _ _ _ _ _ hh μ w a r sr hd⟩
theorem Hf5:Dj1 P (Call P cutsOf):=by
 intro f args h v h1 hh;obtain ⟨N,hN⟩:=G45 _ _ _ _ hh;exact (Hs3 hm hng N).1 f args h v h1 (hN N (Nat.le_refl _))
end
structure FnOk (P:Program) (cutsOf:FuncId→Cuts) (f:FuncId) (fn:Func) (C:Cuts) (T:List Item) (n:Nat):Prop where
 func:P.funcs[f]?=some fn
 body:∃ c,fn.body=some c
 name : (fn.name == "runtime.NumGoroutine") = false
 cut:cutsOf f=C
 text:A8 fn=T
 args:Nat.ble n fn.ntmps=true
theorem FnOk.call {P:Program} {cutsOf:FuncId→Cuts} {f:FuncId} {fn:Func} {C:Cuts} {T:List Item} {n:Nat} (k:FnOk P cutsOf f fn C T n) {args:List Value} {h:H} {r:Value × H} (hl:args.length=n)
  (he:Z0 P C (Call P cutsOf) (Jump P cutsOf) f fn 100000 true T (At2 0 args) h=some r):Call P cutsOf f args h=some r:=by
 obtain ⟨c,hb⟩:=k.body;exact Jb7 k.func hb k.name (by rw [hl];exact k.args) (by rw [k.cut,k.text];exact he)
theorem FnOk.jump {P:Program} {cutsOf:FuncId→Cuts} {f:FuncId} {fn:Func} {C:Cuts} {T:List Item} {n:Nat} (k:FnOk P cutsOf f fn C T n) {todo:List Item} {s:D2} {h:H} {r:Value × H}
  (he:Z0 P C (Call P cutsOf) (Jump P cutsOf) f fn 100000 true todo s h=some r):Jump P cutsOf f todo s h=some r :=
 Jb4 k.func (by rw [k.cut];exact he)
def Hc3:List (Nat × Cuts)→FuncId→Cuts
 | [],_=>{ globs:=0,loops:=[],regs:=[],plans:=[] }
 | (k,c)::l,f=>bif Nat.beq k f then c else Hc3 l f
end Go.NN

namespace Go.NN
abbrev HM:=Nat→Option Blk
abbrev HP:=HM→Prop
def HM.le (a b:HM):Prop:=∀ i x,a i=some x→b i=some x
def HM.dj (a b:HM):Prop:=∀ i,a i=none∨b i=none
def HM.join (a b:HM):HM:=fun i=>match a i with|some x=>some x|none=>b i
theorem HM.le_refl (a:HM):a.le a:=fun _ _ h=>h
theorem HM.le_trans {a b c:HM} (h:a.le b) (g:b.le c):a.le c:=fun i x e=>g i x (h i x e)
theorem HM.dj_symm {a b:HM} (h:a.dj b):b.dj a:=fun i=>(h i).symm
theorem HM.dj_le {a b a' b':HM} (h:a.dj b) (ha:a'.le a) (hb:b'.le b):a'.dj b':=fun i=>by
 rcases h i with h|h
 ·left
  cases ha':a' i with
  | none=>rfl
  | some x=>rw [ha i x ha'] at h;cases h
 ·right
  cases hb':b' i with
  | none=>rfl
  | some x=>rw [hb i x hb'] at h;cases h
theorem HM.le_join_left (a b:HM):a.le (a.join b):=fun i x h=>by simp [HM.join,h]
theorem HM.le_join_right {a b:HM} (d:a.dj b):b.le (a.join b):=fun i x h=>by
 rcases d i with e|e
 ·simp [HM.join,e,h]
 ·rw [h] at e;cases e
theorem HM.join_le {a b c:HM} (h:a.le c) (g:b.le c):(a.join b).le c:=fun i x e=>by
 unfold HM.join at e
 cases ha:a i with
 | some y=>rw [ha] at e;simp at e;subst e;exact h i y ha
 | none=>rw [ha] at e;exact g i x e
theorem HM.dj_join {a b c:HM} (h:c.dj a) (g:c.dj b):c.dj (a.join b):=fun i=>by
 rcases h i with e|e
 ·exact .inl e
 ·rcases g i with f|f
  ·exact .inl f
  ·right;simp [HM.join,e,f]
def sl:List HP→HP
 | []=>fun _=>True
 | p::l=>fun m=>∃ a b,HM.dj a b∧a.le m∧b.le m∧p a∧sl l b
def Jo8 (p q:HP):HP:=sl [p,q]
def hex {α:Type} (f:α→HP):HP:=fun m=>∃ x,f x m
def pu (φ:Prop):HP:=fun _=>φ
def pt (b:Nat) (x:Blk):HP:=fun m=>m b=some x
theorem Hz9 {l:List HP} {m n:HM} (h:sl l m) (g:m.le n):sl l n:=by
 cases l with
 | nil=>trivial
 | cons p l=>obtain ⟨a,b,d,ha,hb,hp,hl⟩:=h;exact ⟨a,b,d,HM.le_trans ha g,HM.le_trans hb g,hp,hl⟩
theorem Jx4 {p q:HP} {l:List HP} {m:HM} (h:sl (p::q::l) m):sl (q::p::l) m:=by
 obtain ⟨a,b,d,ha,hb,hp,c,e,d2,hc,he,hq,hl⟩:=h;refine ⟨c,a.join e,?_,HM.le_trans hc hb,HM.join_le ha (HM.le_trans he hb),hq,a,e,?_,HM.le_join_left _ _,?_,hp,hl⟩
 ·exact HM.dj_join (HM.dj_symm (HM.dj_le d (HM.le_refl _) hc)) d2
 ·exact HM.dj_le d (HM.le_refl _) he
 ·exact HM.le_join_right (HM.dj_le d (HM.le_refl _) he)
theorem Jv5 {l l':List HP} (p:l.Perm l'):∀ {m:HM},sl l m→sl l' m:=by
 induction p with
 | nil=>intro m h;exact h
 | cons x _ ih=>intro m h;obtain ⟨a,b,d,ha,hb,hp,hl⟩:=h;exact ⟨a,b,d,ha,hb,hp,ih hl⟩
 | swap x y l=>intro m h;exact Jx4 h
 | trans _ _ ih1 ih2=>intro m h;exact ih2 (ih1 h)
theorem Ja5 {l r:List HP}:∀ {m:HM},sl (sl l::r) m→sl (l++r) m:=by
 induction l with
 | nil=>intro m h;obtain ⟨a,b,d,ha,hb,hp,hl⟩:=h;exact Hz9 hl hb
 | cons p l ih =>
  intro m h;obtain ⟨a,b,d,ha,hb,⟨a1,a2,d1,h1,h2,hp,hl1⟩,hl⟩:=h;refine ⟨a1,a2.join b,HM.dj_join d1 (HM.dj_le d h1 (HM.le_refl _)),HM.le_trans h1 ha,HM.join_le (HM.le_trans h2 ha) hb,hp,?_⟩;have d3:=HM.dj_le d h2 (HM.le_refl b);exact ih ⟨a2,b,d3,HM.le_join_left _ _,HM.le_join_right d3,hl1,hl⟩
theorem Gy9 {l r:List HP}:∀ {m:HM},sl (l++r) m→sl (sl l::r) m:=by
 induction l with
 | nil=>intro m h;exact ⟨fun _=>none,m,fun _=>.inl rfl,fun _ _ e=>(by cases e),HM.le_refl _,trivial,h⟩
 | cons p l ih =>
  intro m h;obtain ⟨a,b,d,ha,hb,hp,hl⟩:=h;obtain ⟨c,e,d2,hc,he,hl1,hr⟩:=ih hl;have d3:=HM.dj_le d (HM.le_refl a) hc;refine ⟨a.join c,e,HM.dj_symm (HM.dj_join (HM.dj_symm (HM.dj_le d (HM.le_refl _) he)) (HM.dj_symm d2)),HM.join_le ha (HM.le_trans hc hb),HM.le_trans he hb,⟨a,c,d3,HM.le_join_left _ _,HM.le_join_right d3,hp,hl1⟩,hr⟩
theorem Gt8 {α:Type}:∀ {l:List α} {i:Nat} (h:i<l.length),(l[i]::l.eraseIdx i).Perm l
 | [],_,h=>by simp at h
 | a::l,0,_=>by simp
 | a::l,i+1,h=>by
  simp only [List.getElem_cons_succ,List.eraseIdx_cons_succ];exact (List.Perm.swap a _ _).trans (.cons a (Gt8 (by simpa using h)))
structure Own (h:H) (l:List HP):Prop where
 wf:∀ b,h.next≤b→h.blk b=none
 own:sl l h.blk
namespace Own
variable {h:H} {l r:List HP}
theorem perm (o:Own h l) (p:l.Perm r):Own h r:=⟨o.wf,Jv5 p o.own⟩
theorem join (o:Own h (sl l::r)):Own h (l++r):=⟨o.wf,Ja5 o.own⟩
theorem group (o:Own h (l++r)):Own h (sl l::r):=⟨o.wf,Gy9 o.own⟩
theorem star2 {p q:HP} (o:Own h (Jo8 p q::r)):Own h (p::q::r):=o.join
theorem unstar {p q:HP} (o:Own h (p::q::r)):Own h (Jo8 p q::r):=group (l:=[p,q]) o
theorem tail {p:HP} (o:Own h (p::r)):Own h r:=by
 obtain ⟨w,a,b,d,ha,hb,hp,hl⟩:=o;exact ⟨w,Hz9 hl hb⟩
theorem dropN:∀ (n:Nat) {l:List HP},Own h l→Own h (l.drop n)
 | 0,_,o=>o
 | _+1,[],o=>o
 | n+1,_::l,o=>dropN n o.tail
theorem ex {α:Type} {f:α→HP} (o:Own h (hex f::r)):∃ x,Own h (f x::r):=by
 obtain ⟨w,a,b,d,ha,hb,⟨x,hp⟩,hl⟩:=o;exact ⟨x,w,a,b,d,ha,hb,hp,hl⟩
theorem inex {α:Type} {f:α→HP} (x:α) (o:Own h (f x::r)):Own h (hex f::r):=by
 obtain ⟨w,a,b,d,ha,hb,hp,hl⟩:=o;exact ⟨w,a,b,d,ha,hb,⟨x,hp⟩,hl⟩
theorem pure {φ:Prop} (o:Own h (pu φ::r)):φ:=by obtain ⟨w,a,b,d,ha,hb,hp,hl⟩:=o;exact hp
theorem inpure {φ:Prop} (hφ:φ) (o:Own h r):Own h (pu φ::r):=⟨o.wf,fun _=>none,h.blk,fun _=>.inl rfl,fun _ _ e=>(by cases e),HM.le_refl _,hφ,o.own⟩
theorem head {p q:HP} (hpq:∀ m,p m→q m) (o:Own h (p::r)):Own h (q::r):=by
 obtain ⟨w,a,b,d,ha,hb,hp,hl⟩:=o;exact ⟨w,a,b,d,ha,hb,hpq a hp,hl⟩
theorem rest {p:HP} {l':List HP} (hl:∀ m,sl l m→sl l' m) (o:Own h (p::l)):Own h (p::l'):=by
 obtain ⟨w,a,b,d,ha,hb,hp,hl1⟩:=o;exact ⟨w,a,b,d,ha,hb,hp,hl b hl1⟩
theorem front {l:List HP} {i:Nat} {p:HP} (o:Own h l) (hi:l[i]?=some p):Own h (p::l.eraseIdx i):=by
 obtain ⟨hlt,rfl⟩:=List.getElem?_eq_some_iff.1 hi;exact o.perm (Gt8 hlt).symm
theorem ptGet {b:Nat} {x:Blk} (o:Own h (pt b x::r)):h.blk b=some x:=by
 obtain ⟨w,a,c,d,ha,hb,hp,hl⟩:=o;exact ha b x hp
theorem ptAt {i b:Nat} {x:Blk} (o:Own h l) (hi:l[i]?=some (pt b x)):h.blk b=some x:=(o.front hi).ptGet
theorem lt {b:Nat} {x:Blk} (o:Own h l) (hb:h.blk b=some x):b<h.next:=by
 by_cases hlt:b<h.next
 ·exact hlt
 ·rw [o.wf b (by omega)] at hb;cases hb
theorem set_front {b:Nat} {x:Blk} (y:Blk) (o:Own h (pt b x::r)):Own (h.set b y) (pt b y::r):=by
 have hb:=o.ptGet;have hlt:=o.lt hb;obtain ⟨w,a,c,d,ha,hc,hp,hl⟩:=o
 have hcn:c b=none:=by
  rcases d b with e|e
  ·have:a b=some x:=hp;rw [this] at e;cases e
  ·exact e
 refine ⟨fun i hi=>?_,fun i=>bif Nat.beq i b then some y else none,c,fun i=>?_,fun i z hz=>?_,fun i z hz=>?_,?_,hl⟩
 ·simp only [H.set] at hi ⊢
  have:Nat.beq i b=false:=by
   cases hx:Nat.beq i b with
   | false=>rfl
   | true=>have:=Nat.eq_of_beq_eq_true hx;omega
  rw [this];exact w i hi
 ·cases hx:Nat.beq i b with
  | false=>left;simp [hx]
  | true=>right;rw [Nat.eq_of_beq_eq_true hx];exact hcn
 ·simp only [H.set]
  cases hx:Nat.beq i b with
  | false=>simp [hx] at hz
  | true=>simpa [hx] using hz
 ·simp only [H.set]
  cases hx:Nat.beq i b with
  | false=>exact hc i z hz
  | true=>rw [Nat.eq_of_beq_eq_true hx,hcn] at hz;cases hz
 ·show (bif Nat.beq b b then some y else none)=some y;rw [Nat.beq_refl];rfl
theorem push (x:Blk) (o:Own h l):Own (h.push x) (pt h.next x::l):=by
 refine ⟨fun i hi=>?_,fun i=>bif Nat.beq i h.next then some x else none,h.blk,fun i=>?_,fun i z hz=>?_,fun i z hz=>?_,?_,o.own⟩
 ·simp only [H.push] at hi ⊢
  have:Nat.beq i h.next=false:=by
   cases hx:Nat.beq i h.next with
   | false=>rfl
   | true=>have:=Nat.eq_of_beq_eq_true hx;omega
  rw [this];exact o.wf i (by omega)
 ·cases hx:Nat.beq i h.next with
  | false=>left;simp [hx]
  | true=>right;rw [Nat.eq_of_beq_eq_true hx];exact o.wf _ (Nat.le_refl _)
 ·simp only [H.push]
  cases hx:Nat.beq i h.next with
  | false=>simp [hx] at hz
  | true=>simpa [hx] using hz
 ·simp only [H.push]
  cases hx:Nat.beq i h.next with
  | false=>exact hz
  | true=>rw [Nat.eq_of_beq_eq_true hx,o.wf _ (Nat.le_refl _)] at hz;cases hz
 ·show (bif Nat.beq h.next h.next then some x else none)=some x;rw [Nat.beq_refl];rfl
theorem back {l:List HP} {i:Nat} {p q:HP} {h h':H} (hi:l[i]?=some p) (o:Own h' (q::l.eraseIdx i)):Own h' (l.set i q):=by
 obtain ⟨hlt,rfl⟩:=List.getElem?_eq_some_iff.1 hi;refine o.perm ?_;have e:(l.set i q).eraseIdx i=l.eraseIdx i:=by rw [List.eraseIdx_set_eq]
 have h2:i<(l.set i q).length:=by simpa using hlt
 have:=Gt8 h2;rw [e] at this;simpa using this
theorem set_at {i b:Nat} {x:Blk} (y:Blk) (o:Own h l) (hi:l[i]?=some (pt b x)):Own (h.set b y) (l.set i (pt b y)) :=
 back (h:=h) hi (set_front y (o.front hi))
end Own
def picks:List Nat→List HP→Option (List HP × List HP)
 | [],l=>some ([],l)
 | i::is,l=>match l[i]? with
  | some p=>match picks is (l.eraseIdx i) with
   | some (c,r)=>some (p::c,r)
   | none=>none
  | none=>none
theorem Hd9:∀ {is:List Nat} {l c r:List HP},picks is l=some (c,r)→l.Perm (c++r)
 | [],l,c,r,hh=>by simp only [picks,Option.some.injEq,Prod.mk.injEq] at hh;obtain ⟨rfl,rfl⟩:=hh;exact .refl _
 | i::is,l,c,r,hh=>by
  unfold picks at hh
  split at hh
  ·rename_i p hp
   split at hh
   ·rename_i c2 r2 h2
    simp only [Option.some.injEq,Prod.mk.injEq] at hh;obtain ⟨rfl,rfl⟩:=hh;obtain ⟨hlt,rfl⟩:=List.getElem?_eq_some_iff.1 hp;exact (Gt8 hlt).symm.trans (.cons _ (Hd9 h2))
   ·cases hh
  ·cases hh
theorem Own.picks {h:H} {l:List HP} (o:Own h l) (is:List Nat) {c r:List HP} (e:NN.picks is l=some (c,r)):Own h (c++r):=o.perm (Hd9 e)
theorem Own.fin {h:H} {l:List HP} (o:Own h l) (is:List Nat) (n:Nat) {c r r':List HP} (e:NN.picks is l=some (c,r)) (e2:r.drop n=r'):Own h (c++r'):=by
 have o2:=o.picks is e;have o3:=Own.group o2;refine Own.join (o3.rest fun m hm=>?_)
 have:∀ (k:Nat) (q:List HP) (m:HM),sl q m→sl (q.drop k) m:=by
  intro k
  induction k with
  | zero=>intro q m hq;simpa using hq
  | succ k ih=>intro q m hq;cases q with
   | nil=>simpa using hq
   | cons p q=>obtain ⟨a,b,d,ha,hb,hp,hl⟩:=hq;simpa using ih q m (Hz9 hl hb)
 rw [← e2];exact this n r m hm
def Wp {β:Type} (x:Option (β × H)) (Q:β→H→Prop):Prop:=∃ v h,x=some (v,h)∧Q v h
def Tr (l:List HP) (h:H) {β:Type} (x:Option (β × H)) (Q:β→H→Prop):Prop:=Own h l→Wp x Q
def Ct (C:E0) (f:FuncId) (args:List Value) (p:List HP) (Φ:Value→(List HP→Prop)→Prop):Prop :=
 ∀ h r,Own h (p++r)→Wp (C f args h) fun v h'=>Φ v fun l=>Own h' (l++r)
def CtJ (R:Ab8) (f:FuncId) (todo:List Item) (s:D2) (p:List HP) (Φ:Value→(List HP→Prop)→Prop):Prop :=
 ∀ h r,Own h (p++r)→Wp (R f todo s h) fun v h'=>Φ v fun l=>Own h' (l++r)
theorem Wp.mono {β:Type} {x:Option (β × H)} {Q Q':β→H→Prop} (w:Wp x Q) (hq:∀ v h,Q v h→Q' v h):Wp x Q' :=
 let ⟨v,h,e,q⟩:=w;⟨v,h,e,hq v h q⟩
theorem Wp.bnd {β γ:Type} {x:Option (β × H)} {k:β→H→Option (γ × H)} {Q:γ→H→Prop} (w:Wp x fun v h=>Wp (k v h) Q):Wp (bnd x k) Q:=by
 obtain ⟨v,h,e,q⟩:=w;rw [e];exact q
end Go.NN

namespace Go.NN
theorem J11 {α:Type} {h:H} {b o n:Nat} {e:TypeId} {ro:Bool} {cs:List Value} (hb:h.blk b=some (.cells e ro cs)) (hn:o+n≤cs.length) (k:List Value→Option α):gAgg ⟨b,o,none⟩ n h k=k ((cs.drop o).take n):=by
 simp only [gAgg,H.cs,hb,if_pos hn]
theorem Go3 {α:Type} {h:H} {b o n:Nat} {sp:Option Nat} {e:TypeId} {ro:Bool} {cs:List Value} (hb:h.blk b=some (.cells e ro cs)) (hn:o+n≤cs.length) (k:List Value→Option α):gCells (some ⟨b,o,sp⟩) n h k=k ((cs.drop o).take n) :=
 J11 hb hn k
theorem Dl2 (b o:Nat) (j:Nat):Addr.add ⟨b,o,none⟩ j=⟨b,o+j,none⟩:=by
 unfold Addr.add;split
 ·subst_vars;rfl
 ·rfl
namespace Tr
variable {l:List HP} {h:H} {α:Type} {Q:α→H→Prop}
theorem aInt {kk:IntKind} {n:Int} {k:Int→Option (α × H)} (t:Tr l h (k n) Q):Tr l h (aInt kk (.int kk n) k) Q:=by
 simpa [NN.aInt] using t
theorem aBool {b:Bool} {k:Bool→Option (α × H)} (t:Tr l h (k b) Q):Tr l h (aBool (.bool b) k) Q:=t
theorem aStr {s:ByteArray} {k:ByteArray→Option (α × H)} (t:Tr l h (k s) Q):Tr l h (aStr (.string s) k) Q:=t
theorem aPtr {p:Option Addr} {k:Option Addr→Option (α × H)} (t:Tr l h (k p) Q):Tr l h (aPtr (.pointer p) k) Q:=t
theorem aSome {a:Addr} {k:Addr→Option (α × H)} (t:Tr l h (k a) Q):Tr l h (aSome (some a) k) Q:=t
theorem aSl {a:Option Addr} {n c:Nat} {k:Option Addr→Nat→Nat→Option (α × H)} (t:Tr l h (k a n c) Q):Tr l h (aSl (.slice a n c) k) Q:=t
theorem aMap {r:Option Nat} {k:Option Nat→Option (α × H)} (t:Tr l h (k r) Q):Tr l h (aMap (.map r) k) Q:=t
theorem aAgg {cs:List Value} {k:List Value→Option (α × H)} (t:Tr l h (k cs) Q):Tr l h (aAgg (.agg ⟨cs⟩) k) Q:=t
theorem aFn {f:FuncId} {a c:List Value} {k:FuncId→List Value→List Value→Option (α × H)} (t:Tr l h (k f a c) Q):Tr l h (aFn (.func (.func f) ⟨a⟩ ⟨c⟩) k) Q:=t
theorem aFv {fn:Fn} {a c:Array Value} {k:Value→Option (α × H)} (t:Tr l h (k (.func fn a c)) Q):Tr l h (aFv (.func fn a c) k) Q:=t
theorem nck {f:FuncId} {a c:Array Value} {k:Value→Option (α × H)} (t:Tr l h (k (.func (.func f) a c)) Q):Tr l h (nck (.func (.func f) a c) k) Q:=t
theorem isNilF {fn:Fn} {a c:Array Value} {k:Bool→Option (α × H)} (t:Tr l h (k false) Q):Tr l h (isNilF (.func fn a c) k) Q:=t
theorem one {v:Value} {k:Option (α × H)} (hv:v.oneCell=true) (t:Tr l h k Q):Tr l h (one v k) Q:=by unfold NN.one;rw [hv];exact t
theorem as0 {k:Option (α × H)} (t:Tr l h k Q):Tr l h (as0 (.tuple ⟨[]⟩) k) Q:=t
theorem as2 {a b:Value} {k:Value→Value→Option (α × H)} (t:Tr l h (k a b) Q):Tr l h (as2 (.tuple ⟨[a,b]⟩) k) Q:=t
theorem as3 {a b c:Value} {k:Value→Value→Value→Option (α × H)} (t:Tr l h (k a b c) Q):Tr l h (as3 (.tuple ⟨[a,b,c]⟩) k) Q:=t
theorem as4 {a b c d:Value} {k:Value→Value→Value→Value→Option (α × H)} (t:Tr l h (k a b c d) Q):Tr l h (as4 (.tuple ⟨[a,b,c,d]⟩) k) Q:=t
theorem lt {β:Type} {v:β} {k:β→Option (α × H)} (t:Tr l h (k v) Q):Tr l h (lt v k) Q:=t
theorem ck {c:Prop} [Decidable c] {x:Option (α × H)} (hc:c) (t:Tr l h x Q):Tr l h (ck c x) Q:=by unfold NN.ck;rw [if_pos hc];exact t
theorem ckB {c:Bool} {x:Option (α × H)} (hc:c=true) (t:Tr l h x Q):Tr l h (ckB c x) Q:=by subst hc;exact t
theorem cond {c:Bool} {x y:Option (α × H)} (tx:c=true→Tr l h x Q) (ty:c=false→Tr l h y Q):Tr l h (cond c x y) Q:=by
 cases c
 ·exact ty rfl
 ·exact tx rfl
theorem condT {c:Bool} {x y:Option (α × H)} (hc:c=true) (tx:Tr l h x Q):Tr l h (_root_.cond c x y) Q:=by subst hc;exact tx
theorem condF {c:Bool} {x y:Option (α × H)} (hc:c=false) (ty:Tr l h y Q):Tr l h (_root_.cond c x y) Q:=by subst hc;exact ty
theorem some {v:α} (q:Own h l→Q v h):Tr l h (some (v,h)) Q:=fun o=>⟨v,h,rfl,q o⟩
theorem bnd {β:Type} {x:Option (β × H)} {k:β→H→Option (α × H)} (t:Tr l h x fun v h'=>Wp (k v h') Q):Tr l h (bnd x k) Q:=fun o=>Wp.bnd (t o)
theorem call {C:E0} {f:FuncId} {args:List Value} {p r:List HP} {Φ} {k:Value→H→Option (α × H)} (is:List Nat) (sp:Ct C f args p Φ) (hp:picks is l=.some (p,r))
  (t:∀ v h',(Φ v fun l=>Own h' (l++r))→Wp (k v h') Q):Tr l h (NN.bnd (C f args h) k) Q:=fun o =>
 Wp.bnd ((sp h r (o.picks is hp)).mono t)
theorem run {R:Ab8} {f:FuncId} {todo:List Item} {s:D2} {p r:List HP} {Φ} {Q:Value→H→Prop} (is:List Nat) (sp:CtJ R f todo s p Φ) (hp:picks is l=.some (p,r))
  (t:∀ v h',(Φ v fun l=>Own h' (l++r))→Q v h'):Tr l h (R f todo s h) Q:=fun o =>
 (sp h r (o.picks is hp)).mono t
theorem perm {l':List HP} {x:Option (α × H)} (p:l.Perm l') (t:Tr l' h x Q):Tr l h x Q:=fun o=>t (o.perm p)
theorem J26 {b o:Nat} {e:TypeId} {ro:Bool} {cs:List Value} {v:Value} {i:Nat} (ow:Own h l) (hi:l[i]?=Option.some (pt b (.cells e ro cs))) (hv:cs[o]?=Option.some v):h.get ⟨b,o,none⟩=Option.some v:=by
 have:=ow.ptAt hi;simp [H.get,H.cs,this,hv]
theorem ld {a:Addr} {b o:Nat} {e:TypeId} {ro:Bool} {cs:List Value} {v:Value} {k:Value→Option (α × H)} (i:Nat) (ha:a=⟨b,o,none⟩) (hi:l[i]?=Option.some (pt b (.cells e ro cs))) (hv:cs[o]?=Option.some v)
  (t:Tr l h (k v) Q):Tr l h (ld a h k) Q:=fun ow=>by
 subst ha;unfold NN.ld;rw [J26 ow hi hv];exact t ow
theorem gInt {kk:IntKind} {a:Addr} {b o:Nat} {e:TypeId} {ro:Bool} {cs:List Value} {n:Int} {k:Int→Option (α × H)} (i:Nat) (ha:a=⟨b,o,none⟩) (hi:l[i]?=Option.some (pt b (.cells e ro cs))) (hv:cs[o]?=Option.some (.int kk n))
  (t:Tr l h (k n) Q):Tr l h (gInt kk a h k) Q:=ld i ha hi hv (aInt t)
theorem gBool {a:Addr} {b o:Nat} {e:TypeId} {ro:Bool} {cs:List Value} {n:Bool} {k:Bool→Option (α × H)} (i:Nat) (ha:a=⟨b,o,none⟩) (hi:l[i]?=Option.some (pt b (.cells e ro cs))) (hv:cs[o]?=Option.some (.bool n))
  (t:Tr l h (k n) Q):Tr l h (gBool a h k) Q:=ld i ha hi hv t
theorem gStr {a:Addr} {b o:Nat} {e:TypeId} {ro:Bool} {cs:List Value} {n:ByteArray} {k:ByteArray→Option (α × H)} (i:Nat) (ha:a=⟨b,o,none⟩) (hi:l[i]?=Option.some (pt b (.cells e ro cs))) (hv:cs[o]?=Option.some (.string n))
  (t:Tr l h (k n) Q):Tr l h (gStr a h k) Q:=ld i ha hi hv t
theorem gPtr {a:Addr} {b o:Nat} {e:TypeId} {ro:Bool} {cs:List Value} {n:Option Addr} {k:Option Addr→Option (α × H)} (i:Nat) (ha:a=⟨b,o,none⟩) (hi:l[i]?=Option.some (pt b (.cells e ro cs))) (hv:cs[o]?=Option.some (.pointer n))
  (t:Tr l h (k n) Q):Tr l h (gPtr a h k) Q:=ld i ha hi hv t
theorem gSl {a:Addr} {b o:Nat} {e:TypeId} {ro:Bool} {cs:List Value} {s:Option Addr} {n c:Nat} {k:Option Addr→Nat→Nat→Option (α × H)} (i:Nat) (ha:a=⟨b,o,none⟩) (hi:l[i]?=Option.some (pt b (.cells e ro cs))) (hv:cs[o]?=Option.some (.slice s n c))
  (t:Tr l h (k s n c) Q):Tr l h (gSl a h k) Q:=ld i ha hi hv t
theorem gMap {a:Addr} {b o:Nat} {e:TypeId} {ro:Bool} {cs:List Value} {n:Option Nat} {k:Option Nat→Option (α × H)} (i:Nat) (ha:a=⟨b,o,none⟩) (hi:l[i]?=Option.some (pt b (.cells e ro cs))) (hv:cs[o]?=Option.some (.map n))
  (t:Tr l h (k n) Q):Tr l h (gMap a h k) Q:=ld i ha hi hv t
theorem gFv {a:Addr} {b o:Nat} {e:TypeId} {ro:Bool} {cs:List Value} {fn:Fn} {x y:Array Value} {k:Value→Option (α × H)} (i:Nat) (ha:a=⟨b,o,none⟩) (hi:l[i]?=Option.some (pt b (.cells e ro cs))) (hv:cs[o]?=Option.some (.func fn x y))
  (t:Tr l h (k (.func fn x y)) Q):Tr l h (gFv a h k) Q:=ld i ha hi hv t
theorem gAgg {a:Addr} {b o n:Nat} {e:TypeId} {ro:Bool} {cs:List Value} {k:List Value→Option (α × H)} (i:Nat) (ha:a=⟨b,o,none⟩) (hi:l[i]?=Option.some (pt b (.cells e ro cs))) (hn:o+n≤cs.length)
  (t:Tr l h (k ((cs.drop o).take n)) Q):Tr l h (gAgg a n h k) Q:=fun ow=>by
 subst ha;have:=ow.ptAt hi;simp only [NN.gAgg,H.cs,this,if_pos hn];exact t ow
theorem J98 {a:Addr} {b o n:Nat} {e:TypeId} {ro:Bool} {cs xs:List Value} {k:List Value→Option (α × H)} (i:Nat) (ha:a=⟨b,o,none⟩) (hi:l[i]?=Option.some (pt b (.cells e ro cs))) (hn:o+n≤cs.length) (hx:(cs.drop o).take n=xs)
  (t:Tr l h (k xs) Q):Tr l h (NN.gAgg a n h k) Q:=gAgg i ha hi hn (by rw [hx];exact t)
theorem nw {x:Blk} {k:Nat→H→Option (α × H)} (t:∀ b h',Tr (pt b x::l) h' (k b h') Q):Tr l h (nw x h k) Q:=fun ow=>t _ _ (ow.push x)
theorem pV {a:Addr} {b o:Nat} {e:TypeId} {cs:List Value} {v:Value} {k:H→Option (α × H)} (i:Nat) (ha:a=⟨b,o,none⟩) (hi:l[i]?=Option.some (pt b (.cells e false cs))) (ho:o<cs.length) (hv:v.oneCell=true)
  (t:∀ h',Tr (l.set i (pt b (.cells e false (cs.set o v)))) h' (k h') Q):Tr l h (pV a v h k) Q:=fun ow=>by
 subst ha;have:=ow.ptAt hi;simp only [NN.pV,H.put,this,hv,if_pos ho];exact t _ (ow.set_at _ hi)
theorem pAgg {a:Addr} {b o:Nat} {e:TypeId} {cs vs:List Value} {k:H→Option (α × H)} (i:Nat) (ha:a=⟨b,o,none⟩) (hi:l[i]?=Option.some (pt b (.cells e false cs))) (ho:o+vs.length≤cs.length) (hv:vs.all Value.oneCell=true)
  (t:∀ h',Tr (l.set i (pt b (.cells e false (cs.take o++vs++cs.drop (o+vs.length))))) h' (k h') Q):Tr l h (pAgg a vs h k) Q:=fun ow=>by
 subst ha;have:=ow.ptAt hi;simp only [NN.pAgg,H.putAll,this,if_pos (And.intro ho hv)];exact t _ (ow.set_at _ hi)
theorem nth {cs:List Value} {o:Nat} {v:Value} {k:Value→Option (α × H)} (hv:cs[o]?=Option.some v) (t:Tr l h (k v) Q):Tr l h (nth cs o k) Q:=by unfold NN.nth;rw [hv];exact t
theorem opt {β:Type} {x:Option β} {v:β} {k:β→Option (α × H)} (hx:x=Option.some v) (t:Tr l h (k v) Q):Tr l h (opt x k) Q:=by subst hx;exact t
theorem mapAt {r:Nat} {es:List MapEntry} {cl:Nat} {k:List MapEntry→Nat→Option (α × H)} (i:Nat) (hi:l[i]?=Option.some (pt r (.map es cl))) (t:Tr l h (k es cl) Q):Tr l h (mapAt h r k) Q:=fun ow=>by
 have:=ow.ptAt hi;simp only [NN.mapAt,this];exact t ow
theorem setMap {r:Nat} {x y:Blk} {k:H→Option (α × H)} (i:Nat) (hi:l[i]?=Option.some (pt r x)) (t:∀ h',Tr (l.set i (pt r y)) h' (k h') Q):Tr l h (NN.lt (H.set h r y) k) Q:=fun ow=>t _ (ow.set_at _ hi)
theorem same {v:Value} {k:Option (α × H)} (hv:Ay9 v v=true) (t:Tr l h k Q):Tr l h (same v v k) Q:=by unfold NN.same;rw [hv];exact t
theorem asBytes {cs:List Value} {b:List UInt8} {k:List UInt8→Option (α × H)} (hb:Bz3 cs=Option.some b) (t:Tr l h (k b) Q):Tr l h (asBytes cs k) Q:=by unfold NN.asBytes;rw [hb];exact t
theorem keyN {P:Program} {t':TypeId} {key:Value} {k:Option (α × H)} (hk:∀ {β:Type} (x:Option β),NN.keyN P t' key x=x) (t:Tr l h k Q):Tr l h (NN.keyN P t' key k) Q:=by rw [hk];exact t
end Tr
theorem B28:∀ (l:List UInt8),Bz3 (A0 l)=some l
 | []=>rfl
 | b::l=>by
  have:=B28 l;simp only [A0,List.map_cons,Bz3] at this ⊢;rw [this];simp
theorem A20 (l:List UInt8):(A0 l).length=l.length:=by simp [A0]
theorem Ad5 (a b:List UInt8):A0 (a++b)=A0 a++A0 b:=by simp [A0]
structure SlOk (ro:Bool) (sz o:Nat) (sp:Option Nat) (n c:Nat) (pre cs post:List Value):Prop where
 len:n*sz=cs.length
 le:n≤c
 room:(c-n)*sz≤post.length
 off:0<c→o=pre.length
 opn:sp≠none→ro=false
 pos:0<sz
 off0:c=0→o≤pre.length
def slX (ro:Bool) (e:TypeId) (sz:Nat) (a:Option Addr) (n c:Nat) (pq:List Value × List Value) (cs:List Value):HP :=
 match a with
 | none=>pu (n=0∧c=0∧cs=[]∧0<sz)
 | some ⟨b,o,sp⟩=>Jo8 (pt b (.cells e ro (pq.1++cs++pq.2))) (pu (n*sz=cs.length∧n≤c∧(c-n)*sz≤pq.2.length∧(0<c→o=pq.1.length)∧(sp≠none→ro=false)∧0<sz∧(c=0→o≤pq.1.length)))
def slC (ro:Bool) (e:TypeId) (sz:Nat) (a:Option Addr) (n c:Nat) (cs:List Value):HP:=hex fun pq=>slX ro e sz a n c pq cs
section slices
variable {l:List HP} {h:H} {α:Type} {Q:α→H→Prop} {ro:Bool} {e:TypeId} {sz:Nat}
theorem Own.slOpen {b o:Nat} {sp:Option Nat} {n c:Nat} {cs:List Value} {r:List HP} (ow:Own h (slC ro e sz (some ⟨b,o,sp⟩) n c cs::r)) :
  ∃ pre post,Own h (pt b (.cells e ro (pre++cs++post))::r)∧n*sz=cs.length∧n≤c∧(c-n)*sz≤post.length∧(0<c→o=pre.length)∧(sp≠none→ro=false)∧0<sz∧(c=0→o≤pre.length):=by
 obtain ⟨⟨pre,post⟩,o1⟩:=Own.ex ow;have o2:=Own.star2 o1;have hp:=(o2.perm (List.Perm.swap _ _ _)).pure;exact ⟨pre,post,(o2.perm (List.Perm.swap _ _ _)).tail,hp⟩
theorem Own.slShut {b o:Nat} {sp:Option Nat} {n c:Nat} {cs pre post:List Value} {r:List HP} (ow:Own h (pt b (.cells e ro (pre++cs++post))::r)) (hp:n*sz=cs.length∧n≤c∧(c-n)*sz≤post.length∧(0<c→o=pre.length)∧(sp≠none→ro=false)∧0<sz∧(c=0→o≤pre.length)) :
  Own h (slC ro e sz (some ⟨b,o,sp⟩) n c cs::r) :=
 Own.inex (f:=fun pq:List Value × List Value=>slX ro e sz (some ⟨b,o,sp⟩) n c pq cs) (pre,post)
  (Own.unstar ((Own.inpure hp ow).perm (List.Perm.swap _ _ _)))
theorem Own.slNone {n c:Nat} {cs:List Value} {r:List HP} (ow:Own h (slC ro e sz none n c cs::r)):n=0∧c=0∧cs=[]∧0<sz:=by
 obtain ⟨pq,o1⟩:=Own.ex ow;exact Own.pure o1
theorem Own.slLen {a:Option Addr} {n c:Nat} {cs:List Value} {r:List HP} (ow:Own h (slC ro e sz a n c cs::r)):n*sz=cs.length∧n≤c∧0<sz:=by
 cases a with
 | none=>obtain ⟨rfl,rfl,rfl,h1⟩:=Own.slNone ow;simp [h1]
 | some a=>obtain ⟨b,o,sp⟩:=a;obtain ⟨_,_,_,h1,h2,_,_,_,h3,_⟩:=ow.slOpen;exact ⟨h1,h2,h3⟩
theorem Own.slSome {a:Option Addr} {n c:Nat} {cs:List Value} {r:List HP} (ow:Own h (slC ro e sz a n c cs::r)) (hne:0<n):∃ x,a=some x:=by
 cases a with
 | none=>obtain ⟨rfl,_,_⟩:=Own.slNone ow;omega
 | some a=>exact ⟨a,rfl⟩
namespace Tr
theorem Ka2 {x y:Addr} {n c j:Nat} {cs:List Value} {v:Value} (i:Nat) (ow:Own h l) (hi:l[i]?=Option.some (slC ro e sz (Option.some x) n c cs)) (hy:y=(B4 x).add j) (hv:cs[j]?=Option.some v):h.get y=Option.some v:=by
 obtain ⟨b,o,sp⟩:=x;obtain ⟨pre,post,o2,h1,h2,h3,h4,h5,h6,h7⟩:=(ow.front hi).slOpen;have hlt:=(List.getElem?_eq_some_iff.1 hv).1
 have hn:0<n:=by
  rcases Nat.eq_zero_or_pos n with rfl|hn
  ·simp at h1;omega
  ·exact hn
 have ho:=h4 (by omega);have:=o2.ptGet;subst hy;simp only [B4,Dl2,H.get,H.cs,this];rw [ho,List.append_assoc,List.getElem?_append_right (by omega),List.getElem?_append_left (by omega)];simpa using hv
theorem J74 {x y:Addr} {n c j m:Nat} {cs xs:List Value} {k:List Value→Option (α × H)} (i:Nat) (hi:l[i]?=Option.some (slC ro e sz (Option.some x) n c cs)) (hy:y=(B4 x).add j) (hm:0<m) (hn:j+m≤cs.length) (hx:(cs.drop j).take m=xs) (t:Tr l h (k xs) Q):Tr l h (NN.gAgg y m h k) Q:=fun ow=>by
 obtain ⟨b,o,sp⟩:=x;obtain ⟨pre,post,o2,h1,h2,h3,h4,h5,h6,h7⟩:=(ow.front hi).slOpen
 have hn':0<n:=by
  rcases Nat.eq_zero_or_pos n with rfl|hn
  ·simp at h1;omega
  ·exact hn
 have ho:=h4 (by omega);have:=o2.ptGet;subst hy hx;simp only [B4,Dl2,NN.gAgg,H.cs,this];rw [if_pos (by simp;omega),ho]
 have e1:List.take m (List.drop (pre.length+j) (pre++cs++post))=List.take m (List.drop j cs):=by
  rw [List.append_assoc,← List.drop_drop,List.drop_left,List.drop_append_of_le_length (by omega),List.take_append_of_le_length (by simp;omega)]
 rw [e1];exact t ow
theorem Jp8 {a:Option Addr} {n c m:Nat} {cs:List Value} {k:List Value→Option (α × H)} (i:Nat) (hi:l[i]?=Option.some (slC ro e sz a n c cs)) (hm:m=n*sz) (t:Tr l h (k cs) Q):Tr l h (NN.gCells a m h k) Q:=fun ow=>by
 subst hm
 cases a with
 | none =>
  obtain ⟨rfl,rfl,rfl,_⟩:=Own.slNone (ow.front hi);simp only [NN.gCells,Nat.zero_mul];exact t ow
 | some x =>
  obtain ⟨b,o,sp⟩:=x;obtain ⟨pre,post,o2,h1,h2,h3,h4,h5,h6,h7⟩:=(ow.front hi).slOpen;have:=o2.ptGet
  have ho:o≤pre.length:=by
   rcases Nat.eq_zero_or_pos c with rfl|hc
   ·exact h7 rfl
   ·exact Nat.le_of_eq (h4 hc)
  have hle:o+n*sz≤(pre++cs++post).length:=by simp;omega
  rw [Go3 this hle]
  have e1:List.take (n*sz) (List.drop o (pre++cs++post))=cs:=by
   rcases Nat.eq_zero_or_pos c with rfl|hc
   ·have:n=0:=by omega
    subst this;simp at h1;have:cs=[]:=List.eq_nil_of_length_eq_zero (by omega);subst this;simp
   ·rw [h4 hc,List.append_assoc,List.drop_left,h1];simp
  rw [e1];exact t ow
theorem pVSl {x y:Addr} {n c j:Nat} {cs:List Value} {v:Value} {k:H→Option (α × H)} (i:Nat) (hi:l[i]?=Option.some (slC false e sz (Option.some x) n c cs)) (hy:y=(B4 x).add j) (hj:j<cs.length) (hv:v.oneCell=true)
  (t:∀ h',Tr (l.set i (slC false e sz (Option.some x) n c (cs.set j v))) h' (k h') Q):Tr l h (NN.pV y v h k) Q:=fun ow=>by
 obtain ⟨b,o,sp⟩:=x;obtain ⟨pre,post,o2,h1,h2,h3,h4,h5,h6,h7⟩:=(ow.front hi).slOpen
 have hn':0<n:=by
  rcases Nat.eq_zero_or_pos n with rfl|hn
  ·simp at h1;omega
  ·exact hn
 have ho:=h4 (by omega);have hb:=o2.ptGet;subst hy;simp only [B4,Dl2,NN.pV,H.put,hb,hv];rw [if_pos (by simp;omega)]
 have e1:List.set (pre++cs++post) (o+j) v=pre++cs.set j v++post:=by
  rw [ho,List.append_assoc,List.set_append_right _ _ (by omega),List.set_append_left _ _ (by omega)];simp
 rw [e1];have o3:=Own.set_front (.cells e false (pre++cs.set j v++post)) o2;exact t _ (Own.back (h:=h) hi (Own.slShut (sz:=sz) (n:=n) (c:=c) o3 ⟨by simpa using h1,h2,h3,h4,h5,h6,h7⟩))
theorem J52 {x y:Addr} {n c j:Nat} {cs vs:List Value} {k:H→Option (α × H)} (i:Nat) (hi:l[i]?=Option.some (slC false e sz (Option.some x) n c cs)) (hy:y=(B4 x).add j) (hne:vs≠[]) (hj:j+vs.length≤cs.length) (hv:vs.all Value.oneCell=true)
  (t:∀ h',Tr (l.set i (slC false e sz (Option.some x) n c (cs.take j++vs++cs.drop (j+vs.length)))) h' (k h') Q):Tr l h (NN.pAgg y vs h k) Q:=fun ow=>by
 obtain ⟨b,o,sp⟩:=x;obtain ⟨pre,post,o2,h1,h2,h3,h4,h5,h6,h7⟩:=(ow.front hi).slOpen;have hvl:0<vs.length:=List.length_pos_iff.2 hne
 have hn':0<n:=by
  rcases Nat.eq_zero_or_pos n with rfl|hn
  ·simp at h1;omega
  ·exact hn
 have ho:=h4 (by omega);have hb:=o2.ptGet;subst hy;simp only [B4,Dl2,NN.pAgg,H.putAll,hb];rw [if_pos ⟨by simp;omega,hv⟩]
 have e1:List.take (o+j) (pre++cs++post)++vs++List.drop (o+j+vs.length) (pre++cs++post)=pre++(cs.take j++vs++cs.drop (j+vs.length))++post:=by
  rw [ho,List.append_assoc pre,List.take_append,List.drop_append];have:pre.length+j+vs.length-pre.length=j+vs.length:=by omega
  rw [this,List.drop_append_of_le_length hj,List.drop_eq_nil_of_le (by omega:pre.length≤pre.length+j+vs.length),List.take_of_length_le (by omega)];have:pre.length+j-pre.length=j:=by omega
  rw [this,List.take_append_of_le_length (by omega)];simp
 rw [e1];have o3:=Own.set_front (.cells e false (pre++(cs.take j++vs++cs.drop (j+vs.length))++post)) o2;exact t _ (Own.back (h:=h) hi (Own.slShut (sz:=sz) (n:=n) (c:=c) o3 ⟨by simp;omega,h2,h3,h4,h5,h6,h7⟩))
theorem apd {a:Option Addr} {n c m:Nat} {cs new:List Value} {k:Option Addr→Nat→Nat→H→Option (α × H)} (i:Nat) (hi:l[i]?=Option.some (slC false e sz a n c cs)) (hm:new.length=m*sz) (hv:new.all Value.oneCell=true) (hs:n+m≤B3)
  (t:∀ a' c' h',Tr (l.set i (slC false e sz a' (n+m) c' (cs++new))) h' (k a' (n+m) c' h') Q):Tr l h (NN.apd e sz a n c m new h k) Q:=fun ow=>by
 have of:=ow.front hi;obtain ⟨g1,g2,g3⟩:=of.slLen
 cases m with
 | zero =>
  simp only [NN.apd,E27];have:new=[]:=List.eq_nil_of_length_eq_zero (by simpa using hm);subst this;have t1:=t a c h;simp only [Nat.add_zero,List.append_nil] at t1;exact t1 (Own.back (h:=h) hi of)
 | succ m =>
  simp only [NN.apd,E27];by_cases hfit:n+(m+1)≤c
  ·rw [decide_eq_true hfit]
   obtain ⟨x,rfl⟩:∃ x,a=Option.some x:=by
    cases a with
    | none=>obtain ⟨rfl,rfl,_⟩:=Own.slNone of;omega
    | some x=>exact ⟨x,rfl⟩
   obtain ⟨b,o,sp⟩:=x;obtain ⟨pre,post,o2,h1,h2,h3,h4,h5,h6,h7⟩:=of.slOpen;have ho:=h4 (by omega);have hb:=o2.ptGet;have hlen:(m+1)*sz≤post.length:=Nat.le_trans (Nat.mul_le_mul_right sz (by omega)) h3;simp only [B4,Dl2,H.putAll,hb];rw [if_pos ⟨by simp;omega,hv⟩]
   have e1:List.take (o+n*sz) (pre++cs++post)++new++List.drop (o+n*sz+new.length) (pre++cs++post)=pre++(cs++new)++post.drop new.length:=by
    have e2:o+n*sz=(pre++cs).length:=by simp;omega
    rw [e2,List.take_left',List.drop_append]
    ·simp
    ·rfl
   rw [e1];have o3:=Own.set_front (.cells e false (pre++(cs++new)++post.drop new.length)) o2;refine t (Option.some ⟨b,o,sp⟩) c _ (Own.back (h:=h) hi (Own.slShut (sz:=sz) (n:=n+(m+1)) (c:=c) o3 ⟨?_,hfit,?_,h4,h5,h6,h7⟩))
   ·rw [Nat.add_mul,List.length_append];omega
   ·have:(c-n)*sz=(c-(n+(m+1)))*sz+(m+1)*sz:=by rw [← Nat.add_mul];congr 1;omega
    rw [List.length_drop];omega
  ·rw [decide_eq_false hfit,decide_eq_true hs,hv]
   have key:∀ (h1:H),Own h1 (l.eraseIdx i)→(∀ k:List Value→Option ((Option Addr × Nat × Nat) × H),NN.gCells a (n*sz) h k=k cs)→∀ v,v=Option.some ((Option.some (Q0 h.next),n+(m+1),n+(m+1)),h1.push (.cells e false (cs++new)))→h1.next=h.next →
     Wp (match v with|Option.some ((a,n,c),h)=>k a n c h|Option.none=>Option.none) Q:=by
    intro h1 o1 hg v hv2 hnx;subst hv2
    have o4:Own (h1.push (.cells e false (cs++new))) (pt h.next (.cells e false ([]++(cs++new)++[]))::l.eraseIdx i):=by
     have:=o1.push (.cells e false (cs++new));rw [hnx] at this;simpa using this
    refine t (Option.some (Q0 h.next)) (n+(m+1)) _ (Own.back (h:=h) hi (Own.slShut (sz:=sz) (n:=n+(m+1)) (c:=n+(m+1)) o4 ⟨?_,Nat.le_refl _,by simp,by simp [Q0],by simp,g3,by simp [Q0]⟩));rw [Nat.add_mul,List.length_append];omega
   have hg:∀ k:List Value→Option ((Option Addr × Nat × Nat) × H),NN.gCells a (n*sz) h k=k cs:=by
    intro k
    cases a with
    | none=>obtain ⟨rfl,rfl,rfl,_⟩:=Own.slNone of;simp [NN.gCells]
    | some x =>
     obtain ⟨b,o,sp⟩:=x;obtain ⟨pre,post,o2,h1,h2,h3,h4,h5,h6,h7⟩:=of.slOpen;have:=o2.ptGet
     have ho:o≤pre.length:=by
      rcases Nat.eq_zero_or_pos c with rfl|hc
      ·exact h7 rfl
      ·exact Nat.le_of_eq (h4 hc)
     have hle:o+n*sz≤(pre++cs++post).length:=by simp;omega
     rw [Go3 this hle]
     have e1:List.take (n*sz) (List.drop o (pre++cs++post))=cs:=by
      rcases Nat.eq_zero_or_pos c with rfl|hc
      ·have:n=0:=by omega
       subst this;simp at h1;have:cs=[]:=List.eq_nil_of_length_eq_zero (by omega);subst this;simp
      ·rw [h4 hc,List.append_assoc,List.drop_left,h1];simp
     rw [e1]
   simp only [hg,Bool.and_self,Bool.and_true]
   split
   ·rename_i b o f
    obtain ⟨pre,post,o2,_⟩:=of.slOpen;refine key (h.set b .dead) ?_ hg _ rfl rfl;exact (Own.set_front .dead o2).tail
   ·exact key h of.tail hg _ rfl rfl
theorem fitsOpen {a:Option Addr} {n c:Nat} {cs:List Value} (i:Nat) (ow:Own h l) (hi:l[i]?=Option.some (slC ro e sz a n c cs)):NN.fitsOpen a e h=true:=by
 cases a with
 | none=>rfl
 | some x =>
  obtain ⟨b,o,sp⟩:=x;obtain ⟨pre,post,o2,h1,h2,h3,h4,h5,h6,h7⟩:=(ow.front hi).slOpen
  cases sp with
  | none=>rfl
  | some f =>
   have:=o2.ptGet;have hr:=h5 (by simp);subst hr;simp only [NN.fitsOpen,this,Nat.beq_refl];rfl
end Tr
theorem Own.slNil {r:List HP} (ro:Bool) (e:TypeId) (hs:0<sz) (ow:Own h r):Own h (slC ro e sz none 0 0 []::r):=Own.inex (f:=fun pq=>slX ro e sz none 0 0 pq []) ([],[]) (Own.inpure ⟨rfl,rfl,rfl,hs⟩ ow)
theorem Own.slNew {r:List HP} {b n:Nat} {cs:List Value} (hs:0<sz) (hn:n*sz=cs.length) (ow:Own h (pt b (.cells e ro cs)::r)):Own h (slC ro e sz (some ⟨b,0,none⟩) n n cs::r) :=
 Own.slShut (pre:=[]) (post:=[]) (by simpa using ow) ⟨hn,Nat.le_refl _,by simp,by simp,by simp,hs,by simp⟩
end slices
end Go.NN
namespace Go.NN
theorem Tr.eq {l:List HP} {h:H} {α:Type} {Q:α→H→Prop} {x y:Option (α × H)} (e:x=y) (t:Tr l h y Q):Tr l h x Q:=by rw [e];exact t
theorem Ct.of {P:Program} {cutsOf:FuncId→Cuts} {f:FuncId} {fn:Func} {C:Cuts} {T:List Item} {n:Nat} (k:FnOk P cutsOf f fn C T n) {args:List Value} {p:List HP} {Φ} (hl:args.length=n)
  (t:∀ h r,Tr (p++r) h (Z0 P C (Call P cutsOf) (Jump P cutsOf) f fn 100000 true T (At2 0 args) h) fun v h'=>Φ v fun l=>Own h' (l++r)):Ct (Call P cutsOf) f args p Φ:=fun h r o=>by
 obtain ⟨v,h',e,q⟩:=t h r o;exact ⟨v,h',k.call hl e,q⟩
theorem CtJ.of {P:Program} {cutsOf:FuncId→Cuts} {f:FuncId} {fn:Func} {C:Cuts} {T:List Item} {n:Nat} (k:FnOk P cutsOf f fn C T n) {todo:List Item} {s:D2} {p:List HP} {Φ}
  (t:∀ h r,Tr (p++r) h (Z0 P C (Call P cutsOf) (Jump P cutsOf) f fn 100000 true todo s h) fun v h'=>Φ v fun l=>Own h' (l++r)):CtJ (Jump P cutsOf) f todo s p Φ:=fun h r o=>by
 obtain ⟨v,h',e,q⟩:=t h r o;exact ⟨v,h',k.jump e,q⟩
class Lk (l:List HP) (b:Nat) (e:outParam TypeId) (ro:outParam Bool) (cs:outParam (List Value)):Prop where
 ix:∃ i:Nat,l[i]?=some (pt b (.cells e ro cs))
instance Lk.here {l:List HP} {b:Nat} {e:TypeId} {ro:Bool} {cs:List Value}:Lk (pt b (.cells e ro cs)::l) b e ro cs:=⟨0,rfl⟩
instance (priority:=low) Lk.there {l:List HP} {p:HP} {b:Nat} {e:TypeId} {ro:Bool} {cs:List Value} [k:Lk l b e ro cs]:Lk (p::l) b e ro cs:=⟨let ⟨i,hi⟩:=k.ix;⟨i+1,by simpa using hi⟩⟩
class Up (l:List HP) (b:Nat) (x:Blk) (l':outParam (List HP)):Prop where
 ix:∃ (i:Nat) (y:Blk),l[i]?=some (pt b y)∧l'=l.set i (pt b x)
instance Up.here {l:List HP} {b:Nat} {x y:Blk}:Up (pt b y::l) b x (pt b x::l):=⟨0,y,rfl,rfl⟩
instance (priority:=low) Up.there {l l':List HP} {p:HP} {b:Nat} {x:Blk} [k:Up l b x l']:Up (p::l) b x (p::l'):=⟨let ⟨i,y,hi,hl⟩:=k.ix;⟨i+1,y,by simpa using hi,by simp [hl]⟩⟩
class IsSl (p:HP) (a:outParam (Option Addr)) (ro:outParam Bool) (e:outParam TypeId) (sz n c:outParam Nat) (cs:outParam (List Value)):Prop where
 en:∀ m,p m→slC ro e sz a n c cs m
instance {a:Option Addr} {ro:Bool} {e:TypeId} {sz n c:Nat} {cs:List Value}:IsSl (slC ro e sz a n c cs) a ro e sz n c cs:=⟨fun _ h=>h⟩
instance {a:Option Addr} {ro:Bool} {e:TypeId} {sz n c:Nat} {pq:List Value × List Value} {cs:List Value}:IsSl (slX ro e sz a n c pq cs) a ro e sz n c cs:=⟨fun _ h=>⟨pq,h⟩⟩
class LkO (l:List HP) (a:Option Addr) (ro:outParam Bool) (e:outParam TypeId) (sz n c:outParam Nat) (cs:outParam (List Value)):Prop where
 ix:∃ (i:Nat) (p:HP),l[i]?=some p∧∀ m,p m→slC ro e sz a n c cs m
instance LkO.here {l:List HP} {p:HP} {a:Option Addr} {ro:Bool} {e:TypeId} {sz n c:Nat} {cs:List Value} [k:IsSl p a ro e sz n c cs]:LkO (p::l) a ro e sz n c cs:=⟨0,p,rfl,k.en⟩
instance (priority:=low) LkO.there {l:List HP} {p:HP} {a:Option Addr} {ro:Bool} {e:TypeId} {sz n c:Nat} {cs:List Value} [k:LkO l a ro e sz n c cs]:LkO (p::l) a ro e sz n c cs:=⟨let ⟨i,q,hi,hp⟩:=k.ix;⟨i+1,q,by simpa using hi,hp⟩⟩
theorem Own.weak {h:H} {l:List HP} {i:Nat} {p q:HP} (o:Own h l) (hi:l[i]?=some p) (hpq:∀ m,p m→q m):Own h (l.set i q) :=
 Own.back (h:=h) hi ((o.front hi).head hpq)
theorem Gr2 {l:List HP} {i:Nat} {p q:HP} (hi:l[i]?=some p):(l.set i q)[i]?=some q:=by
 obtain ⟨hlt,_⟩:=List.getElem?_eq_some_iff.1 hi;simp [hlt]
class UpO (l:List HP) (a:Option Addr) (q:HP) (e:outParam TypeId) (sz n c:outParam Nat) (cs:outParam (List Value)) (l':outParam (List HP)):Prop where
 ix:∃ i:Nat,l[i]?=some (slC false e sz a n c cs)∧l'=l.set i q
instance UpO.here {l:List HP} {q:HP} {a:Option Addr} {e:TypeId} {sz n c:Nat} {cs:List Value}:UpO (slC false e sz a n c cs::l) a q e sz n c cs (q::l):=⟨0,rfl,rfl⟩
instance (priority:=low) UpO.there {l l':List HP} {p q:HP} {a:Option Addr} {e:TypeId} {sz n c:Nat} {cs:List Value} [k:UpO l a q e sz n c cs l']:UpO (p::l) a q e sz n c cs (p::l'):=⟨let ⟨i,hi,hl⟩:=k.ix;⟨i+1,by simpa using hi,by simp [hl]⟩⟩
class HoleO (l:List HP) (a:Option Addr) (e:outParam TypeId) (sz n c:outParam Nat) (cs:outParam (List Value)) (f:outParam (HP→List HP)):Prop where
 ix:∃ i:Nat,l[i]?=some (slC false e sz a n c cs)∧∀ q,f q=l.set i q
instance HoleO.here {l:List HP} {a:Option Addr} {e:TypeId} {sz n c:Nat} {cs:List Value}:HoleO (slC false e sz a n c cs::l) a e sz n c cs (fun q=>q::l):=⟨0,rfl,fun _=>rfl⟩
instance (priority:=low) HoleO.there {l:List HP} {p:HP} {a:Option Addr} {e:TypeId} {sz n c:Nat} {cs:List Value} {f:HP→List HP} [k:HoleO l a e sz n c cs f]:HoleO (p::l) a e sz n c cs (fun q=>p::f q):=⟨let ⟨i,hi,hl⟩:=k.ix;⟨i+1,by simpa using hi,fun q=>by simp [hl]⟩⟩
class Take (p:HP) (l:List HP) (r:outParam (List HP)):Prop where
 pm:l.Perm (p::r)
instance Take.here {p:HP} {l:List HP}:Take p (p::l) l:=⟨.refl _⟩
instance (priority:=low) Take.there {p q:HP} {l r:List HP} [k:Take p l r]:Take p (q::l) (q::r):=⟨(List.Perm.cons q k.pm).trans (.swap _ _ _)⟩
class Takes (p l:List HP) (r:outParam (List HP)):Prop where
 pm:l.Perm (p++r)
instance Takes.nil {l:List HP}:Takes [] l l:=⟨.refl _⟩
instance Takes.cons {p:HP} {ps l r r':List HP} [k:Take p l r] [ks:Takes ps r r']:Takes (p::ps) l r':=⟨k.pm.trans (.cons p ks.pm)⟩
class SubL (l l':List HP):Prop where
 to:∀ h,Own h l→Own h l'
instance (priority:=high) SubL.refl {l:List HP}:SubL l l:=⟨fun _ o=>o⟩
instance SubL.cons {p:HP} {l l' r:List HP} [k:Take p l r] [s:SubL r l']:SubL l (p::l'):=⟨fun h o=>by
 obtain ⟨w,o2⟩:=o.perm k.pm;obtain ⟨a,b,d,ha,hb,hp,hl⟩:=o2
 exact ⟨w,a,b,d,ha,hb,hp,by
  have hb2:∀ i,h.next≤i→b i=none:=fun i hi=>by
   cases hx:b i with
   | none=>rfl
   | some x=>have:=hb i x hx;rw [w i hi] at this;cases this
  exact (s.to ⟨b,h.next⟩ ⟨hb2,hl⟩).own⟩⟩
instance (priority:=low) SubL.drop {p:HP} {l l':List HP} [s:SubL l l']:SubL (p::l) l':=⟨fun h o=>s.to h o.tail⟩
instance SubL.app {p:HP} {l r l':List HP} [s:SubL (p::(l++r)) l']:SubL ((p::l)++r) l':=⟨fun h o=>s.to h o⟩
instance SubL.app0 {r l':List HP} [s:SubL r l']:SubL ([]++r) l':=⟨fun h o=>s.to h o⟩
instance SubL.tapp {p:HP} {l r l':List HP} [s:SubL l (p::(l'++r))]:SubL l ((p::l')++r):=⟨fun h o=>s.to h o⟩
instance SubL.tapp0 {l r:List HP} [s:SubL l r]:SubL l ([]++r):=⟨fun h o=>s.to h o⟩
instance Take.app {p q:HP} {l r r':List HP} [k:Take p (q::(l++r)) r']:Take p ((q::l)++r) r':=⟨k.pm⟩
instance Take.app0 {p:HP} {r r':List HP} [k:Take p r r']:Take p ([]++r) r':=⟨k.pm⟩
instance Take.assoc {p:HP} {a b c r':List HP} [k:Take p (a++(b++c)) r']:Take p ((a++b)++c) r':=⟨by rw [List.append_assoc];exact k.pm⟩
instance Takes.papp {p:HP} {l r l1 l2:List HP} [k:Takes (p::(l++r)) l1 l2]:Takes ((p::l)++r) l1 l2:=⟨k.pm⟩
instance Takes.papp0 {r l1 l2:List HP} [k:Takes r l1 l2]:Takes ([]++r) l1 l2:=⟨k.pm⟩
instance SubL.assoc {a b c l':List HP} [s:SubL (a++(b++c)) l']:SubL ((a++b)++c) l':=⟨fun h o=>s.to h (by rw [← List.append_assoc];exact o)⟩
instance SubL.tassoc {l a b c:List HP} [s:SubL l (a++(b++c))]:SubL l ((a++b)++c):=⟨fun h o=>by rw [List.append_assoc];exact s.to h o⟩
theorem Own.sub {h:H} {l l':List HP} (o:Own h l) [s:SubL l l']:Own h l':=s.to h o
namespace Tr
variable {l:List HP} {h:H} {α:Type} {Q:α→H→Prop} {b o:Nat} {e:TypeId} {ro:Bool} {cs:List Value}
theorem xInt {kk:IntKind} {n:Int} {k:Int→Option (α × H)} [k1:Lk l b e ro cs] (hv:cs[o]?=Option.some (.int kk n)) (t:Tr l h (k n) Q):Tr l h (NN.gInt kk ⟨b,o,none⟩ h k) Q :=
 let ⟨i,hi⟩:=k1.ix;gInt i rfl hi hv t
theorem xBool {n:Bool} {k:Bool→Option (α × H)} [k1:Lk l b e ro cs] (hv:cs[o]?=Option.some (.bool n)) (t:Tr l h (k n) Q):Tr l h (NN.gBool ⟨b,o,none⟩ h k) Q :=
 let ⟨i,hi⟩:=k1.ix;gBool i rfl hi hv t
theorem xStr {n:ByteArray} {k:ByteArray→Option (α × H)} [k1:Lk l b e ro cs] (hv:cs[o]?=Option.some (.string n)) (t:Tr l h (k n) Q):Tr l h (NN.gStr ⟨b,o,none⟩ h k) Q :=
 let ⟨i,hi⟩:=k1.ix;gStr i rfl hi hv t
theorem xPtr {n:Option Addr} {k:Option Addr→Option (α × H)} [k1:Lk l b e ro cs] (hv:cs[o]?=Option.some (.pointer n)) (t:Tr l h (k n) Q):Tr l h (NN.gPtr ⟨b,o,none⟩ h k) Q :=
 let ⟨i,hi⟩:=k1.ix;gPtr i rfl hi hv t
theorem xSl {a:Option Addr} {n c:Nat} {k:Option Addr→Nat→Nat→Option (α × H)} [k1:Lk l b e ro cs] (hv:cs[o]?=Option.some (.slice a n c)) (t:Tr l h (k a n c) Q):Tr l h (NN.gSl ⟨b,o,none⟩ h k) Q :=
 let ⟨i,hi⟩:=k1.ix;gSl i rfl hi hv t
theorem xMap {n:Option Nat} {k:Option Nat→Option (α × H)} [k1:Lk l b e ro cs] (hv:cs[o]?=Option.some (.map n)) (t:Tr l h (k n) Q):Tr l h (NN.gMap ⟨b,o,none⟩ h k) Q :=
 let ⟨i,hi⟩:=k1.ix;gMap i rfl hi hv t
theorem xFv {fn:Fn} {x y:Array Value} {k:Value→Option (α × H)} [k1:Lk l b e ro cs] (hv:cs[o]?=Option.some (.func fn x y)) (t:Tr l h (k (.func fn x y)) Q):Tr l h (NN.gFv ⟨b,o,none⟩ h k) Q :=
 let ⟨i,hi⟩:=k1.ix;gFv i rfl hi hv t
theorem xAgg {n:Nat} {xs:List Value} {k:List Value→Option (α × H)} [k1:Lk l b e ro cs] (hx:o+n≤cs.length∧(cs.drop o).take n=xs) (t:Tr l h (k xs) Q):Tr l h (NN.gAgg ⟨b,o,none⟩ n h k) Q :=
 let ⟨i,hi⟩:=k1.ix;J98 i rfl hi hx.1 hx.2 t
theorem xV {v:Value} {k:H→Option (α × H)} {l':List HP} {cs':List Value} [k1:Lk l b e false cs] (ho:o<cs.length∧v.oneCell=true∧cs.set o v=cs') [k2:Up l b (.cells e false cs') l'] (t:∀ h',Tr l' h' (k h') Q):Tr l h (NN.pV ⟨b,o,none⟩ v h k) Q:=by
 obtain ⟨h1,h2,h3⟩:=ho;subst h3;obtain ⟨j,y,hj,rfl⟩:=k2.ix;obtain ⟨i,hi⟩:=k1.ix;intro ow;have e1:=ow.ptAt hi;simp only [NN.pV,H.put,e1,h2,if_pos h1];exact t _ (ow.set_at _ hj)
theorem xPAgg {vs:List Value} {k:H→Option (α × H)} {l':List HP} {cs':List Value} [k1:Lk l b e false cs] (ho:o+vs.length≤cs.length∧vs.all Value.oneCell=true∧cs.take o++vs++cs.drop (o+vs.length)=cs') [k2:Up l b (.cells e false cs') l'] (t:∀ h',Tr l' h' (k h') Q):Tr l h (NN.pAgg ⟨b,o,none⟩ vs h k) Q:=by
 obtain ⟨h1,h2,h3⟩:=ho;subst h3;obtain ⟨j,y,hj,rfl⟩:=k2.ix;obtain ⟨i,hi⟩:=k1.ix;intro ow;have e1:=ow.ptAt hi;simp only [NN.pAgg,H.putAll,e1,if_pos (And.intro h1 h2)];exact t _ (ow.set_at _ hj)
theorem xCall {C:E0} {f:FuncId} {args:List Value} {p r:List HP} {Φ} {k:Value→H→Option (α × H)} (sp:Ct C f args p Φ) [tk:Takes p l r]
  (t:∀ v h',(Φ v fun l=>Own h' (l++r))→Wp (k v h') Q):Tr l h (NN.bnd (C f args h) k) Q:=fun o =>
 Wp.bnd ((sp h r (o.perm tk.pm)).mono t)
theorem xRun {R:Ab8} {f:FuncId} {todo:List Item} {s:D2} {p r:List HP} {Φ} {Q:Value→H→Prop} (sp:CtJ R f todo s p Φ) [tk:Takes p l r]
  (t:∀ v h',(Φ v fun l=>Own h' (l++r))→Q v h'):Tr l h (R f todo s h) Q:=fun o =>
 (sp h r (o.perm tk.pm)).mono t
theorem xSome {a:Option Addr} {n c sz:Nat} {k:Addr→Option (α × H)} [k1:LkO l a ro e sz n c cs] (hne:0<n) (t:∀ x,a=Option.some x→Tr l h (k x) Q):Tr l h (NN.aSome a k) Q:=fun ow=>by
 obtain ⟨i,p,hi,hp⟩:=k1.ix;obtain ⟨x,hx⟩:=((ow.front hi).head hp).slSome hne;have t1:=t x hx;subst hx;exact t1 ow
theorem xFits {a:Option Addr} {n c sz:Nat} {x:Option (α × H)} [k1:LkO l a ro e sz n c cs] (t:Tr l h x Q):Tr l h (NN.ckB (NN.fitsOpen a e h) x) Q:=fun ow=>by
 obtain ⟨i,p,hi,hp⟩:=k1.ix;rw [fitsOpen i (ow.weak hi hp) (Gr2 hi)];exact t ow
theorem Iw7 {a:Addr} {j n c sz:Nat} {v:Value} {k:Value→Option (α × H)} [k1:LkO l (Option.some a) ro e sz n c cs] (hv:cs[j]?=Option.some v) (t:Tr l h (k v) Q):Tr l h (NN.ld ((B4 a).add j) h k) Q:=fun ow=>by
 obtain ⟨i,p,hi,hp⟩:=k1.ix;unfold NN.ld;rw [Ka2 i (ow.weak hi hp) (Gr2 hi) rfl hv];exact t ow
theorem xIntS {kk:IntKind} {a:Addr} {j n c sz:Nat} {v:Int} {k:Int→Option (α × H)} [k1:LkO l (Option.some a) ro e sz n c cs] (hv:cs[j]?=Option.some (.int kk v)) (t:Tr l h (k v) Q):Tr l h (NN.gInt kk ((B4 a).add j) h k) Q:=Iw7 hv (aInt t)
theorem xBoolS {a:Addr} {j n c sz:Nat} {v:Bool} {k:Bool→Option (α × H)} [k1:LkO l (Option.some a) ro e sz n c cs] (hv:cs[j]?=Option.some (.bool v)) (t:Tr l h (k v) Q):Tr l h (NN.gBool ((B4 a).add j) h k) Q:=Iw7 hv t
theorem xPtrS {a:Addr} {j n c sz:Nat} {v:Option Addr} {k:Option Addr→Option (α × H)} [k1:LkO l (Option.some a) ro e sz n c cs] (hv:cs[j]?=Option.some (.pointer v)) (t:Tr l h (k v) Q):Tr l h (NN.gPtr ((B4 a).add j) h k) Q:=Iw7 hv t
theorem xSlS {a:Addr} {j n c sz:Nat} {x:Option Addr} {y z:Nat} {k:Option Addr→Nat→Nat→Option (α × H)} [k1:LkO l (Option.some a) ro e sz n c cs] (hv:cs[j]?=Option.some (.slice x y z)) (t:Tr l h (k x y z) Q):Tr l h (NN.gSl ((B4 a).add j) h k) Q:=Iw7 hv t
theorem xAggS {a:Addr} {j n c sz m:Nat} {xs:List Value} {k:List Value→Option (α × H)} [k1:LkO l (Option.some a) ro e sz n c cs] (hx:0<m∧j+m≤cs.length∧(cs.drop j).take m=xs) (t:Tr l h (k xs) Q):Tr l h (NN.gAgg ((B4 a).add j) m h k) Q:=fun ow=>by
 obtain ⟨i,p,hi,hp⟩:=k1.ix;have:Tr (l.set i (slC ro e sz (Option.some a) n c cs)) h (NN.gAgg ((B4 a).add j) m h k) Q:=J74 i (Gr2 hi) rfl hx.1 hx.2.1 hx.2.2 fun _=>t ow;exact this (ow.weak hi hp)
theorem xCellsB {b o n:Nat} {sp:Option Nat} {xs:List Value} {k:List Value→Option (α × H)} [k1:Lk l b e ro cs] (hx:o+n≤cs.length∧(cs.drop o).take n=xs) (t:Tr l h (k xs) Q):Tr l h (NN.gCells (Option.some ⟨b,o,sp⟩) n h k) Q:=fun ow=>by
 obtain ⟨i,hi⟩:=k1.ix;rw [Go3 (ow.ptAt hi) hx.1,hx.2];exact t ow
theorem xCells {a:Option Addr} {n c sz m:Nat} {k:List Value→Option (α × H)} [k1:LkO l a ro e sz n c cs] (hm:m=n*sz) (t:Tr l h (k cs) Q):Tr l h (NN.gCells a m h k) Q:=fun ow=>by
 obtain ⟨i,p,hi,hp⟩:=k1.ix;have:Tr (l.set i (slC ro e sz a n c cs)) h (NN.gCells a m h k) Q:=Jp8 i (Gr2 hi) hm fun _=>t ow;exact this (ow.weak hi hp)
theorem xVS {a:Addr} {j n c sz:Nat} {v:Value} {cs':List Value} {l':List HP} {k:H→Option (α × H)} [k1:LkO l (Option.some a) false e sz n c cs] (hj:j<cs.length∧v.oneCell=true∧cs.set j v=cs') [k2:UpO l (Option.some a) (slC false e sz (Option.some a) n c cs') e sz n c cs l'] (t:∀ h',Tr l' h' (k h') Q):Tr l h (NN.pV ((B4 a).add j) v h k) Q:=by
 obtain ⟨h1,h2,rfl⟩:=hj;obtain ⟨i,hi,rfl⟩:=k2.ix;exact pVSl i hi rfl h1 h2 t
theorem xPAggS {a:Addr} {j n c sz:Nat} {vs:List Value} {cs':List Value} {l':List HP} {k:H→Option (α × H)} [k1:LkO l (Option.some a) false e sz n c cs] (hj:vs≠[]∧j+vs.length≤cs.length∧vs.all Value.oneCell=true∧cs.take j++vs++cs.drop (j+vs.length)=cs') [k2:UpO l (Option.some a) (slC false e sz (Option.some a) n c cs') e sz n c cs l'] (t:∀ h',Tr l' h' (k h') Q):Tr l h (NN.pAgg ((B4 a).add j) vs h k) Q:=by
 obtain ⟨h1,h2,h3,rfl⟩:=hj;obtain ⟨i,hi,rfl⟩:=k2.ix;exact J52 i hi rfl h1 h2 h3 t
theorem xApd {a:Option Addr} {n c m sz:Nat} {new:List Value} {k:Option Addr→Nat→Nat→H→Option (α × H)} {f:HP→List HP} [k1:HoleO l a e sz n c cs f] (hm:new.length=m*sz∧new.all Value.oneCell=true∧n+m≤B3)
  (t:∀ a' c' h',Tr (f (slC false e sz a' (n+m) c' (cs++new))) h' (k a' (n+m) c' h') Q):Tr l h (NN.apd e sz a n c m new h k) Q:=by
 obtain ⟨i,hi,hf⟩:=k1.ix;exact apd i hi hm.1 hm.2.1 hm.2.2 fun a' c' h'=>by have:=t a' c' h';rw [hf] at this;exact this
end Tr
theorem Ab7 (a b:Int):mm2 true a b=max a b:=by simp only [mm2];split<;>omega
theorem Ag3 (a b:Int):mm2 false a b=min a b:=by simp only [mm2];split<;>omega
end Go.NN
namespace Go.NN
class Dx {α:Type} (x:Option α) (y:outParam (Option α)):Prop where
 eq:x=y
section
variable {α:Type}
instance {kk:IntKind} {n:Int} {k:Int→Option α}:Dx (aInt kk (.int kk n) k) (k n):=⟨by simp [aInt]⟩
instance {b:Bool} {k:Bool→Option α}:Dx (aBool (.bool b) k) (k b):=⟨rfl⟩
instance {s:ByteArray} {k:ByteArray→Option α}:Dx (aStr (.string s) k) (k s):=⟨rfl⟩
instance {p:Option Addr} {k:Option Addr→Option α}:Dx (aPtr (.pointer p) k) (k p):=⟨rfl⟩
instance {a:Addr} {k:Addr→Option α}:Dx (aSome (some a) k) (k a):=⟨rfl⟩
instance {a:Option Addr} {n c:Nat} {k:Option Addr→Nat→Nat→Option α}:Dx (aSl (.slice a n c) k) (k a n c):=⟨rfl⟩
instance {r:Option Nat} {k:Option Nat→Option α}:Dx (aMap (.map r) k) (k r):=⟨rfl⟩
instance {cs:List Value} {k:List Value→Option α}:Dx (aAgg (.agg ⟨cs⟩) k) (k cs):=⟨rfl⟩
instance {f:FuncId} {a c:List Value} {k:FuncId→List Value→List Value→Option α}:Dx (aFn (.func (.func f) ⟨a⟩ ⟨c⟩) k) (k f a c):=⟨rfl⟩
instance {fn:Fn} {a c:Array Value} {k:Value→Option α}:Dx (aFv (.func fn a c) k) (k (.func fn a c)):=⟨rfl⟩
instance {k:Value→Option α}:Dx (aFv .nilFunc k) (k .nilFunc):=⟨rfl⟩
instance {f:FuncId} {a c:Array Value} {k:Value→Option α}:Dx (nck (.func (.func f) a c) k) (k (.func (.func f) a c)):=⟨rfl⟩
instance {fn:Fn} {a c:Array Value} {k:Bool→Option α}:Dx (isNilF (.func fn a c) k) (k false):=⟨rfl⟩
instance {k:Bool→Option α}:Dx (isNilF .nilFunc k) (k true):=⟨rfl⟩
instance {k:Option α}:Dx (as0 (.tuple ⟨[]⟩) k) k:=⟨rfl⟩
instance {a b:Value} {k:Value→Value→Option α}:Dx (as2 (.tuple ⟨[a,b]⟩) k) (k a b):=⟨rfl⟩
instance {a b c:Value} {k:Value→Value→Value→Option α}:Dx (as3 (.tuple ⟨[a,b,c]⟩) k) (k a b c):=⟨rfl⟩
instance {a b c d:Value} {k:Value→Value→Value→Value→Option α}:Dx (as4 (.tuple ⟨[a,b,c,d]⟩) k) (k a b c d):=⟨rfl⟩
instance {x y:Option α}:Dx (cond true x y) x:=⟨rfl⟩
instance {x y:Option α}:Dx (cond (!true) x y) y:=⟨rfl⟩
instance {x y:Option α}:Dx (cond (!false) x y) x:=⟨rfl⟩
instance {x y:Option α}:Dx (cond false x y) y:=⟨rfl⟩
instance {k:Option α} {e:TypeId} {h:H}:Dx (ckB (fitsOpen none e h) k) k:=⟨rfl⟩
instance {k:Option α} {b o:Nat} {e:TypeId} {h:H}:Dx (ckB (fitsOpen (some ⟨b,o,none⟩) e h) k) k:=⟨rfl⟩
instance {h:H} {k:List Value→Option α}:Dx (gCells none 0 h k) (k []):=⟨rfl⟩
instance {β:Type} {x y:Option α}:Dx (cond (none:Option β).isNone x y) x:=⟨rfl⟩
instance {β:Type} {b:β} {x y:Option α}:Dx (cond (some b).isNone x y) y:=⟨rfl⟩
instance {β:Type} {h:H} {v:β} {x:Option (β × H)} {k:β→H→Option α}:Dx (bnd (cond true (some (v,h)) x) k) (k v h):=⟨rfl⟩
instance {β:Type} {h:H} {v:β} {x:Option (β × H)} {k:β→H→Option α}:Dx (bnd (cond false x (some (v,h))) k) (k v h):=⟨rfl⟩
instance {β:Type} {h:H} {v:β} {k:β→H→Option α}:Dx (bnd (some (v,h)) k) (k v h):=⟨rfl⟩
instance {h:H} {a:Addr} {vs:List Value} {k:H→Option α}:Dx (pCells (some a) vs h k) (pAgg (B4 a) vs h k):=⟨rfl⟩
end
namespace Tr
variable {l:List HP} {h:H} {α:Type} {Q:α→H→Prop}
theorem dx {x y:Option (α × H)} [d:Dx x y] (t:Tr l h y Q):Tr l h x Q:=by rw [d.eq];exact t
theorem andG {b c:Bool} {x:Option (Bool × H)} {k:Bool→H→Option (α × H)} (hx:b=true→Tr l h x fun v h'=>v=c∧h'=h) (t:Tr l h (k (b && c) h) Q):Tr l h (NN.bnd (_root_.cond b x (Option.some (false,h))) k) Q:=fun o=>by
 cases b with
 | false=>exact t o
 | true =>
  obtain ⟨v,h',e,rfl,rfl⟩:=hx rfl o;simp only [cond_true,e,NN.bnd];simpa using t o
theorem orG {b c:Bool} {x:Option (Bool × H)} {k:Bool→H→Option (α × H)} (hx:b=false→Tr l h x fun v h'=>v=c∧h'=h) (t:Tr l h (k (b || c) h) Q):Tr l h (NN.bnd (_root_.cond b (Option.some (true,h)) x) k) Q:=fun o=>by
 cases b with
 | true=>exact t o
 | false =>
  obtain ⟨v,h',e,rfl,rfl⟩:=hx rfl o;simp only [cond_false,e,NN.bnd];simpa using t o
theorem opn {β:Type} {f:β→List HP} {r:List HP} {x:Option (α × H)} (t:∀ y,Tr (f y++r) h x Q):Tr (hex (fun y=>sl (f y))::r) h x Q:=fun o=>by
 obtain ⟨y,o⟩:=o.ex;exact t y o.join
theorem pure {φ:Prop} {r:List HP} {x:Option (α × H)} (t:φ→Tr r h x Q):Tr (pu φ::r) h x Q:=fun o=>t o.pure o.tail
end Tr
theorem Own.shut {β:Type} {f:β→List HP} {r:List HP} {h:H} (y:β) (o:Own h (f y++r)):Own h (hex (fun y=>sl (f y))::r):=Own.inex y o.group
theorem add_add (a:Addr) (i j:Nat):((B4 a).add i).add j=(B4 a).add (i+j):=by
 obtain ⟨b,o,sp⟩:=a;simp only [A63,Dl2];congr 1;omega
theorem D77 (a:Option Addr):Gq0 a a=true:=by
 cases a with
 | none=>rfl
 | some a=>obtain ⟨b,o,sp⟩:=a;cases sp<;>simp [Gq0]
theorem Jm6 (a:Option Addr) (n c:Nat):Ay9 (.slice a n c) (.slice a n c)=true:=by simp [Ay9,Bd7,D77]
theorem Ja8 (a:Option Addr):Ay9 (.pointer a) (.pointer a)=true:=by simp [Ay9,Bd7,D77]
theorem I80 (k:IntKind) (n:Int):Ay9 (.int k n) (.int k n)=true:=by simp [Ay9,Bd7]
theorem I33 (b:Bool):Ay9 (.bool b) (.bool b)=true:=by simp [Ay9,Bd7]
theorem I69 (s:ByteArray):Ay9 (.string s) (.string s)=true:=by simp [Ay9,Bd7]
theorem G92 {α:Type} (a:Addr) (k:Addr→Option α):aSome (some a) k=k a:=rfl
end Go.NN

namespace Go.NN
theorem Em1 {α:Type}:∀ (l:List α) (i:Nat) (v:α),i<l.length→l.set i v=l.take i++v::l.drop (i+1)
 | [],i,v,h=>by simp at h
 | x::l,0,v,h=>by simp
 | x::l,i+1,v,h=>by simp [Em1 l i v (by simpa using h)]
section
variable {α:Type} {f:α→List Value} {k:Nat}
theorem V4 (hk:∀ x,(f x).length=k):∀ (l:List α),(l.flatMap f).length=l.length*k
 | []=>by simp
 | x::l=>by simp only [List.flatMap_cons,List.length_append,hk,List.length_cons,V4 hk l,Nat.add_mul];omega
theorem En7 (hk:∀ x,(f x).length=k):∀ (l:List α) (i:Nat),(l.flatMap f).drop (i*k)=(l.drop i).flatMap f
 | l,0=>by simp
 | [],i+1=>by simp
 | x::l,i+1=>by
  simp only [List.flatMap_cons,List.drop_succ_cons];rw [← En7 hk l i,List.drop_append,List.drop_eq_nil_of_le (by rw [hk,Nat.add_mul];omega),hk];simp only [List.nil_append];congr 1;rw [Nat.add_mul];omega
theorem Hr4 (hk:∀ x,(f x).length=k):∀ (l:List α) (i:Nat),(l.flatMap f).take (i*k)=(l.take i).flatMap f
 | l,0=>by simp
 | [],i+1=>by simp
 | x::l,i+1=>by
  simp only [List.flatMap_cons,List.take_succ_cons];rw [← Hr4 hk l i,List.take_append,List.take_of_length_le (by rw [hk,Nat.add_mul];omega),hk]
  congr 2;rw [Nat.add_mul];omega
theorem Bl3 (hk:∀ x,(f x).length=k) {l:List α} {i j:Nat} {x:α} (hi:l[i]?=some x) (hj:j<k):(l.flatMap f)[i*k+j]?=(f x)[j]?:=by
 rw [← List.getElem?_drop,En7 hk];obtain ⟨hlt,rfl⟩:=List.getElem?_eq_some_iff.1 hi;rw [List.drop_eq_getElem_cons hlt,List.flatMap_cons,List.getElem?_append_left (by rw [hk];exact hj)]
theorem Av3 (hk:∀ x,(f x).length=k) {l:List α} {i:Nat} {x:α} (hi:l[i]?=some x):((l.flatMap f).drop (i*k)).take k=f x:=by
 rw [En7 hk];obtain ⟨hlt,rfl⟩:=List.getElem?_eq_some_iff.1 hi;rw [List.drop_eq_getElem_cons hlt,List.flatMap_cons,List.take_append,List.take_of_length_le (by rw [hk];exact Nat.le_refl _),hk];simp
theorem Jc7 (hk:∀ x,(f x).length=k) {l:List α} {i j m:Nat} {x:α} (hi:l[i]?=some x) (hj:j+m≤k):((l.flatMap f).drop (i*k+j)).take m=((f x).drop j).take m:=by
 rw [← List.drop_drop,En7 hk];obtain ⟨hlt,rfl⟩:=List.getElem?_eq_some_iff.1 hi;rw [List.drop_eq_getElem_cons hlt,List.flatMap_cons,List.drop_append_of_le_length (by rw [hk];omega),List.take_append_of_le_length (by rw [List.length_drop,hk];omega)]
theorem Eh2 (hk:∀ x,(f x).length=k) {l:List α} {i j m:Nat} {x y:α} {vs:List Value} (hi:l[i]?=some x) (hj:j+vs.length≤k) (hy:f y=(f x).take j++vs++(f x).drop (j+vs.length)) :
  (l.flatMap f).take (i*k+j)++vs++(l.flatMap f).drop (i*k+j+vs.length)=(l.set i y).flatMap f:=by
 obtain ⟨hlt,rfl⟩:=List.getElem?_eq_some_iff.1 hi;rw [Em1 _ _ _ hlt,List.flatMap_append,List.flatMap_cons,hy];have h1:l=l.take i++l[i]::l.drop (i+1):=by rw [← List.drop_eq_getElem_cons hlt,List.take_append_drop]
 have h2:l.flatMap f=(l.take i).flatMap f++(f l[i]++(l.drop (i+1)).flatMap f):=by
  have e:=congrArg (List.flatMap f) h1;rw [List.flatMap_append,List.flatMap_cons] at e;exact e
 have h3:((l.take i).flatMap f).length=i*k:=by rw [V4 hk,List.length_take,Nat.min_eq_left (by omega)]
 rw [h2];have e1:i*k+j=((l.take i).flatMap f).length+j:=by omega
 have e2:i*k+j+vs.length=((l.take i).flatMap f).length+(j+vs.length):=by omega
 rw [e2,e1,List.take_length_add_append,List.drop_length_add_append,List.take_append_of_le_length (by rw [hk];omega),List.drop_append_of_le_length (by rw [hk];omega)];simp
theorem Go9 (hk:∀ x,(f x).length=k) {l:List α} {i j:Nat} {x y:α} {v:Value} (hi:l[i]?=some x) (hj:j<k) (hy:f y=(f x).set j v):(l.flatMap f).set (i*k+j) v=(l.set i y).flatMap f:=by
 have hlt:i<l.length:=(List.getElem?_eq_some_iff.1 hi).1
 have hl:i*k+j<(l.flatMap f).length:=by
  rw [V4 hk];have:=Nat.mul_le_mul_right k (Nat.succ_le_of_lt hlt);rw [Nat.succ_mul] at this;omega
 have:=Eh2 (vs:=[v]) (y:=y) hk hi (j:=j) (m:=1) (by simp;omega) (by
  rw [hy,Em1 _ _ _ (by rw [hk];exact hj)];simp)
 rw [← this,Em1 _ _ _ hl];simp
theorem Iq8 (hk:∀ x,(f x).length=k) {l:List α} {i:Nat} {y:α} (hi:i<l.length):(l.flatMap f).take (i*k)++f y++(l.flatMap f).drop (i*k+k)=(l.set i y).flatMap f:=by
 have:=Eh2 (vs:=f y) (x:=l[i]) (y:=y) (j:=0) (m:=0) hk (List.getElem?_eq_getElem hi) (by rw [hk];omega) (by rw [hk];simp [hk]);rw [hk] at this;simpa using this
end
theorem Hj9 {α:Type} {f:α→Value} {l:List α} {i:Nat} {x:α} (hi:l[i]?=some x):(l.map f)[i]?=some (f x):=by simp [hi]
theorem E00 (l:List UInt8) (n:Nat):(A0 l).take n=A0 (l.take n):=by simp [A0,List.map_take]
theorem Dq5 (l:List UInt8) (n:Nat):(A0 l).drop n=A0 (l.drop n):=by simp [A0,List.map_drop]
theorem An6 (l:List UInt8):(A0 l).all Value.oneCell=true:=by simp [A0,Value.oneCell]
theorem Eg9 (b o:Nat) (sp:Option Nat) (c:Bool) (n:Nat):E5 (some ⟨b,o,sp⟩) c n=some ⟨b,cond c (o+n) o,sp⟩:=by cases c<;>rfl
theorem B8 (n:Int):IntKind.wrap .i64 n=(n+9223372036854775808)%18446744073709551616-9223372036854775808:=by
 have e1:(2 ^ IntKind.bits .i64:Int)=18446744073709551616:=by rfl
 have e2:(2 ^ (IntKind.bits .i64-1):Int)=9223372036854775808:=by rfl
 unfold IntKind.wrap;rw [e1,e2];have e3:IntKind.signed .i64=true:=rfl;rw [e3];simp only [Bool.true_and,decide_eq_true_eq]
 split<;>omega
theorem Jq8 (n:Int):IntKind.wrap .u8 n=n%256:=by
 have e1:(2 ^ IntKind.bits .u8:Int)=256:=by rfl
 have e3:IntKind.signed .u8=false:=rfl;unfold IntKind.wrap;rw [e1,e3];simp
end Go.NN
namespace Go.NN
section
variable {l:List HP} {h:H} {α:Type} {Q:α→H→Prop}
theorem Hi5 {x:Option (α × H)} (i:Nat) {b:Nat} {e:TypeId} {ro:Bool} {all:List Value} (hi:l[i]?=some (pt b (.cells e ro all))) (pre cs post:List Value) (hall:all=pre++cs++post) (sz o n c:Nat)
  (hok:n*sz=cs.length∧n≤c∧(c-n)*sz≤post.length∧(0<c→o=pre.length)∧0<sz∧(c=0→o≤pre.length)) (t:Tr (l.set i (slX ro e sz (some ⟨b,o,none⟩) n c (pre,post) cs)) h x Q):Tr l h x Q:=fun ow=>by
 subst hall;obtain ⟨h1,h2,h3,h4,h5,h6⟩:=hok;refine t (Own.back (h:=h) hi ?_);exact Own.unstar ((Own.inpure ⟨h1,h2,h3,h4,by simp,h5,h6⟩ (ow.front hi)).perm (List.Perm.swap _ _ _))
theorem Gi0 {x:Option (α × H)} (i:Nat) {b o sz n c:Nat} {sp:Option Nat} {e:TypeId} {ro:Bool} {pre cs post:List Value} (hi:l[i]?=some (slX ro e sz (some ⟨b,o,sp⟩) n c (pre,post) cs)) (all:List Value) (hall:pre++cs++post=all)
  (t:Tr (l.set i (pt b (.cells e ro all))) h x Q):Tr l h x Q:=fun ow=>by
 subst hall;refine t (Own.back (h:=h) hi ?_);have o2:=Own.star2 (ow.front hi);exact (o2.perm (List.Perm.swap _ _ _)).tail
theorem Ag4 {x:Option (α × H)} (i:Nat) {b:Nat} {e:TypeId} {cs:List Value} (hi:l[i]?=some (pt b (.cells e false cs))) (sz n:Nat) (hn:n*sz=cs.length) (hs:0<sz) (t:Tr (l.set i (slC false e sz (some ⟨b,0,none⟩) n n cs)) h x Q):Tr l h x Q:=fun ow =>
 t (Own.back (h:=h) hi (Own.slNew hs hn (ow.front hi)))
theorem G0 {x:Option (α × H)} (ro:Bool) (e:TypeId) (sz:Nat) (hs:0<sz) (t:Tr (slC ro e sz none 0 0 []::l) h x Q):Tr l h x Q:=fun ow=>t (ow.slNil ro e hs)
theorem P9 {x:Option (α × H)} (i:Nat) {φ:Prop} (hi:l[i]?=some (pu φ)) (t:φ→Tr l h x Q):Tr l h x Q:=fun ow=>t (ow.front hi).pure ow
theorem S4 {x:Option (α × H)} {p:HP} (i:Nat) {a:Option Addr} {ro:Bool} {e:TypeId} {sz n c:Nat} {cs:List Value} (hi:l[i]?=some p) [k:IsSl p a ro e sz n c cs] (t:n*sz=cs.length→n≤c→0<sz→Tr l h x Q):Tr l h x Q:=fun ow=>by
 obtain ⟨h1,h2,h3⟩:=((ow.front hi).head k.en).slLen;exact t h1 h2 h3 ow
end
end Go.NN
namespace Go.NN
class Chk {β:outParam Type} (p:HP) (f:outParam (β→List HP)):Prop where
 eq:p=hex fun y=>sl (f y)
section
variable {l:List HP} {h:H} {α:Type} {Q:α→H→Prop} {β:Type}
theorem B6 (p:HP) {f:β→List HP} {r:List HP} {x:Option (α × H)} [ob:Chk p f] [tk:Take p l r] (t:∀ y,Tr (f y++r) h x Q):Tr l h x Q:=fun o=>by
 have o2:=o.perm tk.pm;rw [ob.eq] at o2;exact Tr.opn t o2
theorem B1 (p:HP) {f:β→List HP} {r:List HP} {x:Option (α × H)} [ob:Chk p f] (y:β) [tk:Takes (f y) l r] (t:Tr (p::r) h x Q):Tr l h x Q:=fun o=>by
 refine t ?_;rw [ob.eq];exact Own.shut y (o.perm tk.pm)
theorem Own.fold (p:HP) {f:β→List HP} {r:List HP} [ob:Chk p f] (y:β) (o:Own h l) [tk:Takes (f y) l r]:Own h (p::r):=by
 rw [ob.eq];exact Own.shut y (o.perm tk.pm)
theorem Own.unfold (p:HP) {f:β→List HP} {r:List HP} [ob:Chk p f] (o:Own h l) [tk:Take p l r]:∃ y,Own h (f y++r):=by
 have o2:=o.perm tk.pm;rw [ob.eq] at o2;obtain ⟨y,o3⟩:=o2.ex;exact ⟨y,o3.join⟩
end
end Go.NN
namespace Go.NN
def CtP (C:E0) (f:FuncId) (args:List Value) (p:List HP) (v:Value):Prop:=∀ h r,Own h (p++r)→C f args h=some (v,h)
theorem CtP.of {P:Program} {cutsOf:FuncId→Cuts} {f:FuncId} {fn:Func} {C:Cuts} {T:List Item} {n:Nat} (k:FnOk P cutsOf f fn C T n) {args:List Value} {p:List HP} {v:Value} (hl:args.length=n)
  (t:∀ h r,Tr (p++r) h (Z0 P C (Call P cutsOf) (Jump P cutsOf) f fn 100000 true T (At2 0 args) h) fun v' h'=>v'=v∧h'=h):CtP (Call P cutsOf) f args p v:=fun h r o=>by
 obtain ⟨v',h',e,rfl,rfl⟩:=t h r o;exact k.call hl e
theorem Tr.pcall {l r:List HP} {h:H} {α:Type} {Q:α→H→Prop} {C:E0} {f:FuncId} {args:List Value} {p:List HP} {v:Value} {k:Value→H→Option (α × H)} (sp:CtP C f args p v) [tk:Takes p l r] (t:Tr l h (k v h) Q):Tr l h (NN.bnd (C f args h) k) Q:=fun o=>by
 rw [sp h r (o.perm tk.pm)];exact t o
def Ab5 (R:Ab8) (f:FuncId) (todo:List Item) (s:D2) (p:List HP) (v:Value):Prop:=∀ h r,Own h (p++r)→R f todo s h=some (v,h)
theorem Ab5.of {P:Program} {cutsOf:FuncId→Cuts} {f:FuncId} {fn:Func} {C:Cuts} {T:List Item} {n:Nat} (k:FnOk P cutsOf f fn C T n) {todo:List Item} {s:D2} {p:List HP} {v:Value}
  (t:∀ h r,Tr (p++r) h (Z0 P C (Call P cutsOf) (Jump P cutsOf) f fn 100000 true todo s h) fun v' h'=>v'=v∧h'=h):Ab5 (Jump P cutsOf) f todo s p v:=fun h r o=>by
 obtain ⟨v',h',e,rfl,rfl⟩:=t h r o;exact k.jump e
theorem Tr.prun {l r:List HP} {h:H} {Q:Value→H→Prop} {R:Ab8} {f:FuncId} {todo:List Item} {s:D2} {p:List HP} {v:Value} (sp:Ab5 R f todo s p v) [tk:Takes p l r] (q:Own h l→Q v h):Tr l h (R f todo s h) Q:=fun o =>
 ⟨v,h,sp h r (o.perm tk.pm),q o⟩
theorem Gh6 (a:Int) (k:Nat) (hk:k≤62):D5 .i64 a ((2 ^ k-1:Nat):Int)=a%((2 ^ k:Nat):Int):=by
 unfold D5;have e0:IntKind.bits .i64=64:=rfl;rw [e0];have h2:2 ^ k≤2 ^ 62:=Nat.pow_le_pow_right (by omega) hk;have hp:0<2 ^ k:=Nat.two_pow_pos k
 have e1:(BitVec.ofInt 64 a &&& BitVec.ofInt 64 ((2 ^ k-1:Nat):Int)).toNat=(a%(2 ^ 64:Int)).toNat%2 ^ k:=by
  rw [BitVec.toNat_and,BitVec.toNat_ofInt,BitVec.toNat_ofInt]
  have:((2 ^ k-1:Nat):Int)%((2 ^ 64:Nat):Int)=((2 ^ k-1:Nat):Int):=by
   apply Int.emod_eq_of_lt<;>omega
  rw [this,Int.toNat_natCast,Nat.and_two_pow_sub_one_eq_mod]
  rfl
 rw [e1,B8]
 have hd:((2 ^ k:Nat):Int) ∣ (2 ^ 64:Int):=by
  refine ⟨((2 ^ (64-k):Nat):Int),?_⟩;rw [← Int.natCast_mul,← Nat.pow_add,show k+(64-k)=64 by omega];rfl
 have e2:(((a%(2 ^ 64:Int)).toNat%2 ^ k:Nat):Int)=a%((2 ^ k:Nat):Int):=by
  rw [Int.natCast_emod,Int.toNat_of_nonneg (by omega),Int.emod_emod_of_dvd _ hd]
 rw [e2];have h3:=Int.emod_nonneg a (b:=((2 ^ k:Nat):Int)) (by omega);have h4:=Int.emod_lt_of_pos a (b:=((2 ^ k:Nat):Int)) (by omega);omega
theorem Ef4 (a:Int):D5 .i64 a 255=a%256:=Gh6 a 8 (by omega)
theorem J39 (a:Int):D5 .i64 a 3=a%4:=Gh6 a 2 (by omega)
theorem J83 (a:Int):D5 .i64 a 7=a%8:=Gh6 a 3 (by omega)
end Go.NN
namespace Go.NN
def O0 {τ α:Type} (F:τ→α→HP) (ts:List τ) (xs:List α):HP:=sl (List.zipWith F ts xs)
def Hd7 {τ α:Type} (F:τ→α→HP) (ts:List τ) (xs:List α) (i:Nat):HP:=sl ((List.zipWith F ts xs).eraseIdx i)
section
variable {l:List HP} {h:H} {α:Type} {Q:α→H→Prop} {τ β:Type} {F:τ→β→HP} {ts:List τ} {xs:List β}
theorem Iu3:∀ {ts:List τ} {xs:List β} {i:Nat} {t:τ} {y:β},ts[i]?=some t→List.zipWith F ts (xs.set i y)=(List.zipWith F ts xs).set i (F t y)
 | [],_,_,_,_,h=>by simp at h
 | a::ts,[],i,t,y,h=>by simp
 | a::ts,x::xs,0,t,y,h=>by simp at h;subst h;simp
 | a::ts,x::xs,i+1,t,y,h=>by simp at h;have:=Iu3 (ts:=ts) (xs:=xs) (y:=y) h;simpa using this
theorem Is8 {i:Nat} {t:τ} {x:β} (ht:ts[i]?=some t) (hx:xs[i]?=some x):(List.zipWith F ts xs)[i]?=some (F t x):=by rw [List.getElem?_zipWith,ht,hx]
theorem Own.at2 {r:List HP} {i:Nat} {t:τ} {x:β} (ht:ts[i]?=some t) (hx:xs[i]?=some x) (o:Own h (O0 F ts xs::r)):Own h (F t x::Hd7 F ts xs i::r):=by
 have o2:=o.join;have hi:=Is8 (F:=F) ht hx;have hlt:=(List.getElem?_eq_some_iff.1 hi).1;have o3:=o2.front (i:=i) (by rw [List.getElem?_append_left hlt];exact hi);rw [List.eraseIdx_append_of_lt_length hlt] at o3;have o4:Own h (F t x::((List.zipWith F ts xs).eraseIdx i++r)):=o3;have o5:=Own.group (l:=[F t x]) (r:=(List.zipWith F ts xs).eraseIdx i++r) o4;have o6:Own h ((List.zipWith F ts xs).eraseIdx i++(sl [F t x]::r)):=o5.perm (List.perm_middle.symm);have o7:=Own.group o6;have o8:=o7.perm (List.Perm.swap _ _ _);exact Own.join o8
theorem Own.put2 {r:List HP} {i:Nat} {t:τ} {x y:β} (ht:ts[i]?=some t) (hx:xs[i]?=some x) (o:Own h (F t y::Hd7 F ts xs i::r)):Own h (O0 F ts (xs.set i y)::r):=by
 have o1:=o.perm (List.Perm.swap _ _ _);have o2:Own h ((List.zipWith F ts xs).eraseIdx i++(F t y::r)):=Own.join o1;have hi:=Is8 (F:=F) ht hx;have hlt:=(List.getElem?_eq_some_iff.1 hi).1;have o3:Own h (F t y::((List.zipWith F ts xs).eraseIdx i++r)):=o2.perm List.perm_middle;have e1:(List.zipWith F ts xs).eraseIdx i++r=((List.zipWith F ts xs)++r).eraseIdx i:=(List.eraseIdx_append_of_lt_length hlt r).symm;rw [e1] at o3;have o4:=Own.back (h:=h) (i:=i) (p:=F t x) (by rw [List.getElem?_append_left hlt];exact hi) o3;rw [List.set_append_left _ _ hlt,← Iu3 ht] at o4;exact Own.group o4
theorem Aj4 (F:τ→β→HP) (ts:List τ) (xs:List β) {r:List HP} {z:Option (α × H)} [tk:Take (O0 F ts xs) l r] {i:Nat} {t:τ} {x:β} (ht:ts[i]?=some t) (hx:xs[i]?=some x) (k:Tr (F t x::Hd7 F ts xs i::r) h z Q):Tr l h z Q:=fun o =>
 k (Own.at2 ht hx (o.perm tk.pm))
theorem Dq9 (F:τ→β→HP) (ts:List τ) (xs:List β) (i:Nat) {r:List HP} {z:Option (α × H)} {t:τ} {x:β} (y:β) [tk:Takes [F t y,Hd7 F ts xs i] l r] (ht:ts[i]?=some t) (hx:xs[i]?=some x) (k:Tr (O0 F ts (xs.set i y)::r) h z Q):Tr l h z Q:=fun o =>
 k (Own.put2 ht hx (o.perm tk.pm))
theorem Gi7 {l:List β} {i:Nat} {x:β} (hx:l[i]?=some x):l.set i x=l:=by
 obtain ⟨hlt,rfl⟩:=List.getElem?_eq_some_iff.1 hx;simp
theorem Av1 (F:τ→β→HP) (ts:List τ) (xs:List β) (i:Nat) {r:List HP} {z:Option (α × H)} {t:τ} {x:β} [tk:Takes [F t x,Hd7 F ts xs i] l r] (ht:ts[i]?=some t) (hx:xs[i]?=some x) (k:Tr (O0 F ts xs::r) h z Q):Tr l h z Q:=fun o=>by
 have o2:=Own.put2 ht hx (o.perm tk.pm);rw [Gi7 hx] at o2;exact k o2
theorem Own.all2_app {ts':List τ} {xs':List β} {r:List HP} (hl:ts.length=xs.length) (o:Own h (O0 F ts xs::O0 F ts' xs'::r)):Own h (O0 F (ts++ts') (xs++xs')::r):=by
 have o1:Own h (List.zipWith F ts xs++(O0 F ts' xs'::r)):=Own.join o;have o2:Own h (O0 F ts' xs'::(List.zipWith F ts xs++r)):=o1.perm List.perm_middle;have o3:Own h (List.zipWith F ts' xs'++(List.zipWith F ts xs++r)):=Own.join o2
 have o4:Own h (List.zipWith F ts xs++List.zipWith F ts' xs'++r):=o3.perm (by
  rw [← List.append_assoc];exact List.Perm.append_right _ List.perm_append_comm)
 have o5:=Own.group o4;unfold O0;rw [List.zipWith_append hl];exact o5
theorem Own.all2_one {t:τ} {x:β} {r:List HP} (o:Own h (F t x::r)):Own h (O0 F [t] [x]::r):=Own.group (l:=[F t x]) o
theorem Own.all2_nil {r:List HP} (o:Own h r):Own h (O0 F [] []::r):=Own.group (l:=[]) o
end
def idx {α:Type} (l:List α) (i:Int):Option α:=if 0≤i then l[i.toNat]? else none
theorem Ba6 {α:Type} {l:List α} {i:Int} {x:α} (h:idx l i=some x):0≤i∧i<l.length∧l[i.toNat]?=some x:=by
 unfold idx at h
 split at h
 ·have:=(List.getElem?_eq_some_iff.1 h).1;exact ⟨by omega,by omega,h⟩
 ·cases h
theorem Db1 {α:Type} {l:List α} {i:Int} (h:idx l i=none):¬ (0≤i∧i<l.length):=by
 intro ⟨h1,h2⟩;unfold idx at h;rw [if_pos h1,List.getElem?_eq_none_iff] at h;omega
end Go.NN
namespace Go.NN
theorem I48 (a:Option Addr) (c:Bool):E5 a c 0=a:=by
 cases a with
 | none=>rfl
 | some a=>obtain ⟨b,o,sp⟩:=a;cases c<;>rfl
end Go.NN
namespace Go.NN
section
variable {l:List HP} {h:H} {α:Type} {Q:α→H→Prop} {τ β:Type}
theorem Bk8 (F:τ→β→HP) (ts:List τ) (xs:List β) (t:τ) (x:β) {r:List HP} {z:Option (α × H)} [tk:Takes [O0 F ts xs,F t x] l r] (hl:ts.length=xs.length) (k:Tr (O0 F (ts++[t]) (xs++[x])::r) h z Q):Tr l h z Q:=fun o=>by
 have o1:Own h (O0 F ts xs::F t x::r):=o.perm tk.pm;have o2:Own h (O0 F [t] [x]::O0 F ts xs::r):=Own.all2_one (o1.perm (.swap _ _ _));exact k (Own.all2_app hl (o2.perm (.swap _ _ _)))
theorem Ea4 (F:τ→β→HP) {z:Option (α × H)} (k:Tr (O0 F [] []::l) h z Q):Tr l h z Q:=fun o=>k (Own.all2_nil o)
theorem Ax8 {φ:Prop} {z:Option (α × H)} (hφ:φ) (k:Tr (pu φ::l) h z Q):Tr l h z Q:=fun o=>k (Own.inpure hφ o)
theorem Hd1 (p q:HP) {r:List HP} {z:Option (α × H)} [tk:Take p l r] (e:p=q) (k:Tr (q::r) h z Q):Tr l h z Q:=fun o=>by
 have:=o.perm tk.pm;rw [e] at this;exact k this
end
end Go.NN
namespace Go.NN
section
variable {l:List HP} {h:H} {α:Type} {Q:α→H→Prop}
theorem Own.slDrop {ro:Bool} {e:TypeId} {sz:Nat} {a:Option Addr} {n c:Nat} {cs:List Value} {r:List HP} (j:Nat) (hj:j≤n) (o:Own h (slC ro e sz a n c cs::r)) :
  Own h (slC ro e sz (E5 a (decide (j<c)) (j*sz)) (n-j) (c-j) (cs.drop (j*sz))::r):=by
 cases a with
 | none =>
  obtain ⟨rfl,rfl,rfl,hs⟩:=o.slNone;obtain rfl:j=0:=by omega
  simpa [E5] using o
 | some x =>
  obtain ⟨b,o',sp⟩:=x;obtain ⟨pre,post,o2,h1,h2,h3,h4,h5,h6,h7⟩:=o.slOpen;have hl:j*sz≤cs.length:=by rw [← h1];exact Nat.mul_le_mul_right _ hj
  have e1:pre++cs++post=(pre++cs.take (j*sz))++cs.drop (j*sz)++post:=by rw [List.append_assoc pre (cs.take _),List.take_append_drop]
  rw [e1] at o2;have e2:(n-j)*sz=(cs.drop (j*sz)).length:=by rw [Nat.sub_mul,List.length_drop,h1]
  by_cases hjc:j<c
  ·rw [decide_eq_true hjc,Eg9];refine Own.slShut o2 ⟨e2,by omega,?_,fun _=>?_,h5,h6,fun _=>?_⟩
   ·have:c-j-(n-j)=c-n:=by omega
    rw [this];exact h3
   ·simp;have:=h4 (by omega);omega
   ·omega
  ·rw [decide_eq_false hjc,Eg9];have hnj:n=j:=by omega
   refine Own.slShut o2 ⟨e2,by omega,?_,fun _=>by omega,h5,h6,fun _=>?_⟩
   ·have:c-j-(n-j)=0:=by omega
    rw [this];simp
   ·simp;rcases Nat.eq_zero_or_pos c with hc|hc
    ·have:=h7 hc;omega
    ·have:=h4 hc;omega
end
end Go.NN
namespace Go.NN
section
variable {l:List HP} {h:H} {α:Type} {Q:α→H→Prop} {β:Type}
theorem I3 (p:HP) {f:β→List HP} {r:List HP} {x:Option (α × H)} [ob:Chk p f] (y:β) (is:List Nat) (e:picks is l=some (f y,r)) (t:Tr (p::r) h x Q):Tr l h x Q:=fun o=>by
 refine t ?_;rw [ob.eq];exact Own.shut y (o.picks is e)
theorem Own.foldI (p:HP) {f:β→List HP} {r:List HP} [ob:Chk p f] (y:β) (is:List Nat) (o:Own h l) (e:NN.picks is l=some (f y,r)):Own h (p::r):=by
 rw [ob.eq];exact Own.shut y (o.picks is e)
end
end Go.NN
namespace Go.NN
section
variable {l:List HP} {h:H} {α:Type} {Q:α→H→Prop} {β:Type}
theorem Hg2 {ro:Bool} {e:TypeId} {sz:Nat} {a:Option Addr} {n c:Nat} {cs:List Value} {z:Option (α × H)} (i:Nat) (hi:l[i]?=some (slC ro e sz a n c cs)) (j:Nat) (cs':List Value) (hj:j≤n) (hc:cs.drop (j*sz)=cs')
  (k:Tr (l.set i (slC ro e sz (E5 a (decide (j<c)) (j*sz)) (n-j) (c-j) cs')) h z Q):Tr l h z Q:=fun o=>by
 subst hc;exact k (Own.back (h:=h) hi (Own.slDrop j hj (o.front hi)))
end
end Go.NN
namespace Go.NN
theorem Dd2 {l r:List HP} {h:H} {α:Type} {Q:α→H→Prop} {C:E0} {f:FuncId} {args:List Value} {p:List HP} {v:Value} {k:Value→H→Option (α × H)} (sp:CtP C f args p v) (hp:l.Perm (p++r)) (t:Tr l h (k v h) Q):Tr l h (NN.bnd (C f args h) k) Q:=fun o=>by
 rw [sp h r (o.perm hp)];exact t o
end Go.NN
namespace Go.NN
theorem Af1 {l r:List HP} {h:H} {Q:Value→H→Prop} {R:Ab8} {f:FuncId} {todo:List Item} {s:D2} {p:List HP} {v:Value} (sp:Ab5 R f todo s p v) (hp:l.Perm (p++r)) (q:Own h l→Q v h):Tr l h (R f todo s h) Q:=fun o =>
 ⟨v,h,sp h r (o.perm hp),q o⟩
end Go.NN
namespace Go.NN
theorem Dq2 {l r:List HP} {h:H} {R:Ab8} {f:FuncId} {todo:List Item} {s:D2} {p:List HP} {Φ} {Q:Value→H→Prop} (sp:CtJ R f todo s p Φ) (is:List Nat) (e:picks is l=some (p,r)) (t:∀ v h',(Φ v fun l=>Own h' (l++r))→Q v h'):Tr l h (R f todo s h) Q:=fun o =>
 (sp h r (o.picks is e)).mono t
theorem Db6 {l:List HP} {h:H} {α:Type} {Q:α→H→Prop} {C:E0} {f:FuncId} {args:List Value} {p r:List HP} {Φ} {k:Value→H→Option (α × H)} (sp:Ct C f args p Φ) (is:List Nat) (e:picks is l=some (p,r))
  (t:∀ v h',(Φ v fun l=>Own h' (l++r))→Wp (k v h') Q):Tr l h (NN.bnd (C f args h) k) Q:=fun o =>
 Wp.bnd ((sp h r (o.picks is e)).mono t)
theorem N8 {l p r r':List HP} {h:H} {α:Type} {Q:α→H→Prop} {x:Option (α × H)} (is:List Nat) (n:Nat) (e:picks is l=some (p,r)) (e2:r.drop n=r') (t:Tr (p++r') h x Q):Tr l h x Q:=fun o=>t (o.fin is n e e2)
end Go.NN
namespace Go.NN
section
variable {l:List HP} {h:H} {α:Type} {Q:α→H→Prop} {τ β:Type}
end
end Go.NN
namespace Go.NN
theorem nrm:(∀ (a:Addr) (i j:Nat),((B4 a).add i).add j=(B4 a).add (i+j))∧(∀ (a:Option Addr) (c:Bool),E5 a c 0=a) ∧
  (∀ (b o:Nat) (sp:Option Nat) (c:Bool) (n:Nat),E5 (some ⟨b,o,sp⟩) c n=some ⟨b,cond c (o+n) o,sp⟩)∧(∀ n:Nat,n*1=n)∧(∀ n:Nat,0*n=0)∧(∀ n:Nat,n-0=n)∧(∀ n:Nat,1*n=n) ∧
  (∀ (b o j:Nat),Addr.add ⟨b,o,none⟩ j=⟨b,o+j,none⟩)∧(∀ (b o:Nat) (f:Option Nat),B4 ⟨b,o,f⟩=⟨b,o,none⟩)∧(∀ n:Nat,0+n=n) :=
 ⟨add_add,I48,Eg9,Nat.mul_one,Nat.zero_mul,Nat.sub_zero,Nat.one_mul,Dl2,A63,Nat.zero_add⟩
theorem J65 {α:Type}:(∀ (a:α) (x y:List α),a::x++y=a::(x++y))∧(∀ x:List α,[]++x=x)∧(∀ (a b:α) (x:List α),(a::x).set 0 b=b::x)∧(∀ (a b:α) (x:List α) (i:Nat),(a::x).set (i+1) b=a::x.set i b) ∧
  (∀ (a:α) (x:List α),(a::x).eraseIdx 0=x)∧(∀ (a:α) (x:List α) (i:Nat),(a::x).eraseIdx (i+1)=a::x.eraseIdx i)∧(∀ x:List α,x.drop 0=x)∧(∀ x:List α,x.take 0=[]) ∧
  (∀ (a:α) (x:List α) (i:Nat),(a::x).take (i+1)=a::x.take i)∧(∀ (a:α) (x:List α) (i:Nat),(a::x).drop (i+1)=x.drop i) :=
 ⟨fun _ _ _=>rfl,fun _=>rfl,fun _ _ _=>rfl,fun _ _ _ _=>rfl,fun _ _=>rfl,fun _ _ _=>rfl,fun _=>rfl,fun _=>rfl,fun _ _ _=>rfl,fun _ _ _=>rfl⟩
theorem Gn:type_of% @Tr.nw:=@Tr.nw
end Go.NN
namespace Go.NN
theorem gnd:(∀ a b:Bool,((a && b)=true)=(a=true∧b=true))∧(∀ a b:Bool,((a || b)=false)=(a=false∧b=false))∧(∀ a:Bool,((!a)=true)=(a=false))∧(∀ a:Bool,((!a)=false)=(a=true)) ∧
  (∀ (p:Prop) [Decidable p],(decide p=true)=p)∧(∀ (p:Prop) [Decidable p],(decide p=false)=¬p) :=
 ⟨fun a b=>by cases a<;>simp,fun a b=>by cases a<;>simp,fun a=>by cases a<;>simp,fun a=>by cases a<;>simp,fun p _=>by simp,fun p _=>by simp⟩
end Go.NN

namespace Go.NN
open Go.ChangeShapes Go.WideShapes Go.RowKit
structure St (P:Program) (W:World) (μ:Mu) (h:H) (l:List HP):Prop where
 rel:Rel P μ h W
 ro:∀ b,¬ h.writable b
 own:Own h l
structure Gr (μ:Mu) (h:H) (μ':Mu) (h':H):Prop where
 mu:∀ b x,μ b=some x→μ' b=some x
 dead:∀ b,h.blk b=some .dead→h'.blk b=some .dead
section
variable {P:Program} {W:World} {μ μ':Mu} {h h':H} {l:List HP}
theorem Gr.refl (μ:Mu) (h:H):Gr μ h μ h:=⟨fun _ _ x=>x,fun _ x=>x⟩
theorem Gr.trans {μ'':Mu} {h'':H} (x:Gr μ h μ' h') (y:Gr μ' h' μ'' h''):Gr μ h μ'' h'':=⟨fun b z e=>y.mu b z (x.mu b z e),fun b e=>y.dead b (x.dead b e)⟩
theorem Gr.vrs (x:Gr μ h μ' h') {l l':List Value} (v:VRs P μ h W l l'):VRs P μ' h' W l l':=VRs.mono x.mu x.dead (fun _ _ e=>e) v
theorem Gr.vr (x:Gr μ h μ' h') {l l':Value} (v:VR P μ h W l l'):VR P μ' h' W l l':=VR.mono x.mu x.dead (fun _ _ e=>e) v
theorem St.start (P:Program) (W:World):∃ μ h,St P W μ h []:=by
 refine ⟨fun _=>none,⟨fun b=>if b<P.globals.size then some .dead else none,P.globals.size⟩,⟨?_,?_,?_,?_,?_,?_,?_⟩,?_,⟨?_,?_⟩⟩
 ·intro g hg;right;simp [hg]
 ·intro b hb;simp;exact hb
 ·intro b x hx;cases hx
 ·intro b g δ hx;cases hx
 ·intro b g δ e ro c hx;cases hx
 ·intro b g δ es cl hx;cases hx
 ·intro b b' g δ δ' hx;cases hx
 ·intro b hb;unfold H.writable at hb;by_cases hlt:b<P.globals.size
  ·simp [hlt] at hb
  ·simp [hlt] at hb
 ·intro b hb;simp;exact hb
 ·trivial
theorem St.win (s:St P W μ h l) {g δ:Nat} {c':Array Value} {e:TypeId} {fr:Nat × Nat} (e2:TypeId) (hg:W.heap[g]?=some (.cells c' e fr)) (vs:List Value) (hlen:δ+vs.length≤c'.size)
  (hv:∀ (i:Nat) (v:Value),vs[i]?=some v→∃ v':Value,c'[δ+i]?=some v'∧VR P μ h W v v') :
  St P W (upd μ h.next (g,δ)) (h.push (.cells e2 true vs)) (pt h.next (.cells e2 true vs)::l)∧Gr μ h (upd μ h.next (g,δ)) (h.push (.cells e2 true vs)):=by
 have r:=s.rel
 have hm:∀ b y,μ b=some y→upd μ h.next (g,δ) b=some y:=fun b y hb=>by
  unfold upd;rw [if_neg]
  ·exact hb
  ·have:=r.dom b y hb;omega
 have hd:∀ i,h.blk i=some .dead→(h.push (.cells e2 true vs)).blk i=some .dead:=fun i hi=>by
  rw [S7,if_neg]
  ·exact hi
  ·intro hh;subst hh;rw [r.wf _ (Nat.le_refl _)] at hi;cases hi
 have gr:Gr μ h (upd μ h.next (g,δ)) (h.push (.cells e2 true vs)):=⟨hm,hd⟩
 have hpu:∀ i,i<h.next→(h.push (.cells e2 true vs)).blk i=h.blk i:=fun i hi=>by rw [S7,if_neg (by omega)]
 have hmu:∀ i y,upd μ h.next (g,δ) i=some y→(i=h.next∧y=(g,δ))∨(i<h.next∧μ i=some y):=fun i y hi=>by
  unfold upd at hi;split at hi
  ·cases hi;exact .inl ⟨‹_›,rfl⟩
  ·exact .inr ⟨r.dom _ _ hi,hi⟩
 have hnx:(h.push (.cells e2 true vs)).next=h.next+1:=rfl
 have hro:∀ b,¬ (h.push (.cells e2 true vs)).writable b:=by
  intro b hb;unfold H.writable at hb;rw [S7] at hb;by_cases hbn:b=h.next
  ·rw [if_pos hbn] at hb;cases hb
  ·rw [if_neg hbn] at hb;exact s.ro b hb
 have hlt:g<W.heap.size:=(Array.getElem?_eq_some_iff.1 hg).1;refine ⟨⟨⟨fun g hg=>(r.glob g hg).imp (fun x=>hm _ _ x) (fun x=>hd g x),?_,?_,?_,?_,?_,?_⟩,hro,s.own.push _⟩,gr⟩
 ·intro b hb;rw [hnx] at hb;rw [S7,if_neg (by omega)];exact r.wf b (by omega)
 ·intro b y hb;rw [hnx];rcases hmu b y hb with ⟨h1,_⟩|⟨h1,_⟩<;>omega
 ·intro b g' δ' hb;rcases hmu b _ hb with ⟨_,h1⟩|⟨_,h1⟩
  ·cases h1;exact hlt
  ·exact r.bound b g' δ' h1
 ·intro b g' δ' e' ro c hb hc;rcases hmu b _ hb with ⟨h1,h2⟩|⟨h1,h2⟩
  ·subst h1;cases h2
   rw [S7,if_pos rfl] at hc;cases hc
   exact ⟨c',fr,⟨e,(fun hh=>by cases hh),hg⟩,hlen,fun i v hi=>let ⟨v',a,b⟩:=hv i v hi;⟨v',a,gr.vr b⟩,fun hh=>by cases hh⟩
  ·rw [hpu b h1] at hc;obtain ⟨c3,fr3,h3,h4,h5,h6⟩:=r.cells b g' δ' e' ro c h2 hc;exact ⟨c3,fr3,h3,h4,fun i v hi=>let ⟨v',a,b⟩:=h5 i v hi;⟨v',a,gr.vr b⟩,h6⟩
 ·intro b g' δ' es cl hb hc;rcases hmu b _ hb with ⟨h1,h2⟩|⟨h1,h2⟩
  ·subst h1;cases h2
   rw [S7,if_pos rfl] at hc;cases hc
  ·rw [hpu b h1] at hc;obtain ⟨h3,es',h4,h5,h6⟩:=r.maps b g' δ' es cl h2 hc;exact ⟨h3,es',h4,h5,fun j en hj=>let ⟨e',a,b,c,d⟩:=h6 j en hj;⟨e',a,b,c,gr.vr d⟩⟩
 ·intro b b' g' δ1 δ2 _ _ hw _;exact absurd hw (hro b)
theorem St.none (s:St P W μ h l) (e2:TypeId):St P W μ (h.push (.cells e2 true [])) (pt h.next (.cells e2 true [])::l)∧Gr μ h μ (h.push (.cells e2 true [])):=by
 obtain ⟨r1,x1⟩:=s.rel.npush (x:=.cells e2 true []) (by simp);refine ⟨⟨r1,fun b hb=>?_,s.own.push _⟩,⟨fun _ _ e=>e,x1.dead⟩⟩;unfold H.writable at hb;rw [S7] at hb;by_cases hbn:b=h.next
 ·rw [if_pos hbn] at hb;cases hb
 ·rw [if_neg hbn] at hb;exact s.ro b hb
end
def Imp (P:Program) (W:World) (u:List Value) (φ:List Value→List HP→Prop):Prop :=
 ∀ μ h l,St P W μ h l→∃ μ' h' vs ps,St P W μ' h' (ps++l)∧Gr μ h μ' h'∧VRs P μ' h' W vs u∧φ vs ps
def Eo5:Value→Bool
 | .bool _=>true
 | .int _ _=>true
 | .string _=>true
 | _=>false
section
variable {P:Program} {W:World}
theorem Imp.mono {u:List Value} {φ ψ:List Value→List HP→Prop} (i:Imp P W u φ) (h:∀ vs ps,φ vs ps→ψ vs ps):Imp P W u ψ:=fun μ hh l s =>
 let ⟨μ',h',vs,ps,a,b,c,d⟩:=i μ hh l s;⟨μ',h',vs,ps,a,b,c,h _ _ d⟩
theorem VRs.flat {μ:Mu} {h:H}:∀ {u:List Value},u.all Eo5=true→VRs P μ h W u u
 | [],_=>.nil
 | v::u,hp=>by
  simp only [List.all_cons,Bool.and_eq_true] at hp;refine .cons _ _ _ _ ?_ (VRs.flat hp.2)
  cases v<;>first|exact .bool _|exact .int _ _|exact .str _|exact absurd hp.1 (by simp [Eo5])
theorem Imp.flat {u:List Value} (hp:u.all Eo5=true):Imp P W u fun vs ps=>vs=u∧ps=[]:=fun μ h l s =>
 ⟨μ,h,u,[],s,Gr.refl _ _,VRs.flat hp,rfl,rfl⟩
theorem Imp.nil:Imp P W [] fun vs ps=>vs=[]∧ps=[]:=Imp.flat rfl
theorem Imp.app {u u':List Value} {φ ψ:List Value→List HP→Prop} (i:Imp P W u φ) (j:Imp P W u' ψ):Imp P W (u++u') fun vs ps=>∃ v1 v2 p1 p2,vs=v1++v2∧ps=p2++p1∧φ v1 p1∧ψ v2 p2:=fun μ h l s=>by
 obtain ⟨μ1,h1,v1,p1,s1,g1,r1,f1⟩:=i μ h l s;obtain ⟨μ2,h2,v2,p2,s2,g2,r2,f2⟩:=j μ1 h1 (p1++l) s1;exact ⟨μ2,h2,v1++v2,p2++p1,by rw [List.append_assoc];exact s2,g1.trans g2,(g2.vrs r1).append r2,v1,v2,p1,p2,rfl,rfl,f1,f2⟩
theorem Imp.nilSl (sz:Nat) (e:TypeId) (hs:0<sz):Imp P W [.slice .none 0 0] fun vs ps=>vs=[.slice .none 0 0]∧ps=[slC true e sz .none 0 0 []]:=fun μ h l s =>
 ⟨μ,h,_,[slC true e sz .none 0 0 []],⟨s.rel,s.ro,s.own.slNil true e hs⟩,Gr.refl _ _,.cons _ _ _ _ (.nils _ _ (Nat.le_refl _)) .nil,rfl,rfl⟩
theorem Imp.slice {a:Addr} {len cap:Nat} {us:List Value} {φ:List Value→List HP→Prop} (sz:Nat) (e:TypeId) (hs:0<sz) (hl:len≤cap) (hu:us.length=cap*sz)
  (hc:∀ (i:Nat) (v:Value),us[i]?=some v→W.cell? (a.add i)=some v) (i:Imp P W us φ) :
  Imp P W [.slice (some a) len cap] fun vs ps=>∃ a' ws qs,φ ws qs∧ws.length=us.length∧vs=[.slice (some a') len cap]∧ps=slC true e sz (some a') len cap (ws.take (len*sz))::qs:=fun μ h l s=>by
 obtain ⟨μ1,h1,ws,qs,s1,g1,r1,f1⟩:=i μ h l s;have hlw:=r1.length;rcases Nat.eq_zero_or_pos cap with h0|hpos
 ·subst h0;obtain rfl:len=0:=by omega
  obtain ⟨s2,g2⟩:=s1.none e;refine ⟨μ1,_,[.slice (some ⟨h1.next,0,.none⟩) 0 0],slC true e sz (some ⟨h1.next,0,.none⟩) 0 0 (ws.take (0*sz))::qs,⟨s2.rel,s2.ro,?_⟩,g1.trans g2,.cons _ _ _ _ (.slZero _ _ _) .nil,_,ws,qs,f1,hlw.symm,rfl,rfl⟩;have:=s2.own;refine Own.slShut (pre:=[]) (post:=[]) (by simpa using this) ⟨by simp,Nat.le_refl _,by simp,by simp,by simp,hs,by simp⟩
 ·have hup:0<us.length:=by rw [hu];exact Nat.mul_pos hpos hs
  obtain ⟨b,o,sp⟩:=a;have hcell0:=hc 0 us[0] (List.getElem?_eq_getElem hup);have hsp:sp=.none:=by simpa [Addr.add] using World.cell?_spot hcell0
  subst hsp
  have row:∃ c' e' fr,W.heap[b]?=some (.cells c' e' fr)∧∀ (i:Nat) (v:Value),us[i]?=some v→c'[o+i]?=some v:=by
   have h1:=hcell0;rw [Al8] at h1;unfold World.cell? at h1;simp only at h1
   split at h1
   ·rename_i c' e' fr hb
    refine ⟨c',e',fr,hb,fun i v hi=>?_⟩;have h2:=hc i v hi;rw [Al8] at h2;unfold World.cell? at h2;simp only [hb] at h2;exact h2
   ·cases h1
  obtain ⟨c',e',fr,hb,hrow⟩:=row
  have hsz:o+us.length≤c'.size:=by
   have hlast:=hrow (us.length-1) us[us.length-1] (List.getElem?_eq_getElem (by omega));have:=(Array.getElem?_eq_some_iff.1 hlast).1;omega
  obtain ⟨s2,g2⟩:=s1.win (δ:=o) e hb ws (by omega) (fun i v hi=>by
   obtain ⟨v',h3,h4⟩:=r1.get hi;exact ⟨v',hrow i v' h3,h4⟩)
  refine ⟨_,_,[.slice (some ⟨h1.next,0,.none⟩) len cap],slC true e sz (some ⟨h1.next,0,.none⟩) len cap (ws.take (len*sz))::qs,⟨s2.rel,s2.ro,?_⟩,g1.trans g2,.cons _ _ _ _ ?_ .nil,_,ws,qs,f1,hlw.symm,rfl,rfl⟩
  ·have:=s2.own;have hle:len*sz≤ws.length:=by rw [← hlw,hu];exact Nat.mul_le_mul_right _ hl
   refine Own.slShut (pre:=[]) (post:=ws.drop (len*sz)) (by simpa using this) ⟨by simp;omega,hl,?_,by simp,by simp,hs,by simp⟩;rw [List.length_drop,← hlw,hu,Nat.sub_mul];omega
  ·exact .sl _ _ _ _ _ _ _ (by unfold upd;rw [if_pos rfl]) hl (fun _=>by omega)
theorem Imp.run {cutsOf:FuncId→Cuts} (hm:P.follows .mixedOrders=true) (hng:∀ f,(cutsOf f).globs≤P.globals.size) {f:FuncId} {args:List Value} {φ:List Value→List HP→Prop} (i:Imp P W args φ)
  (hc:∀ vs ps,φ vs ps→∀ h r,Own h (ps++r)→∃ h',Call P cutsOf f vs h=some (.bool true,h')):Calls P f ⟨args⟩ W fun e w=>e=.returned (.bool true)∧Below W.heap.size W w:=by
 obtain ⟨μ0,h0,s0⟩:=St.start P W;obtain ⟨μ,h,vs,ps,s,_,hv,hφ⟩:=i μ0 h0 [] s0;obtain ⟨h',e⟩:=hc vs ps hφ h [] s.own;refine ((Hf5 hm hng f vs h _ _ e).2 μ W args s.rel hv).mono fun ex w ⟨u,he,μ1,x,r,hu⟩=>?_;obtain rfl:=hu.bool_inv;exact ⟨he,x.os,x.tape,x.output,x.size,fun k hk=>x.old k hk fun b δ _=>s.ro b⟩
end
section
variable {H:Type} {enc:TypeId × Value→H} {P:Program}
theorem Gf9 (hl:laidOutB P=true) {W W':World} (hb:Below W.heap.size W W'):∀ {ts:List TypeId} {vs:List Value} {ds:List (DataW H)} {ps:List MemPlace},(∀ t ∈ ts,P.readableRec t=true∧t<P.types.size) →
  DataW.TrodAll enc P W 0 (fun _=>true) true ts vs ds ps→(∀ x ∈ ps,x.block<W.heap.size)→DataW.TrodAll enc P W' 0 (fun b=>decide (b<W.heap.size)) true ts vs ds ps
 | [],[],[],_,_,h,_=>h
 | t::ts,v::vs,d::ds,_,ht,⟨p,q,h1,h2,e⟩,hlt =>
  ⟨p,q,Below.trod hl (ht t (by simp)).1 (ht t (by simp)).2 h1 hb (fun x hx=>hlt x (by rw [e];exact List.mem_append_left _ hx)),Gf9 hl hb (fun t ht'=>ht t (by simp [ht'])) h2 (fun x hx=>hlt x (by rw [e];exact List.mem_append_right _ hx)),e⟩
theorem Jb8 {f:Func} {s:ChangeSpec} {W W':World} {args:Array Value} {ds gs:List (DataW H)} {before:List MemPlace} {tb:TypeId} (hl:laidOutB P=true)
  (ht:∀ t ∈ f.params.toList,P.readableRec t=true∧t<P.types.size) (hr:f.resultTypes=#[tb]) (htb:P.underlying tb=some .bool) (hvars:s.vars=[])
  (hs:∀ ds gs:List (DataW H),ds.length=f.params.size→s.fn H (ds++gs)={ results:=[.lit (.bool true)],args:=ds,vars:=[] }∨gs≠[])
  (hW:DataW.Whole enc P f.params.toList s.vars false W args.toList ds gs before) (hb:Below W.heap.size W W'):s.post enc P f false true false false W args (.bool true) W':=by
 have hW':=hW;obtain ⟨p,q,hA,hV,rfl,hfz,hnd⟩:=hW;rw [hvars] at hV
 have hgs:gs=[]∧q=[]:=by
  cases gs with
  | nil=>exact ⟨rfl,hV⟩
  | cons a b=>exact hV.elim
 obtain ⟨rfl,rfl⟩:=hgs
 have hlen:ds.length=f.params.size:=by
  have:∀ {ts:List TypeId} {vs:List Value} {ds:List (DataW H)} {ps:List MemPlace},DataW.TrodAll enc P W 0 (fun _=>true) true ts vs ds ps→ds.length=ts.length:=by
   intro ts
   induction ts with
   | nil=>intro vs ds ps h;cases vs<;>cases ds<;>simp_all [DataW.TrodAll]
   | cons t ts ih =>
    intro vs ds ps h
    cases vs<;>cases ds<;>simp [DataW.TrodAll] at h
    obtain ⟨p,hp,q,hq,e⟩:=h;simp [ih hq]
  simpa using this hA
 have hfn:s.fn H (ds++[])={ results:=[.lit (.bool true)],args:=ds,vars:=[] }:=(hs ds [] hlen).resolve_right (by simp);refine ⟨ds,[],p++[],[],p,[],hW',?_,?_,?_,hb.frame _,fun hh=>by cases hh⟩
 ·rw [hfn,hr];show DataW.TrodAll enc P W' _ _ _ [tb] [.bool true] [.lit (.bool true)] [];exact ⟨[],[],shut_bool htb _,rfl,rfl⟩
 ·rw [hfn];exact Gf9 hl hb ht hA (fun x hx=>hW'.lt x (by simpa using hx))
 ·rw [hfn,hvars];rfl
end
end Go.NN

namespace Go.NN
open Go.ChangeShapes Go.WideShapes Go.RowKit
theorem Own.weak1 {h:H} {l:List HP} (i:Nat) (o:Own h l):Own h (l.eraseIdx i):=by
 by_cases hi:i<l.length
 ·exact (o.front (List.getElem?_eq_getElem hi)).tail
 ·rw [List.eraseIdx_of_length_le (by omega)];exact o
theorem Jy9 {l:List HP} (n:Nat) {m:HM} (h:sl l m):sl (l.take n) m:=by
 rw [← List.take_append_drop n l] at h;have:=Gy9 h;obtain ⟨a,b,d,ha,hb,hp,hl⟩:=this;exact Hz9 hp ha
theorem Imp.weak {P:Program} {W:World} {u:List Value} {φ ψ:List Value→List HP→Prop} (i:Imp P W u φ) (h:∀ vs ps,φ vs ps→∃ qs,ψ vs qs∧∀ hh r,Own hh (ps++r)→Own hh (qs++r)):Imp P W u ψ:=fun μ hh l s=>by
 obtain ⟨μ',h',vs,ps,a,b,c,d⟩:=i μ hh l s;obtain ⟨qs,e,f⟩:=h _ _ d;exact ⟨μ',h',vs,qs,⟨a.rel,a.ro,f _ _ a.own⟩,b,c,e⟩
def Av6 (P:Program) (W:World) {α τ:Type} (t:TypeId) (L:τ→α→List Value) (F:τ→α→HP) (good:α→Prop):Prop :=
 ∀ (H:Type) (enc:TypeId × Value→H) (base fuel:Nat) (cs:List Value) (x:DataW H × List MemPlace),DataW.trod enc P W base (fun _=>true) true fuel t cs=some x →
  ∃ y,good y∧Imp P W cs fun vs ps=>∃ g,vs=L g y∧ps=[F g y]
section
variable {P:Program} {W:World} {α τ:Type} {t e:TypeId}
theorem Imp.emp {u:List Value} (hp:u.all Eo5=true):Imp P W u fun vs ps=>vs=u∧ps=[sl []]:=(Imp.flat hp).weak fun vs ps ⟨h1,h2⟩=>⟨[sl []],⟨h1,rfl⟩,fun hh r o=>by
 subst h2;exact Own.group (l:=[]) o⟩
theorem Av6.int {k:IntKind} (ht:P.underlying t=some (.int k)):Av6 P W t (fun (_:Unit) (n:Int)=>[.int k n]) (fun _ _=>sl []) (fun n=>(Lit.int k n).wf=true):=fun H enc base fuel cs x h=>by
 obtain ⟨n,rfl,_,hw⟩:=DataW.trod_int ht h;exact ⟨n,hw,(Imp.emp (by simp [Eo5])).mono fun vs ps ⟨h1,h2⟩=>⟨(),h1,h2⟩⟩
theorem Av6.bool (ht:P.underlying t=some .bool):Av6 P W t (fun (_:Unit) (b:Bool)=>[.bool b]) (fun _ _=>sl []) (fun _=>True):=fun H enc base fuel cs x h=>by
 obtain ⟨n,rfl,_⟩:=DataW.trod_bool ht h;exact ⟨n,trivial,(Imp.emp (by simp [Eo5])).mono fun vs ps ⟨h1,h2⟩=>⟨(),h1,h2⟩⟩
theorem Av6.string (ht:P.underlying t=some .string):Av6 P W t (fun (_:Unit) (s:ByteArray)=>[.string s]) (fun _ _=>sl []) (fun s=>s.size≤maxLen):=fun H enc base fuel cs x h=>by
 obtain ⟨s,rfl,_,hs⟩:=DataW.trod_string ht h;exact ⟨s,hs,(Imp.emp (by simp [Eo5])).mono fun vs ps ⟨h1,h2⟩=>⟨(),h1,h2⟩⟩
theorem Imp.many {L:τ→α→List Value} {F:τ→α→HP}:∀ (cs:List (List Value)) (ys:List α),ys.length=cs.length →
  (∀ (i:Nat) (c:List Value) (y:α),cs[i]?=some c→ys[i]?=some y→Imp P W c fun vs ps=>∃ g,vs=L g y∧ps=[F g y]) →
  Imp P W cs.flatten fun vs ps=>∃ gs:List τ,gs.length=ys.length∧vs=(List.zip gs ys).flatMap (fun p=>L p.1 p.2)∧ps=[O0 F gs ys]
 | [],[],_,_=>(Imp.emp rfl).mono fun vs ps ⟨h1,h2⟩=>⟨[],rfl,h1,h2⟩
 | c::cs,y::ys,hl,hi=>by
  have i1:=hi 0 c y rfl rfl;have i2:=Imp.many cs ys (by simpa using hl) (fun i c' y' h1 h2=>hi (i+1) c' y' (by simpa using h1) (by simpa using h2));rw [List.flatten_cons];refine (i1.app i2).weak fun vs ps ⟨v1,v2,p1,p2,h1,h2,⟨g,h3,h4⟩,⟨gs,hgl,h5,h6⟩⟩=>⟨[O0 F (g::gs) (y::ys)],⟨g::gs,by simp [hgl],?_,rfl⟩,fun hh r o=>?_⟩
  ·rw [h1,h3,h5];rfl
  ·subst h2;subst h4;subst h6;have o1:Own hh (F g y::O0 F gs ys::r):=Own.perm (l:=O0 F gs ys::F g y::r) o (List.Perm.swap _ _ _);have:=Own.all2_app (ts:=[g]) (xs:=[y]) rfl (Own.all2_one o1);exact this
 | [],_::_,hl,_=>by simp at hl
 | _::_,[],hl,_=>by simp at hl
theorem Jp5 {β γ:Type} (n:Nat):∀ (l:List β) (r:List γ),(List.zip l r).take n=List.zip (l.take n) (r.take n):=by
 induction n with
 | zero=>intro l r;simp
 | succ n ih=>intro l r;cases l<;>cases r<;>simp [ih]
theorem H97 {β γ δ:Type} (f:β→γ→δ) (n:Nat):∀ (l:List β) (r:List γ),(List.zipWith f l r).take n=List.zipWith f (l.take n) (r.take n):=by
 induction n with
 | zero=>intro l r;simp
 | succ n ih=>intro l r;cases l<;>cases r<;>simp [ih]
theorem Hg6 {sz:Nat}:∀ (l:List (List Value)) (_:∀ c ∈ l,c.length=sz) (i:Nat) (v:Value),l.flatten[i]?=some v→∃ c,l[i / sz]?=some c∧c[i%sz]?=some v
 | [],_,i,v,h=>by simp at h
 | c::l,hl,i,v,h=>by
  have hc:=hl c (by simp);rw [List.flatten_cons] at h;by_cases hi:i<sz
  ·rw [List.getElem?_append_left (by omega)] at h;rw [Nat.div_eq_of_lt hi,Nat.mod_eq_of_lt hi];exact ⟨c,rfl,h⟩
  ·rw [List.getElem?_append_right (by omega),hc] at h
   have hsz:0<sz:=by
    rcases Nat.eq_zero_or_pos sz with h0|h0
    ·exfalso;subst h0
     have:∀ l:List (List Value),(∀ c ∈ l,c.length=0)→l.flatten=[]:=by
      intro l;induction l with
      | nil=>intro _;rfl
      | cons a l ih=>intro h;rw [List.flatten_cons,List.eq_nil_of_length_eq_zero (h a (by simp)),ih fun c hc=>h c (by simp [hc])];rfl
     rw [this l fun c hc=>hl c (by simp [hc])] at h;simp at h
    ·exact h0
   obtain ⟨c2,h1,h2⟩:=Hg6 l (fun c hc=>hl c (by simp [hc])) (i-sz) v h;obtain ⟨k,rfl⟩:∃ k,i=k+sz:=⟨i-sz,by omega⟩
   rw [Nat.add_sub_cancel] at h1 h2;rw [Nat.add_div_right _ hsz,Nat.add_mod_right];exact ⟨c2,by simpa using h1,h2⟩
theorem Av6.slice {L:τ→α→List Value} {F:τ→α→HP} {good:α→Prop} {sz:Nat} (E:TypeId) (ht:P.underlying t=some (.slice e)) (hc:P.cellsOf e=sz) (hs:0<sz) (hL:∀ g y,(L g y).length=sz) (i:Av6 P W e L F good) :
  Av6 P W t (fun (g:(Option Addr × Nat) × List τ) (ys:List α)=>[.slice g.1.1 ys.length g.1.2])
   (fun g ys=>sl [slC true E sz g.1.1 ys.length g.1.2 ((List.zip g.2 ys).flatMap fun p=>L p.1 p.2),O0 F g.2 ys,pu (g.2.length=ys.length)]) (fun ys=>ys.length≤maxLen∧∀ y ∈ ys,good y):=fun H enc base fuel cs x h=>by
 rcases DataW.trod_slice ht h with ⟨rfl,_⟩|⟨a,len,cap,elems,rest,n,_,rfl,_,hb,hl,hm,hlen,hel,hsp,_⟩
 ·refine ⟨[],⟨by simp,by simp⟩,(Imp.nilSl sz E hs).weak fun vs ps ⟨h1,h2⟩=>⟨_,⟨((none,0),[]),h1,rfl⟩,fun hh r o=>?_⟩⟩;subst h2;exact Own.group (l:=[slC true E sz none 0 0 [],O0 F [] [],pu (([]:List τ).length=([]:List α).length)]) ((Own.inpure (φ:=([]:List τ).length=([]:List α).length) rfl (Own.all2_nil (F:=F) o)).perm ((List.Perm.swap _ _ _).trans ((List.Perm.cons _ (List.Perm.swap _ _ _)).trans (List.Perm.swap _ _ _))))
 ·obtain ⟨hrl,hre⟩:=hsp rfl
  have each:∀ j,j<cap→∃ (c:List Value) (y:α),good y∧c.length=sz∧(∀ o v,c[o]?=some v→W.cell? ((a.add (j*sz)).add o)=some v)∧Imp P W c fun vs ps=>∃ g,vs=L g y∧ps=[F g y]:=by
   intro j hj
   have hb':∃ z,(W.cells? base (a.add (j*P.cellsOf e)) (P.cellsOf e)).bind (DataW.trod enc P W base (fun _=>true) true n e)=some z:=by
    by_cases hj2:j<len
    ·exact ⟨elems[j]'(by omega),by rw [hel j hj2,List.getElem?_eq_getElem]⟩
    ·have:=hre (j-len) (by omega);rw [show len+(j-len)=j by omega] at this;exact ⟨rest[j-len]'(by omega),by rw [this,List.getElem?_eq_getElem]⟩
   obtain ⟨z,hz⟩:=hb';rw [hc,Option.bind_eq_some_iff] at hz;obtain ⟨c,hcs,hz⟩:=hz;obtain ⟨y,hy,im⟩:=i H enc base n c z hz;obtain ⟨_,hcl,hcell⟩:=World.cells?_some hcs;refine ⟨c,y,hy,hcl,fun o v ho=>?_,im⟩;have hlt:=(List.getElem?_eq_some_iff.1 ho).1;rw [hcell o (by omega)];exact ho
  have all:∀ m,m≤cap→∃ (cs:List (List Value)) (ys:List α),cs.length=m∧ys.length=m∧(∀ y ∈ ys,good y)∧(∀ c ∈ cs,c.length=sz)∧(∀ (j:Nat) (c:List Value),cs[j]?=some c→∀ o v,c[o]?=some v→W.cell? ((a.add (j*sz)).add o)=some v) ∧
    (∀ (i:Nat) (c:List Value) (y:α),cs[i]?=some c→ys[i]?=some y→Imp P W c fun vs ps=>∃ g,vs=L g y∧ps=[F g y]):=by
   intro m
   induction m with
   | zero=>intro _;exact ⟨[],[],rfl,rfl,by simp,by simp,by simp,by simp⟩
   | succ m ih =>
    intro hm';obtain ⟨cs,ys,h1,h2,h3,h4,h5,h6⟩:=ih (by omega);obtain ⟨c,y,g1,g2,g3,g4⟩:=each m (by omega)
    have snoc:∀ {β:Type} {l:List β} {b b':β} {j:Nat},(l++[b])[j]?=some b'→l[j]?=some b'∨(j=l.length∧b'=b):=by
     intro β l b b' j h;by_cases hj:j<l.length
     ·rw [List.getElem?_append_left hj] at h;exact .inl h
     ·rw [List.getElem?_append_right (by omega)] at h;have:=(List.getElem?_eq_some_iff.1 h).1;simp at this;have hj2:j=l.length:=by omega
      subst hj2;simp at h;exact .inr ⟨rfl,h.symm⟩
    refine ⟨cs++[c],ys++[y],by simp [h1],by simp [h2],?_,?_,?_,?_⟩
    ·intro z hz;rw [List.mem_append] at hz;rcases hz with hz|hz
     ·exact h3 z hz
     ·simp at hz;subst hz;exact g1
    ·intro z hz;rw [List.mem_append] at hz;rcases hz with hz|hz
     ·exact h4 z hz
     ·simp at hz;subst hz;exact g2
    ·intro j d hd;rcases snoc hd with hd|⟨rfl,rfl⟩
     ·exact h5 j d hd
     ·rw [h1];exact g3
    ·intro j d z hd hz;rcases snoc hd with hd|⟨rfl,rfl⟩
     ·have:=(List.getElem?_eq_some_iff.1 hd).1;rw [List.getElem?_append_left (by omega)] at hz;exact h6 j d z hd hz
     ·rw [List.getElem?_append_right (by omega)] at hz;simp [h1,h2] at hz;subst hz;exact g4
  obtain ⟨ds,ys,h1,h2,h3,h4,h5,h6⟩:=all cap (Nat.le_refl _)
  have hfl:ds.flatten.length=cap*sz:=by
   rw [← h1];clear h1 h2 h5 h6
   induction ds with
   | nil=>simp
   | cons d ds ih=>rw [List.flatten_cons,List.length_append,h4 d (by simp),ih fun c hc=>h4 c (by simp [hc]),List.length_cons,Nat.add_mul];omega
  have im:=Imp.slice (W:=W) (P:=P) (a:=a) (len:=len) (cap:=cap) sz E hs hl hfl (fun j v hj=>by
   obtain ⟨c,hc1,hc2⟩:=Hg6 ds h4 j v hj;have:=h5 _ c hc1 _ v hc2
   rwa [Addr.add_add,show j / sz*sz+j%sz=j by rw [Nat.mul_comm];exact Nat.div_add_mod j sz] at this) (Imp.many ds ys (by omega) h6)
  refine ⟨ys.take len,⟨by rw [List.length_take];omega,fun y hy=>h3 y (List.mem_of_mem_take hy)⟩,im.weak fun vs ps ⟨a',ws,qs,⟨gs,hgl,hw,hq⟩,hwl,hv,hp⟩=>?_⟩;have hyl:(ys.take len).length=len:=by rw [List.length_take];omega
  refine ⟨_,⟨((some a',cap),gs.take len),by show vs=[Value.slice (some a') (ys.take len).length cap];rw [hyl];exact hv,rfl⟩,fun hh r o=>?_⟩;subst hp;subst hq;show Own hh (sl [slC true E sz (some a') (ys.take len).length cap ((List.zip (gs.take len) (ys.take len)).flatMap fun p=>L p.1 p.2),O0 F (gs.take len) (ys.take len),pu ((gs.take len).length=(ys.take len).length)]::r);rw [hyl]
  have e1:ws.take (len*sz)=(List.zip (gs.take len) (ys.take len)).flatMap fun p=>L p.1 p.2:=by
   rw [hw,Hr4 (f:=fun p:τ × α=>L p.1 p.2) (fun p=>hL p.1 p.2),Jp5]
  rw [e1] at o
  have o2:Own hh (slC true E sz (some a') len cap ((List.zip (gs.take len) (ys.take len)).flatMap fun p=>L p.1 p.2)::O0 F (gs.take len) (ys.take len)::r):=by
   refine (Own.head (p:=O0 F gs ys) (q:=O0 F (gs.take len) (ys.take len)) (fun m hm=>?_) (o.perm (List.Perm.swap _ _ _))).perm (List.Perm.swap _ _ _);unfold O0 at hm ⊢;rw [← H97];exact Jy9 _ hm
  exact Own.group (l:=[slC true E sz (some a') len cap ((List.zip (gs.take len) (ys.take len)).flatMap fun p=>L p.1 p.2),O0 F (gs.take len) (ys.take len),pu ((gs.take len).length=len)])
   ((Own.inpure (φ:=(gs.take len).length=len) (by rw [List.length_take,hgl];omega) o2).perm ((List.Perm.swap _ _ _).trans (List.Perm.cons _ (List.Perm.swap _ _ _))))
end
end Go.NN
namespace Go.NN
open Go.ChangeShapes Go.WideShapes Go.RowKit
def Hi6 (P:Program) (W:World) {α τ:Type} (ts:List TypeId) (L:τ→α→List Value) (F:τ→α→HP) (good:α→Prop):Prop :=
 ∀ (H:Type) (enc:TypeId × Value→H) (base fuel:Nat) (css:List (List Value)),css.length=ts.length →
  (∀ (i:Nat) (t:TypeId) (cs:List Value),ts[i]?=some t→css[i]?=some cs→∃ x,DataW.trod enc P W base (fun _=>true) true fuel t cs=some x) →
  ∃ y,good y∧Imp P W css.flatten fun vs ps=>∃ g,vs=L g y∧ps=[F g y]
section
variable {P:Program} {W:World} {α τ α' τ':Type} {t:TypeId} {L:τ→α→List Value} {F:τ→α→HP} {good:α→Prop} {L':τ'→α'→List Value} {F':τ'→α'→HP} {good':α'→Prop}
theorem Hi6.nil:Hi6 P W [] (fun (_:Unit) (_:Unit)=>[]) (fun _ _=>sl []) (fun _=>True):=fun H enc base fuel css hl _=>by
 obtain rfl:=List.length_eq_zero_iff.1 hl;exact ⟨(),trivial,(Imp.emp rfl).mono fun vs ps ⟨h1,h2⟩=>⟨(),h1,h2⟩⟩
theorem Hi6.cons {ts:List TypeId} (i:Av6 P W t L F good) (j:Hi6 P W ts L' F' good') :
  Hi6 P W (t::ts) (fun (g:τ × τ') (y:α × α')=>L g.1 y.1++L' g.2 y.2) (fun g y=>sl [F g.1 y.1,F' g.2 y.2]) (fun y=>good y.1∧good' y.2):=fun H enc base fuel css hl ht=>by
 match css,hl with
 | cs::css,hl =>
  obtain ⟨x,hx⟩:=ht 0 t cs rfl rfl;obtain ⟨y,hy,im⟩:=i H enc base fuel cs x hx;obtain ⟨z,hz,jm⟩:=j H enc base fuel css (by simpa using hl) (fun k u c h1 h2=>ht (k+1) u c (by simpa using h1) (by simpa using h2));refine ⟨(y,z),⟨hy,hz⟩,?_⟩;rw [List.flatten_cons];refine (im.app jm).weak fun vs ps ⟨v1,v2,p1,p2,h1,h2,⟨g,h3,h4⟩,⟨g2,h5,h6⟩⟩=>⟨_,⟨(g,g2),by rw [h1,h3,h5],rfl⟩,fun hh r o=>?_⟩
  subst h2;subst h4;subst h6;exact Own.group (l:=[F g y,F' g2 z]) (Own.perm (l:=F' g2 z::F g y::r) o (List.Perm.swap _ _ _))
theorem Av6.as (i:Av6 P W t L F good) (c:∀ y,good y→∃ y',good' y'∧∀ g,∃ g',L' g' y'=L g y∧∀ hh r,Own hh (F g y::r)→Own hh (F' g' y'::r)):Av6 P W t L' F' good':=fun H enc base fuel cs x h=>by
 obtain ⟨y,hy,im⟩:=i H enc base fuel cs x h;obtain ⟨y',hy',hg⟩:=c y hy;refine ⟨y',hy',im.weak fun vs ps ⟨g,h1,h2⟩=>?_⟩;obtain ⟨g',h3,h4⟩:=hg g;exact ⟨_,⟨g',by rw [h1,h3],rfl⟩,fun hh r o=>by subst h2;exact h4 hh r o⟩
def Gi8 (P:Program) (all:Nat):Nat→List Field→Bool
 | o,[]=>o==all
 | o,f::fs=>f.offset==o && Gi8 P all (o+P.cellsOf f.type) fs
theorem Gz3 {all:Nat} {cs:List Value} (hl:cs.length=all):∀ {o:Nat} {fs:List Field},Gi8 P all o fs=true→(fs.map fun f=>(cs.drop f.offset).take (P.cellsOf f.type)).flatten=cs.drop o
 | o,[],h=>by
  simp only [Gi8,beq_iff_eq] at h;rw [List.drop_eq_nil_of_le (by omega)];rfl
 | o,f::fs,h=>by
  simp only [Gi8,Bool.and_eq_true,beq_iff_eq] at h;obtain ⟨rfl,h⟩:=h;rw [List.map_cons,List.flatten_cons,Gz3 hl h,← List.drop_drop,List.take_append_drop]
theorem Av6.struct {fs:Array Field} (ht:P.underlying t=some (.struct fs)) (hc:Gi8 P (P.cellsOf t) 0 fs.toList=true) (i:Hi6 P W (fs.toList.map (·.type)) L F good):Av6 P W t L F good:=fun H enc base fuel cs x h=>by
 obtain ⟨xs,n,rfl,_,hl,hxl,hf⟩:=DataW.trod_struct ht h;have e:=Gz3 (P:=P) (cs:=cs) hl hc;rw [List.drop_zero] at e
 obtain ⟨y,hy,im⟩:=i H enc base n (fs.toList.map fun f=>(cs.drop f.offset).take (P.cellsOf f.type)) (by simp) (fun k u c h1 h2=>by
  rw [List.getElem?_map,Option.map_eq_some_iff] at h1 h2;obtain ⟨f,h3,rfl⟩:=h1;obtain ⟨f2,h4,rfl⟩:=h2;rw [h3] at h4;cases h4
  have h5:=hf k f (by simpa using h3)
  have hlt:k<xs.length:=by
   have:=(List.getElem?_eq_some_iff.1 h3).1;rw [hxl];simpa using this
  exact ⟨xs[k],by rw [h5,List.getElem?_eq_getElem hlt]⟩)
 rw [e] at im;exact ⟨y,hy,im⟩
theorem Own.of_sl {h:H} {l r:List HP} (o:Own h (sl l::r)) (i:Nat) {p:HP} (hi:l[i]?=some p):Own h (p::r):=by
 have o2:=o.join;have hlt:=(List.getElem?_eq_some_iff.1 hi).1;have o3:=o2.front (i:=i) (by rw [List.getElem?_append_left hlt];exact hi);rw [List.eraseIdx_append_of_lt_length hlt] at o3;have o4:Own h (p::((l.eraseIdx i)++r)):=o3;have o5:Own h ((l.eraseIdx i)++(p::r)):=o4.perm List.perm_middle.symm;have:=o5.dropN (l.eraseIdx i).length
 rwa [List.drop_left] at this
theorem Hu0 {β γ:Type} (f:γ→Value):∀ (g:List β) (l:List γ),g.length=l.length→((List.zip g l).flatMap fun p=>[f p.2])=l.map f
 | [],[],_=>rfl
 | a::g,x::l,h=>by
  rw [List.zip_cons_cons,List.flatMap_cons,Hu0 f g l (by simpa using h)];rfl
 | [],_::_,h=>by simp at h
 | _::_,[],h=>by simp at h
theorem Av6.ints {k:IntKind} {e:TypeId} (E:TypeId) (ht:P.underlying t=some (.slice e)) (he:P.underlying e=some (.int k)) (hc:P.cellsOf e=1) :
  Av6 P W t (fun (g:Option Addr × Nat) (l:List Int)=>[.slice g.1 l.length g.2]) (fun g l=>slC true E 1 g.1 l.length g.2 (l.map (Value.int k))) (fun l=>l.length≤maxLen∧∀ n ∈ l,(Lit.int k n).wf=true) :=
 (Av6.slice E ht hc (by omega) (fun _ _=>rfl) (Av6.int he)).as fun l hl=>⟨l,hl,fun g=>⟨g.1,rfl,fun hh r o=>by
  have hp:=(o.of_sl 2 rfl).pure;have:=o.of_sl 0 rfl
  rwa [Hu0 (Value.int k) g.2 l hp] at this⟩⟩
theorem Ib8 {l:List Int} (h:∀ n ∈ l,(Lit.int .u8 n).wf=true):l.map (Value.int .u8)=A0 (l.map fun n=>UInt8.ofNat n.toNat):=by
 unfold A0;rw [List.map_map];refine List.map_congr_left fun n hn=>?_;have:=h n hn;simp only [Lit.wf,Bool.and_eq_true,decide_eq_true_eq] at this;have h1:IntKind.min .u8=0:=rfl;have h2:IntKind.max .u8=255:=rfl;rw [h1,h2] at this;simp only [Function.comp_apply,UInt8.toNat_ofNat']
 congr 1;omega
theorem Av6.bytes {e:TypeId} (E:TypeId) (ht:P.underlying t=some (.slice e)) (he:P.underlying e=some (.int .u8)) (hc:P.cellsOf e=1) :
  Av6 P W t (fun (g:Option Addr × Nat) (l:List UInt8)=>[.slice g.1 l.length g.2]) (fun g l=>slC true E 1 g.1 l.length g.2 (A0 l)) (fun l=>l.length≤maxLen) :=
 (Av6.ints E ht he hc).as fun l hl=>⟨l.map fun n=>UInt8.ofNat n.toNat,by simpa using hl.1,fun g=>⟨g,by simp,fun hh r o=>by
  rw [Ib8 hl.2] at o;simpa using o⟩⟩
end
end Go.NN
namespace Go.NN
open Go.ChangeShapes Go.WideShapes Go.RowKit
section
variable {P:Program} {W:World} {α τ:Type} {t:TypeId} {L:τ→α→List Value} {F:τ→α→HP} {good:α→Prop}
theorem Av6.argInt {k:IntKind} {H:Type} {enc:TypeId × Value→H} {base b0:Nat} {v:Value} {d:DataW H} {ps:List MemPlace} (ht:P.underlying t=some (.int k)) (hval:Value.okWide P W .any b0 t v) (h:DataW.Trod enc P W base (fun _=>true) true t v d ps) :
  ∃ n,(Lit.int k n).wf=true∧Imp P W [v] fun vs qs=>vs=[.int k n]∧qs=[]:=by
 obtain ⟨n,rfl,_,_,hw⟩:=open_int ht hval h;exact ⟨n,hw,Imp.flat (by simp [Eo5])⟩
theorem Imp.agg {u:List Value} {φ:List Value→List HP→Prop} (i:Imp P W u φ):Imp P W [.agg ⟨u⟩] fun vs ps=>∃ ws,vs=[.agg ⟨ws⟩]∧φ ws ps:=fun μ h l s=>by
 obtain ⟨μ1,h1,ws,ps,s1,g1,r1,f1⟩:=i μ h l s;exact ⟨μ1,h1,[.agg ⟨ws⟩],ps,s1,g1,.cons _ _ _ _ (.agg _ _ r1) .nil,ws,rfl,f1⟩
end
end Go.NN

namespace Go.NN
class Stp (G:Prop) (A:outParam Type) (S T:outParam (A→Prop)):Prop where
 ok:∀ a,S a→T a→G
class StpU (G:Prop) (S T:outParam Prop):Prop where
 ok:S→T→G
theorem Gu {G S T:Prop} [k:StpU G S T] (t:T) (s:S:=by first|rfl|assumption|omega|(simp only[gnd] at hb;omega)):G:=k.ok s t
class Stp3 (G:Prop) (A B C:outParam Type) (S T:outParam (A→B→C→Prop)):Prop where
 ok:∀ a b c,S a b c→T a b c→G
theorem Gt {G:Prop} {A B C:Type} {S T:A→B→C→Prop} [k:Stp3 G A B C S T] {a:A} {b:B} {c:C} (t:T a b c) (s:S a b c:=by first|rfl|assumption):G:=k.ok a b c s t
theorem Gs {G:Prop} {A:Type} {S T:A→Prop} [k:Stp G A S T] {a:A} (t:T a) (s:S a:=by first|rfl|assumption|omega|(simp only[gnd] at hb;omega)):G:=k.ok a s t
class HoleB (l:List HP) (b:Nat) (f:outParam (HP→List HP)):Prop where
 ix:∃ (i:Nat) (y:Blk),l[i]?=some (pt b y)∧∀ q,f q=l.set i q
instance HoleB.here {l:List HP} {b:Nat} {y:Blk}:HoleB (pt b y::l) b (fun q=>q::l):=⟨0,y,rfl,fun _=>rfl⟩
instance (priority:=low) HoleB.there {l:List HP} {p:HP} {b:Nat} {f:HP→List HP} [k:HoleB l b f]:HoleB (p::l) b (fun q=>p::f q):=⟨let ⟨i,y,hi,hl⟩:=k.ix;⟨i+1,y,by simpa using hi,fun q=>by simp [hl]⟩⟩
def By8 (cs:List Value) (o n:Nat):Option (List Value):=bif Nat.ble (o+n) cs.length then some ((cs.drop o).take n) else none
def Ep5 (cs:List Value) (o:Nat) (v:Value):Option (List Value):=bif Nat.blt o cs.length && v.oneCell then some (cs.set o v) else none
def Dk5 (cs:List Value) (o:Nat) (vs:List Value):Option (List Value):=bif Nat.ble (o+vs.length) cs.length && vs.all Value.oneCell then some (cs.take o++vs++cs.drop (o+vs.length)) else none
theorem E55 {cs xs:List Value} {o n:Nat} (h:By8 cs o n=some xs):o+n≤cs.length∧(cs.drop o).take n=xs:=by
 unfold By8 at h
 cases hb:Nat.ble (o+n) cs.length<;>rw [hb] at h
 ·cases h
 ·cases h;exact ⟨Nat.le_of_ble_eq_true hb,rfl⟩
theorem Iu8 {cs xs:List Value} {o:Nat} {v:Value} (h:Ep5 cs o v=some xs):o<cs.length∧v.oneCell=true∧cs.set o v=xs:=by
 unfold Ep5 at h
 cases hb:Nat.blt o cs.length<;>cases hv:v.oneCell<;>rw [hb,hv] at h<;>first|(cases h;done)|skip
 cases h;exact ⟨Nat.le_of_ble_eq_true hb,rfl,rfl⟩
theorem H99 {cs xs vs:List Value} {o:Nat} (h:Dk5 cs o vs=some xs):o+vs.length≤cs.length∧vs.all Value.oneCell=true∧cs.take o++vs++cs.drop (o+vs.length)=xs:=by
 unfold Dk5 at h
 cases hb:Nat.ble (o+vs.length) cs.length<;>cases hv:vs.all Value.oneCell<;>rw [hb,hv] at h<;>first|(cases h;done)|skip
 cases h;exact ⟨Nat.le_of_ble_eq_true hb,rfl,rfl⟩
class SameC (v:Value):Prop where
 ok:Ay9 v v=true
instance {a:Option Addr} {n c:Nat}:SameC (.slice a n c):=⟨Jm6 _ _ _⟩
instance {a:Option Addr}:SameC (.pointer a):=⟨Ja8 _⟩
instance {k:IntKind} {n:Int}:SameC (.int k n):=⟨I80 _ _⟩
instance {b:Bool}:SameC (.bool b):=⟨I33 _⟩
instance {s:ByteArray}:SameC (.string s):=⟨I69 _⟩
section
variable {l:List HP} {h:H} {α:Type} {Q:α→H→Prop} {b o:Nat} {e:TypeId} {ro:Bool} {cs:List Value}
instance {kk:IntKind} {k:Int→Option (α × H)} [k1:Lk l b e ro cs]:Stp (Tr l h (gInt kk ⟨b,o,none⟩ h k) Q) Int (fun n=>cs[o]?=some (.int kk n)) (fun n=>Tr l h (k n) Q):=⟨fun _=>Tr.xInt⟩
instance {k:Bool→Option (α × H)} [k1:Lk l b e ro cs]:Stp (Tr l h (gBool ⟨b,o,none⟩ h k) Q) Bool (fun n=>cs[o]?=some (.bool n)) (fun n=>Tr l h (k n) Q):=⟨fun _=>Tr.xBool⟩
instance {k:ByteArray→Option (α × H)} [k1:Lk l b e ro cs]:Stp (Tr l h (gStr ⟨b,o,none⟩ h k) Q) ByteArray (fun n=>cs[o]?=some (.string n)) (fun n=>Tr l h (k n) Q):=⟨fun _=>Tr.xStr⟩
instance {k:Option Addr→Option (α × H)} [k1:Lk l b e ro cs]:Stp (Tr l h (gPtr ⟨b,o,none⟩ h k) Q) (Option Addr) (fun n=>cs[o]?=some (.pointer n)) (fun n=>Tr l h (k n) Q):=⟨fun _=>Tr.xPtr⟩
instance {k:Option Addr→Nat→Nat→Option (α × H)} [k1:Lk l b e ro cs]:Stp3 (Tr l h (gSl ⟨b,o,none⟩ h k) Q) (Option Addr) Nat Nat (fun x y z=>cs[o]?=some (.slice x y z)) (fun x y z=>Tr l h (k x y z) Q):=⟨fun _ _ _=>Tr.xSl⟩
instance {k:Option Nat→Option (α × H)} [k1:Lk l b e ro cs]:Stp (Tr l h (gMap ⟨b,o,none⟩ h k) Q) (Option Nat) (fun n=>cs[o]?=some (.map n)) (fun n=>Tr l h (k n) Q):=⟨fun _=>Tr.xMap⟩
instance {k:Value→Option (α × H)} [k1:Lk l b e ro cs]:Stp3 (Tr l h (gFv ⟨b,o,none⟩ h k) Q) Fn (Array Value) (Array Value) (fun x y z=>cs[o]?=some (.func x y z)) (fun x y z=>Tr l h (k (.func x y z)) Q):=⟨fun _ _ _=>Tr.xFv⟩
instance {k:Value→Option (α × H)}:Stp (Tr l h (nth cs o k) Q) Value (fun v=>cs[o]?=some v) (fun v=>Tr l h (k v) Q):=⟨fun _=>Tr.nth⟩
instance {kk:IntKind} {a:Addr} {j n c sz:Nat} {k:Int→Option (α × H)} [k1:LkO l (some a) ro e sz n c cs]:Stp (Tr l h (gInt kk ((B4 a).add j) h k) Q) Int (fun v=>cs[j]?=some (.int kk v)) (fun v=>Tr l h (k v) Q):=⟨fun _=>Tr.xIntS⟩
instance {a:Addr} {j n c sz:Nat} {k:Bool→Option (α × H)} [k1:LkO l (some a) ro e sz n c cs]:Stp (Tr l h (gBool ((B4 a).add j) h k) Q) Bool (fun v=>cs[j]?=some (.bool v)) (fun v=>Tr l h (k v) Q):=⟨fun _=>Tr.xBoolS⟩
instance {a:Addr} {j n c sz:Nat} {k:Option Addr→Option (α × H)} [k1:LkO l (some a) ro e sz n c cs]:Stp (Tr l h (gPtr ((B4 a).add j) h k) Q) (Option Addr) (fun v=>cs[j]?=some (.pointer v)) (fun v=>Tr l h (k v) Q):=⟨fun _=>Tr.xPtrS⟩
instance {a:Addr} {j n c sz:Nat} {k:Option Addr→Nat→Nat→Option (α × H)} [k1:LkO l (some a) ro e sz n c cs]:Stp3 (Tr l h (gSl ((B4 a).add j) h k) Q) (Option Addr) Nat Nat (fun x y z=>cs[j]?=some (.slice x y z)) (fun x y z=>Tr l h (k x y z) Q):=⟨fun _ _ _=>Tr.xSlS⟩
instance {v:Value} {k:H→Option (α × H)} {f:HP→List HP} [k1:Lk l b e false cs] [k2:HoleB l b f]:Stp (Tr l h (pV ⟨b,o,none⟩ v h k) Q) (List Value) (fun cs'=>Ep5 cs o v=some cs') (fun cs'=>∀ h',Tr (f (pt b (.cells e false cs'))) h' (k h') Q):=⟨fun cs' hs t=>by
 obtain ⟨i,y,hi,hf⟩:=k2.ix;exact Tr.xV (Iu8 hs) (k2:=⟨i,y,hi,hf _⟩) t⟩
instance {n:Nat} {k:List Value→Option (α × H)} [k1:Lk l b e ro cs]:Stp (Tr l h (gAgg ⟨b,o,none⟩ n h k) Q) (List Value) (fun xs=>By8 cs o n=some xs) (fun xs=>Tr l h (k xs) Q):=⟨fun _ hs=>Tr.xAgg (E55 hs)⟩
instance {vs:List Value} {k:H→Option (α × H)} {f:HP→List HP} [k1:Lk l b e false cs] [k2:HoleB l b f]:Stp (Tr l h (pAgg ⟨b,o,none⟩ vs h k) Q) (List Value) (fun cs'=>Dk5 cs o vs=some cs') (fun cs'=>∀ h',Tr (f (pt b (.cells e false cs'))) h' (k h') Q):=⟨fun cs' hs t=>by
 obtain ⟨i,y,hi,hf⟩:=k2.ix;exact Tr.xPAgg (H99 hs) (k2:=⟨i,y,hi,hf _⟩) t⟩
instance (priority:=low) {c:Prop} [Decidable c] {x:Option (α × H)}:StpU (Tr l h (ck c x) Q) (c) (Tr l h x Q):=⟨Tr.ck⟩
def J61 (a:Option Addr) (f:Addr→Prop):Prop:=∀ x,a=some x→f x
theorem Gw {a:Option Addr} {f:Addr→Prop} (t:∀ x,a=some x→f x):J61 a f:=t
instance {a:Option Addr} {n c sz:Nat} {k:Addr→Option (α × H)} [k1:LkO l a ro e sz n c cs]:StpU (Tr l h (aSome a k) Q) (0<n) (J61 a fun x=>Tr l h (k x) Q):=⟨Tr.xSome⟩
instance {a:Option Addr} {n c sz m:Nat} {k:List Value→Option (α × H)} [k1:LkO l a ro e sz n c cs]:StpU (Tr l h (gCells a m h k) Q) (m=n*sz) (Tr l h (k cs) Q):=⟨Tr.xCells⟩
instance {sp:Option Nat} {n:Nat} {k:List Value→Option (α × H)} [k1:Lk l b e ro cs]:Stp (Tr l h (gCells (some ⟨b,o,sp⟩) n h k) Q) (List Value) (fun xs=>By8 cs o n=some xs) (fun xs=>Tr l h (k xs) Q):=⟨fun _ hs=>Tr.xCellsB (E55 hs)⟩
instance {a:Option Addr} {n c sz:Nat} {x:Option (α × H)} [k1:LkO l a ro e sz n c cs]:StpU (Tr l h (ckB (fitsOpen a e h) x) Q) (0=0) (Tr l h x Q):=⟨fun _ t=>Tr.xFits t⟩
instance {v:Value} {k:Option (α × H)} [k1:SameC v]:StpU (Tr l h (same v v k) Q) (0=0) (Tr l h k Q):=⟨fun _ t=>Tr.same k1.ok t⟩
instance {bs:List UInt8} {k:List UInt8→Option (α × H)}:StpU (Tr l h (asBytes (A0 bs) k) Q) (0=0) (Tr l h (k bs) Q):=⟨fun _ t=>Tr.asBytes (B28 _) t⟩
instance {k:Option (α × H)} [k1:Lk l b e ro cs]:StpU (Tr l h (ckB (liveA ⟨b,o,none⟩ h) k) Q) (0=0) (Tr l h k Q):=⟨fun _ t ow=>by
 obtain ⟨i,hi⟩:=k1.ix;have:liveA ⟨b,o,none⟩ h=true:=by simp only [liveA,ow.ptAt hi]
 rw [this];exact t ow⟩
theorem Hl3 {c j:Nat} (hc:j<c) (a:Option Addr) (n:Nat):E5 a (decide (j<c)) n=E5 a true n:=by rw [decide_eq_true hc]
theorem Gk2 (x:Addr) (j:Nat) (vs:List Value) (h:H) (k:H→Option α):pCells (E5 (some x) true j) vs h k=pAgg ((B4 x).add j) vs h k:=by
 obtain ⟨b,o,sp⟩:=x;simp only [Eg9,pCells,B4,Dl2,cond_true]
theorem H83 (x:Addr) (j n:Nat) (h:H) (k:List Value→Option α):gCells (E5 (some x) true j) n h k=gAgg ((B4 x).add j) n h k:=by
 obtain ⟨b,o,sp⟩:=x;simp only [Eg9,gCells,B4,Dl2,cond_true]
class LenC (cs:List Value) (n:Nat):Prop where
 ok:cs.length=n
instance:LenC [] 0:=⟨rfl⟩
instance {v:Value} {cs:List Value} {n:Nat} [k:LenC cs n]:LenC (v::cs) (n+1):=⟨by simp [k.ok]⟩
class PartC (cs:List Value) (o n:Nat) (xs:outParam (List Value)):Prop where
 ok:By8 cs o n=some xs
class SetsC (cs:List Value) (o:Nat) (vs:List Value) (xs:outParam (List Value)):Prop where
 ok:Dk5 cs o vs=some xs
theorem Bu5 {cs:List Value} {n:Nat} (h:cs.length=n):By8 cs 0 n=some cs:=by
 subst h;rw [By8,Nat.zero_add,Nat.ble_eq_true_of_le (Nat.le_refl _)];simp
theorem Bx3 {cs vs:List Value} {n:Nat} (h:cs.length=n) (g:vs.length=n) (v1:vs.all Value.oneCell=true):Dk5 cs 0 vs=some vs:=by
 have:Nat.ble (0+vs.length) cs.length=true:=Nat.ble_eq_true_of_le (by omega);rw [Dk5,this,v1];simp;omega
instance {n:Nat} {xs:List Value} {k:List Value→Option (α × H)} [k1:Lk l b e ro cs] [k2:PartC cs o n xs]:StpU (Tr l h (gAgg ⟨b,o,none⟩ n h k) Q) (0=0) (Tr l h (k xs) Q):=⟨fun _ t=>Tr.xAgg (E55 k2.ok) t⟩
instance {vs xs:List Value} {k:H→Option (α × H)} {f:HP→List HP} [k1:Lk l b e false cs] [k2:HoleB l b f] [k3:SetsC cs o vs xs]:StpU (Tr l h (pAgg ⟨b,o,none⟩ vs h k) Q) (0=0) (∀ h',Tr (f (pt b (.cells e false xs))) h' (k h') Q):=⟨fun _ t=>by
 obtain ⟨i,y,hi,hf⟩:=k2.ix;exact Tr.xPAgg (H99 k3.ok) (k2:=⟨i,y,hi,hf _⟩) t⟩
instance {xs:List Value} {n:Nat} {x:Option (α × H)} [k:LenC xs n]:StpU (Tr l h (ck (xs.length=n) x) Q) (0=0) (Tr l h x Q):=⟨fun _=>Tr.ck k.ok⟩
class PCi (C:E0) (f:FuncId) (args:List Value) (l:List HP) (v:outParam Value):Prop where
 ok:∀ h,Own h l→C f args h=some (v,h)
instance {C:E0} {f:FuncId} {args:List Value} {v:Value} {k:Value→H→Option (α × H)} [p:PCi C f args l v]:StpU (Tr l h (NN.bnd (C f args h) k) Q) (0=0) (Tr l h (k v h) Q):=⟨fun _ t ow=>by
 rw [p.ok h ow];exact t ow⟩
theorem PCi.of {C:E0} {f:FuncId} {args:List Value} {p r:List HP} {v:Value} (c:CtP C f args p v) [tk:Takes p l r]:PCi C f args l v:=⟨fun h o=>c h r (o.perm tk.pm)⟩
theorem Gv {a:Addr} {j n c sz:Nat} {v:Value} {k:H→Option (α × H)} {f:HP→List HP} [k1:HoleO l (some a) e sz n c cs f] {cs':List Value} (hs:Ep5 cs j v=some cs') (t:∀ h',Tr (f (slC false e sz (some a) n c cs')) h' (k h') Q):Tr l h (pV ((B4 a).add j) v h k) Q:=by
 obtain ⟨h1,h2,rfl⟩:=Iu8 hs;obtain ⟨i,hi,hf⟩:=k1.ix;exact Tr.pVSl i hi rfl h1 h2 fun h'=>by have:=t h';rw [hf] at this;exact this
theorem Tr.jmp {P:Program} {cutsOf:FuncId→Cuts} {f:FuncId} {fn:Func} {C:Cuts} {T:List Item} {n:Nat} (k:FnOk P cutsOf f fn C T n) {todo:List Item} {s:D2} {Q:Value→H→Prop}
  (t:Tr l h (Z0 P C (Call P cutsOf) (Jump P cutsOf) f fn 100000 true todo s h) Q):Tr l h (Jump P cutsOf f todo s h) Q:=fun o=>by
 obtain ⟨v,h',e,q⟩:=t o;exact ⟨v,h',k.jump e,q⟩
theorem wl:(IntKind.wrap .i64 (0+1)=1)∧(IntKind.wrap .i64 (1+1)=2)∧(IntKind.wrap .i64 (2+1)=3)∧(IntKind.wrap .i64 (3+1)=4)∧(IntKind.wrap .i64 (4+1)=5)∧(IntKind.wrap .i64 (5+1)=6)∧(IntKind.wrap .i64 (6+1)=7)∧(IntKind.wrap .i64 (7+1)=8)∧(IntKind.wrap .i64 (8+1)=9)∧(IntKind.wrap .i64 (9+1)=10)∧(IntKind.wrap .i64 (10+1)=11)∧(IntKind.wrap .i64 (11+1)=12)∧(IntKind.wrap .i64 (12+1)=13)∧(IntKind.wrap .i64 (2*0)=0)∧(IntKind.wrap .i64 (2*1)=2)∧(IntKind.wrap .i64 (2*2)=4)∧(IntKind.wrap .i64 (2*3)=6)∧(IntKind.wrap .i64 (4+0)=4)∧(IntKind.wrap .i64 (4+2)=6)∧(IntKind.wrap .i64 (4+4)=8)∧(IntKind.wrap .i64 (4+6)=10)∧(IntKind.wrap .i64 (12+0)=12)∧(IntKind.wrap .i64 (12+1)=13)∧(IntKind.wrap .i64 (12+2)=14)∧(IntKind.wrap .i64 (12+3)=15)∧(IntKind.wrap .i64 (12+4)=16)∧(IntKind.wrap .i64 (12+5)=17)∧(IntKind.wrap .i64 (12+6)=18)∧(IntKind.wrap .i64 (12+7)=19):=by decide
class LkM (l:List HP) (b:Nat) (es:outParam (List MapEntry)) (cl:outParam Nat):Prop where
 ix:∃ i:Nat,l[i]?=some (pt b (.map es cl))
instance LkM.here {l:List HP} {b cl:Nat} {es:List MapEntry}:LkM (pt b (.map es cl)::l) b es cl:=⟨0,rfl⟩
instance (priority:=low) LkM.there {l:List HP} {p:HP} {b cl:Nat} {es:List MapEntry} [k:LkM l b es cl]:LkM (p::l) b es cl:=⟨let ⟨i,hi⟩:=k.ix;⟨i+1,by simpa using hi⟩⟩
instance {cl:Nat} {es:List MapEntry} {k:List MapEntry→Nat→Option (α × H)} [k1:LkM l b es cl]:StpU (Tr l h (mapAt h b k) Q) (0=0) (Tr l h (k es cl) Q):=⟨fun _ t=>let ⟨i,hi⟩:=k1.ix;Tr.mapAt i hi t⟩
instance {y:Blk} {k:H→Option (α × H)} {f:HP→List HP} [k2:HoleB l b f]:StpU (Tr l h (lt (H.set h b y) k) Q) (0=0) (∀ h',Tr (f (pt b y)) h' (k h') Q):=⟨fun _ t=>by
 obtain ⟨i,x,hi,hf⟩:=k2.ix;exact Tr.setMap i hi fun h'=>by rw [← hf];exact t h'⟩
instance {β γ:Type} {v:β} {k:β→Option γ}:Dx (opt (some v) k) (k v):=⟨rfl⟩
class KeyC (P:Program) (t:TypeId) (key:Value):Prop where
 ok:∀ {β:Type} (x:Option β),NN.keyN P t key x=x
instance {P:Program} {t:TypeId} {key:Value} {k:Option (α × H)} [c:KeyC P t key]:StpU (Tr l h (NN.keyN P t key k) Q) (0=0) (Tr l h k Q):=⟨fun _=>Tr.keyN c.ok⟩
instance (priority:=5000) {x y:Option (α × H)} [k:Dx x y]:StpU (Tr l h x Q) (0=0) (Tr l h y Q):=⟨fun _ t=>Tr.dx t⟩
theorem Nr:type_of% nrm:=nrm
theorem Nl {β:Type}:type_of% (And.intro (@J65 β) (@G92 β)):=⟨J65,G92⟩
theorem Gx:type_of% @Tr.andG:=@Tr.andG
theorem Gy:type_of% @Tr.orG:=@Tr.orG
theorem Gz {v w:α} (e:v=w):Tr l h (some (v,h)) fun v' h'=>v'=w∧h'=h:=Tr.some fun _=>⟨e,rfl⟩
structure Kp (q:Prop):Prop where
 ok:q
section
variable {α β:Type}
abbrev jI (b o:Nat) (h:H) (k:Int→Option α):=gInt .i64 ⟨b,o,none⟩ h k
abbrev jB (b o:Nat) (h:H) (k:Bool→Option α):=gBool ⟨b,o,none⟩ h k
abbrev jP (b o:Nat) (h:H) (k:Option Addr→Option α):=gPtr ⟨b,o,none⟩ h k
abbrev jS (b o:Nat) (h:H) (k:Option Addr→Nat→Nat→Option α):=gSl ⟨b,o,none⟩ h k
abbrev jA (b o n:Nat) (h:H) (k:List Value→Option α):=gAgg ⟨b,o,none⟩ n h k
abbrev jV (b o:Nat) (v:Value) (h:H) (k:H→Option α):=pV ⟨b,o,none⟩ v h k
abbrev jW (b o:Nat) (v:List Value) (h:H) (k:H→Option α):=pAgg ⟨b,o,none⟩ v h k
abbrev jK (n b o:Nat) (v:List Value) (h:H) (k:H→Option α):=ck (v.length=n) (pAgg ⟨b,o,none⟩ v h k)
abbrev jR (i:Int) (n:Nat) (k:Option α):=ck ((0:Int)≤i∧i<(n:Int)) k
abbrev jT (l:List Value) (h:H):Option (Value × H):=some (.tuple ⟨l⟩,h)
abbrev jG (l:List Value) (h:H):Option (Value × H):=some (.agg ⟨l⟩,h)
abbrev jN (c:Bool) (x:Option (Bool × H)) (h:H) (k:Bool→H→Option (α × H)):=bnd (cond c x (some (false,h))) k
abbrev jO (c:Bool) (h:H) (x:Option (Bool × H)) (k:Bool→H→Option (α × H)):=bnd (cond c (some (true,h)) x) k
abbrev aI (v:Value) (k:Int→Option α):=aInt .i64 v k
abbrev sN:Value:=.slice none 0 0
end
theorem Ja {p q:Prop} (t:q) (k:Kp q→p:=by (intro zq;(repeat' first|refine Gu ?_|(with_reducible first|refine Gn fun b h=>?_|apply Gx|apply Gy|refine fun(h:H)=>?_|intro hb)|refine Gs ?_|refine Gt ?_|exact Gz rfl|fail);(repeat first|(revert hb;guard_hyp zq)|(revert h;guard_hyp zq)|(revert b;guard_hyp zq)|(revert px;guard_hyp zq));exact zq.ok)):p:=k ⟨t⟩
theorem Jb {p q:Prop} (t:q) (k:Kp q→p:=by (intro zq;(repeat' first|refine Gu ?_|(with_reducible first|refine Gn fun b h=>?_|refine fun(h:H)=>?_|intro hb)|refine Gs ?_|refine Gt ?_|exact Gz rfl|fail);(repeat first|(revert hb;guard_hyp zq)|(revert h;guard_hyp zq)|(revert b;guard_hyp zq)|(revert px;guard_hyp zq));exact zq.ok)):p:=k ⟨t⟩
theorem Jc {p q:Prop} (t:q) (k:Kp q→p:=by (intro zq;(repeat' first|refine Gu ?_|(with_reducible first|apply Gx|apply Gy|refine fun(h:H)=>?_|intro hb)|refine Gs ?_|refine Gt ?_|exact Gz rfl|fail);(repeat first|(revert hb;guard_hyp zq)|(revert h;guard_hyp zq)|(revert b;guard_hyp zq)|(revert px;guard_hyp zq));exact zq.ok)):p:=k ⟨t⟩
theorem Jd {p q:Prop} (t:q) (k:Kp q→p:=by (intro zq;(repeat' first|refine Gu ?_|(with_reducible first|refine Gn fun b h=>?_|apply Gx|apply Gy|refine fun(h:H)=>?_|intro hb)|refine Gs ?_|refine Gt ?_|exact Gz rfl|((with_reducible apply Gv);·rfl)|refine Tr.condT (by rfl) ?_|refine Tr.condF (by rfl) ?_|fail);(repeat first|(revert hb;guard_hyp zq)|(revert h;guard_hyp zq)|(revert b;guard_hyp zq)|(revert px;guard_hyp zq));exact zq.ok)):p:=k ⟨t⟩
theorem Je {p q:Prop} (t:q) (k:Kp q→p:=by (intro zq;(try simp only[Nr,Nl,Nat.reduceAdd,Nat.reduceMul,Int.reduceToNat,jI,jB,jP,jS,jA,jV,jW,jK,jR,jT,jG,jN,jO,aI,sN]);exact zq.ok)):p:=k ⟨t⟩
theorem Jf {x:Option (α × H)} (o:Own h l) {q:Prop} (t:q) (k:Kp q→Tr l h x Q:=by (intro zq;(try simp only[Nr,Nl,Nat.reduceAdd,Nat.reduceMul,Int.reduceToNat,jI,jB,jP,jS,jA,jV,jW,jK,jR,jT,jG,jN,jO,aI,sN]);(repeat' first|refine Gu ?_|(with_reducible first|refine Gn fun b h=>?_|apply Gx|apply Gy|refine fun(h:H)=>?_|intro hb)|refine Gs ?_|refine Gt ?_|exact Gz rfl|fail);(repeat first|(revert hb;guard_hyp zq)|(revert h;guard_hyp zq)|(revert b;guard_hyp zq)|(revert px;guard_hyp zq));exact zq.ok)):Wp x Q:=k ⟨t⟩ o
theorem Jg {x:Option (α × H)} (o:Own h l) {q:Prop} (t:q) (k:Kp q→Tr l h x Q:=by (intro zq;(try simp only[Nr,Nl,Nat.reduceAdd,Nat.reduceMul,Int.reduceToNat,jI,jB,jP,jS,jA,jV,jW,jK,jR,jT,jG,jN,jO,aI,sN]);(repeat' first|refine Gu ?_|(with_reducible first|refine Gn fun b h=>?_|refine fun(h:H)=>?_|intro hb)|refine Gs ?_|refine Gt ?_|exact Gz rfl|fail);(repeat first|(revert hb;guard_hyp zq)|(revert h;guard_hyp zq)|(revert b;guard_hyp zq)|(revert px;guard_hyp zq));exact zq.ok)):Wp x Q:=k ⟨t⟩ o
theorem Jh {x:Option (α × H)} (o:Own h l) {q:Prop} (t:q) (k:Kp q→Tr l h x Q:=by (intro zq;(try simp only[Nr,Nl,Nat.reduceAdd,Nat.reduceMul,Int.reduceToNat,jI,jB,jP,jS,jA,jV,jW,jK,jR,jT,jG,jN,jO,aI,sN]);exact zq.ok)):Wp x Q:=k ⟨t⟩ o
theorem Jz {p:Prop} (k:p:=by (repeat' first|refine Gu ?_|(with_reducible first|refine Gn fun b h=>?_|apply Gx|apply Gy|rintro px rfl|apply Gw|refine fun(h:H)=>?_|intro hb)|refine Gs ?_|refine Gt ?_|exact Gz rfl|fail)):p:=k
end
theorem wN (i:Nat) (h:(i:Int)+1<9223372036854775808:=by omega):IntKind.wrap .i64 ((i:Int)+1)=((i+1:Nat):Int):=by rw [B8];omega
theorem wI (i:Int) (h:-1000000000000≤i∧i+1<9223372036854775808:=by omega):IntKind.wrap .i64 (i+1)=i+1:=by rw [B8];omega
theorem Yt:type_of% @Tr.condT:=@Tr.condT
theorem Yf:type_of% @Tr.condF:=@Tr.condF
theorem Yc:type_of% @Tr.xCall:=@Tr.xCall
theorem Yr:type_of% @Tr.xRun:=@Tr.xRun
theorem Yn:type_of% @Tr.nw:=@Tr.nw
theorem Ys:type_of% @Tr.some:=@Tr.some
theorem Yb:type_of% @Tr.bnd:=@Tr.bnd
section
variable {α:Type} {Q:α→H→Prop} {l r:List HP} {h0:H}
theorem Yd {C:E0} {f:FuncId} {as p p':List _} {w:Value} {k:Value→H→Option (α × H)} (c:Ct C f as p fun v own=>v=w∧own p') [tk:Takes p l r] {q:H→Prop} (t:∀ h,q h) (n:∀ h,Kp (q h)→Tr (p'++r) h (k w h) Q:=by (intro h zq;(try simp only[Nr,Nl,Nat.reduceAdd,Nat.reduceMul,Int.reduceToNat,jI,jB,jP,jS,jA,jV,jW,jK,jR,jT,jG,jN,jO,aI,sN]);exact zq.ok)):Tr l h0 (bnd (C f as h0) k) Q:=Tr.xCall c fun v h ⟨e,o⟩=>by subst e;exact n h ⟨t h⟩ o
theorem Ye {C:E0} {f:FuncId} {as p p':List _} {w:Value} {k:Value→H→Option (α × H)} (c:Ct C f as p fun v own=>v=w∧own p') [tk:Takes p l r] {q:H→Prop} (t:∀ h,q h) (n:∀ h,Kp (q h)→Tr (p'++r) h (k w h) Q:=by (intro h0 zq;(try simp only[Nr,Nl,Nat.reduceAdd,Nat.reduceMul,Int.reduceToNat,jI,jB,jP,jS,jA,jV,jW,jK,jR,jT,jG,jN,jO,aI,sN]);(repeat' first|refine Gu ?_|(with_reducible first|refine Gn fun b h=>?_|apply Gx|apply Gy|refine fun(h:H)=>?_|intro hb)|refine Gs ?_|refine Gt ?_|exact Gz rfl|fail);(repeat first|(revert hb;guard_hyp zq)|(revert h;guard_hyp zq)|(revert b;guard_hyp zq)|(revert px;guard_hyp zq));exact zq.ok)):Tr l h0 (bnd (C f as h0) k) Q:=Tr.xCall c fun v h ⟨e,o⟩=>by subst e;exact n h ⟨t h⟩ o
theorem Yv {v:α} {β:Type} {k:α→H→Option (β × H)} {Q:β→H→Prop} {q:Prop} (t:q) (n:Kp q→Tr l h0 (k v h0) Q:=by (intro zq;(try simp only[Nr,Nl,Nat.reduceAdd,Nat.reduceMul,Int.reduceToNat,jI,jB,jP,jS,jA,jV,jW,jK,jR,jT,jG,jN,jO,aI,sN]);exact zq.ok)):Tr l h0 (some (v,h0)) fun v h'=>Wp (k v h') Q:=Tr.some fun o=>n ⟨t⟩ o
theorem Yz {v:α} {l':List HP} [s:SubL l l']:Tr l h0 (some (v,h0)) fun v' h'=>v'=v∧Own h' l':=Tr.some fun o=>⟨rfl,o.sub⟩
theorem Yo {R:Ab8} {f:FuncId} {todo:List Item} {s:D2} {p p' l':List HP} {w:Value} (c:CtJ R f todo s p fun v own=>v=w∧own p') [tk:Takes p l r] [u:SubL (p'++r) l']:Tr l h0 (R f todo s h0) fun v' h'=>v'=w∧Own h' l':=Tr.xRun c fun v h ⟨e,o⟩=>⟨e,o.sub⟩
variable {P:Program} {cutsOf:FuncId→Cuts} {f:FuncId} {fn:Func} {C:Cuts} {T:List Item} {n:Nat} (k:FnOk P cutsOf f fn C T n)
include k
theorem Co {args:List Value} {p:List HP} {Φ} {g:H→Option (Value × H)} (e:∀ h,Z0 P C (Call P cutsOf) (Jump P cutsOf) f fn 100000 true T (At2 0 args) h=g h) {q:H→List HP→Prop} (t:∀ h r,q h r) (hl:args.length=n:=by rfl) (z:∀ h r,Kp (q h r)→Tr (p++r) h (g h) fun v h'=>Φ v fun l=>Own h' (l++r):=by (intro h r zq;(try simp only[Nr,Nl,Nat.reduceAdd,Nat.reduceMul,Int.reduceToNat,jI,jB,jP,jS,jA,jV,jW,jK,jR,jT,jG,jN,jO,aI,sN]);exact zq.ok)):Ct (Call P cutsOf) f args p Φ:=Ct.of k hl fun h r=>Tr.eq (e h) (z h r ⟨t h r⟩)
theorem Cj {todo:List Item} {s:D2} {p:List HP} {Φ} {g:H→Option (Value × H)} (e:∀ h,Z0 P C (Call P cutsOf) (Jump P cutsOf) f fn 100000 true todo s h=g h) {q:H→List HP→Prop} (t:∀ h r,q h r) (z:∀ h r,Kp (q h r)→Tr (p++r) h (g h) fun v h'=>Φ v fun l=>Own h' (l++r):=by (intro h r zq;(try simp only[Nr,Nl,Nat.reduceAdd,Nat.reduceMul,Int.reduceToNat,jI,jB,jP,jS,jA,jV,jW,jK,jR,jT,jG,jN,jO,aI,sN]);exact zq.ok)):CtJ (Jump P cutsOf) f todo s p Φ:=CtJ.of k fun h r=>Tr.eq (e h) (z h r ⟨t h r⟩)
theorem Yj {todo:List Item} {s:D2} {Q:Value→H→Prop} {y:Option (Value × H)} (e:Z0 P C (Call P cutsOf) (Jump P cutsOf) f fn 100000 true todo s h0=y) {q:Prop} (t:q) (z:Kp q→Tr l h0 y Q:=by (intro zq;(try simp only[Nr,Nl,wl,Nat.reduceAdd,Nat.reduceMul,Int.reduceToNat,jI,jB,jP,jS,jA,jV,jW,jK,jR,jT,jG,jN,jO,aI,sN]);exact zq.ok)):Tr l h0 (Jump P cutsOf f todo s h0) Q:=Tr.jmp k (Tr.eq e (z ⟨t⟩))
end
end Go.NN
