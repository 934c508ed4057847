/- What the environments of sessions that share nothing are answered hangs on their own calls and on the clock alone: another session's calls, left out, change no answer. -/
import Derived.Test.YtmhfkfijaamamaaMg
import Derived.Test.YtmhfkfijaamamaaRows
set_option linter.all false
set_option maxRecDepth 10000
namespace Go.EQ
open Go Go.NN
theorem D14:V8 PR 8 P3=some [TypeDesc.int .i64,TypeDesc.int .i64]:=by kernel_rfl
theorem Ea1:Bi8 PR P3=some true:=by kernel_rfl
instance {a b:Int}:KeyC PR P3 (.agg ⟨[.int .i64 a,.int .i64 b]⟩):=⟨fun x=>by
 unfold NN.keyN;rw [D14,Ea1];rfl⟩
abbrev Dt8 (env name:Int):List MapEntry:=[{ key:=.agg ⟨[int env,int name]⟩,val:=int 1,born:=0 }]
theorem Bw1 (env name i n:Int):A38 (int 0) (.agg ⟨[int i,int n]⟩) (Dt8 env name)=some (if i=env∧n=name then (int 1,true) else (int 0,false)):=by
 unfold A38
 simp only [Ae6,Ay2,eqs,eq1,decide_true]
 by_cases h:i=env∧n=name
 ·obtain ⟨rfl,rfl⟩:=h
  simp
 ·have e:(i==env && (n==name && true))=false:=by
   rw [Bool.and_eq_false_iff]
   by_cases h1:i=env
   ·right;simp;intro h2;exact h ⟨h1,h2⟩
   ·left;simpa using h1
  rw [e,if_neg h]
def Ad7 (tabs:List (List PlaceS)):Prop:=∀ t ∈ tabs,∀ p ∈ t,p.cap.rEnv=0∧p.cap.rName=0∧(p.used=true→1≤p.gen)
theorem B10:∀ {l:List PlaceS} {i:Nat} {n:Int},n ∈ H6 i l→∃ j p,l[j]?=some p∧p.used=true∧n=Ac6 (i+j) p
 | p::l,i,n,h=>by
  unfold H6 at h
  have next:n ∈ H6 (i+1) l→∃ j q,(p::l)[j]?=some q∧q.used=true∧n=Ac6 (i+j) q:=fun h=>by
   obtain ⟨j,q,h1,h2,h3⟩:=B10 h
   exact ⟨j+1,q,by simpa using h1,h2,by rw [h3];unfold Ac6;omega⟩
  split at h
  ·rename_i hu
   rcases List.mem_cons.1 h with h|h
   ·exact ⟨0,p,rfl,hu,by simpa using h⟩
   ·exact next h
  ·exact next h
theorem Dm5 {l:List PlaceS} (k:U4 l) {n:Int} (h:n ∈ E8 l):∃ p,p ∈ l∧p.used=true∧Am0 l n=some p.cap:=by
 obtain ⟨j,p,h1,h2,h3⟩:=B10 h
 have hl:=k.lt h1
 have hg:=(k.at h1).1
 rw [Nat.zero_add] at h3
 refine ⟨p,List.mem_of_getElem? h1,h2,?_⟩
 have e:(n%256).toNat=j:=by rw [h3];unfold Ac6;omega
 unfold Am0 Ae9
 rw [e,h1,if_pos (by rw [h3];unfold Ac6;omega)]
 simp only
 rw [if_pos ⟨h2,h3.symm⟩]
 simp only [h1,Option.map_some]
abbrev unF (s:Nat) (tabs:List (List PlaceS)) (a:Option Addr) (c:Nat) (ts:List Nat) (bm:Nat) (env name:Int):List HP :=
 [pt bm (.map (Dt8 env name) 1),pt s (.cells U8 false [.slice a tabs.length c]),slC false D8 1 a tabs.length c (ts.map P0),E7 I6 ts tabs]
theorem Dg2 (s:Nat) (tabs:List (List PlaceS)) (a:Option Addr) (c:Nat) (ts:List Nat) (bm:Nat) (env name:Int) (ok:G5 tabs) (rl:Ad7 tabs) (hn:0<name) (Φ:Value→(List HP→Prop)→Prop)
  (i:Nat) (t:List PlaceS) (p:Nat) (ht:tabs[i]?=some t) (hp:ts[i]?=some p) (xa:Option Addr) (xc:Nat)
  (next:CtJ Q1 A1 P4 [(0,P0 s),(1,int env),(2,int name),(10,.map (some bm)),(11,.bool false),(44,.slice a tabs.length c),(45,int tabs.length),(46,int ((i+1:Nat):Int))] (unF s tabs a c ts bm env name) Φ) :
  ∀ (m j:Nat),j+m=(E8 t).length →
  CtJ Q1 A1 P6 [(0,P0 s),(1,int env),(2,int name),(10,.map (some bm)),(11,.bool false),(12,int i),(13,P0 p),(44,.slice a tabs.length c),(45,int tabs.length),(46,int i),(52,.slice xa (E8 t).length xc),(53,int (E8 t).length),(54,int j)]
   (slC false D0 1 xa (E8 t).length xc ((E8 t).map int)::unF s tabs a c ts bm env name) Φ
 | 0,j,hj=>by
  obtain rfl:j=(E8 t).length:=by omega
  have hi:=(List.getElem?_eq_some_iff.1 ht).1
  have h40:=ok.1
  have e1:=wN i
  refine CtJ.of G4 fun h r=>Tr.eq (As8 ..) ?_;refine Je ?_
  refine Tr.condF (by simp) ?_
  rw [e1]
  refine Ax2 [1,1,1,1] 1 rfl rfl ?_
  refine (?_:Tr (unF s tabs a c ts bm env name++r) _ _ _)
  exact Tr.xRun next fun v h q=>q
 | m+1,j,hj=>by
  have ih:=Dg2 s tabs a c ts bm env name ok rl hn Φ i t p ht hp xa xc next m (j+1) (by omega)
  have hl2:=A15 0 t
  have h256:=(ok.at ht).1
  have hl3:(E8 t).length≤256:=Nat.le_trans hl2 h256
  have e1:=wN j
  have hm:(E8 t).getD j 0 ∈ E8 t:=by
   rw [List.getD_eq_getElem?_getD,List.getElem?_eq_getElem (by omega)];exact List.getElem_mem _
  obtain ⟨q,hq,hu,hget⟩:=Dm5 (ok.at ht) hm
  obtain ⟨r1,r2,r3⟩:=rl t (List.mem_of_getElem? ht) q hq
  refine CtJ.of G4 fun h r=>Tr.eq (As8 ..) ?_;refine Je ?_
  refine Tr.condT (by simp;omega) ?_
  (refine Ja ?_;unhygienic intros;repeat(refine Gw ?_;rintro px rfl;refine Ja ?_;unhygienic intros))
  refine Tr.xIntS (v:=(E8 t).getD j 0) (by rw [Int.toNat_natCast,List.getElem?_map,Z0 0 (by omega)];rfl) ?_
  generalize (E8 t).getD j 0=n at *
  refine S2 I6 ts tabs hp ht ?_
  refine Tr.xCall (Dz0 p t n (ok.at ht)) ?_;rintro _ h ⟨rfl,o⟩<;>(refine Jf o ?_;unhygienic intros)
  refine Ad5 I6 ts tabs i hp ht ?_
  rw [hget]
  simp only [D62,Option.getD_some]
  (refine Ja ?_;unhygienic intros)
  simp only [List.take_succ_cons,List.take_zero,List.drop_zero,List.drop_succ_cons,List.drop_nil,List.nil_append,List.append_nil,List.cons_append,List.length_cons,List.length_nil,Nat.zero_add,Nat.reduceAdd]
  (refine Ja ?_;unhygienic intros)
  rw [Bw1]
  by_cases hx:(i:Int)=env∧n=name
  ·rw [if_pos hx]
   (refine Jb ?_;unhygienic intros)
   refine Tr.bnd (Tr.condF rfl ?_)
   refine Tr.some fun o=>(?_:Tr _ _ _ _) o;refine Je ?_
   refine Tr.condF rfl ?_
   rw [e1]
   refine Ax2 [3,3,3,3,2] 2 rfl rfl ?_
   exact Tr.xRun ih fun v h q=>q
  ·rw [if_neg hx]
   (refine Jb ?_;unhygienic intros)
   refine Tr.bnd (Tr.condT rfl ?_)
   (refine Jb ?_;unhygienic intros)
   rw [show List.take 2 (List.drop 4 (A52 q.cap))=[int q.cap.rEnv,int q.cap.rName] from rfl]
   (refine Jb ?_;unhygienic intros)
   rw [Bw1,if_neg (by rintro ⟨_,h⟩;rw [r2] at h;omega)]
   (refine Jb ?_;unhygienic intros)
   refine Tr.some fun o=>(?_:Tr _ _ _ _) o;refine Je ?_
   refine Tr.condF rfl ?_
   rw [e1]
   refine Ax2 [3,3,3,3,2] 2 rfl rfl ?_
   exact Tr.xRun ih fun v h q=>q
theorem D86:CtP D5 Aj9 [.int .u64 0] [] (int 0):=by
 refine CtP.of B08 rfl fun h r=>Tr.eq (B43 ..) ?_;refine Je ?_
 refine Tr.pcall (?_:CtP D5 H8 [.int .u64 0] [] (int 0)) ?_
 ·refine CtP.of Ao5 rfl fun h r=>Tr.eq (Bt3 ..) ?_;refine Je ?_
  refine Tr.condF rfl ?_
  refine Tr.jmp Ao5 (Tr.eq (Bg7 ..) ?_);(try simp only[Nr,Nl,wl,Nat.reduceAdd,Nat.reduceMul,Int.reduceToNat])
  refine Tr.condF rfl ?_
  refine Tr.jmp Ao5 (Tr.eq (Bh0 ..) ?_);(try simp only[Nr,Nl,wl,Nat.reduceAdd,Nat.reduceMul,Int.reduceToNat])
  refine Tr.condF rfl ?_
  refine Tr.ck (by decide +kernel) ?_
  refine Tr.some fun o=>?_
  exact ⟨rfl,rfl⟩
 exact Jz
theorem Ea5 (cmp:Value):Ct D5 D2 [.slice none 0 0,int 0,int 0,cmp] [] fun v own=>v=.tuple ⟨[]⟩∧own []:=by
 refine Ct.of U3 rfl fun h r=>Tr.eq (Ak7 ..) ?_;refine Je ?_
 refine Tr.jmp U3 (Tr.eq (Ah5 ..) ?_);(try simp only[Nr,Nl,wl,Nat.reduceAdd,Nat.reduceMul,Int.reduceToNat])
 refine Tr.condF rfl ?_
 refine Tr.some fun o=>?_
 exact ⟨rfl,o.sub⟩
theorem D98 (cmp:Value):Ct D5 D6 [.slice none 0 0,int 0,int 0,int 0,cmp] [] fun v own=>v=.tuple ⟨[]⟩∧own []:=by
 refine Ct.of Ab0 rfl fun h r=>Tr.eq (At8 ..) ?_;refine Je ?_
 refine Tr.jmp Ab0 (Tr.eq (Ao3 ..) ?_);(try simp only[Nr,Nl,wl,Nat.reduceAdd,Nat.reduceMul,Int.reduceToNat])
 refine Tr.condT rfl ?_
 refine Tr.xCall (Ea5 cmp) ?_;rintro _ h ⟨rfl,o⟩<;>refine Jh o ?_
 (refine Ja ?_;unhygienic intros)
 refine Tr.some fun o=>?_
 exact ⟨rfl,o.sub⟩
theorem D57 (cmp:Value):Ct D5 I8 [.slice none 0 0,cmp] [] fun v own=>v=.tuple ⟨[]⟩∧own []:=by
 refine Ct.of An7 rfl fun h r=>Tr.eq (An5 ..) ?_;refine Je ?_
 rw [show IntKind.wrap .u64 ((0:Nat):Int)=0 from rfl]
 refine Tr.pcall (D86) ?_;refine Je ?_;(refine Ja ?_;unhygienic intros)
 refine Tr.xCall (D98 cmp) ?_;rintro _ h ⟨rfl,o⟩<;>refine Jh o ?_
 (refine Ja ?_;unhygienic intros)
 refine Tr.some fun o=>?_
 exact ⟨rfl,o.sub⟩
section
variable (s:Nat) (tabs:List (List PlaceS)) (a:Option Addr) (c:Nat) (ts:List Nat) (bm:Nat) (env name:Int) (ok:G5 tabs) (rl:Ad7 tabs) (hn:0<name) (hts:ts.length=tabs.length)
include ok rl hn hts
theorem Dh7 (i:Nat) (t:List PlaceS) (ht:tabs[i]?=some t) (Φ:Value→(List HP→Prop)→Prop) (xa:Option Addr) (xc:Nat)
  (next:CtJ Q1 A1 P1 [(1,int env),(2,int name),(10,.map (some bm)),(19,.slice none 0 0),(85,.slice a tabs.length c),(86,int tabs.length),(87,int ((i+1:Nat):Int))] (unF s tabs a c ts bm env name) Φ) :
  ∀ (m j:Nat),j+m=(E8 t).length →
  CtJ Q1 A1 O8 [(1,int env),(2,int name),(10,.map (some bm)),(19,.slice none 0 0),(20,int i),(85,.slice a tabs.length c),(86,int tabs.length),(87,int i),(93,.slice xa (E8 t).length xc),(94,int (E8 t).length),(95,int j)]
   (slC false D0 1 xa (E8 t).length xc ((E8 t).map int)::unF s tabs a c ts bm env name) Φ
 | 0,j,hj=>by
  obtain rfl:j=(E8 t).length:=by omega
  have hi:=(List.getElem?_eq_some_iff.1 ht).1
  have h40:=ok.1
  have e1:=wN i
  refine CtJ.of G4 fun h r=>Tr.eq (As6 ..) ?_;refine Je ?_
  refine Tr.condF (by simp) ?_
  rw [e1]
  refine Ax2 [1,1,1,1] 1 rfl rfl ?_
  refine (?_:Tr (unF s tabs a c ts bm env name++r) _ _ _)
  exact Tr.xRun next fun v h q=>q
 | m+1,j,hj=>by
  have ih:=Dh7 i t ht Φ xa xc next m (j+1) (by omega)
  have hl2:=A15 0 t
  have h256:=(ok.at ht).1
  have hl3:(E8 t).length≤256:=Nat.le_trans hl2 h256
  have e1:=wN j
  refine CtJ.of G4 fun h r=>Tr.eq (As6 ..) ?_;refine Je ?_
  refine Tr.condT (by simp;omega) ?_
  (refine Ja ?_;unhygienic intros;repeat(refine Gw ?_;rintro px rfl;refine Ja ?_;unhygienic intros))
  refine Tr.xIntS (v:=(E8 t).getD j 0) (by rw [Int.toNat_natCast,List.getElem?_map,Z0 0 (by omega)];rfl) ?_
  generalize (E8 t).getD j 0=n at *
  (refine Ja ?_;unhygienic intros)
  simp only [List.take_succ_cons,List.take_zero,List.drop_zero,List.drop_succ_cons,List.drop_nil,List.nil_append,List.append_nil,List.cons_append,List.length_cons,List.length_nil,Nat.zero_add,Nat.reduceAdd]
  (refine Ja ?_;unhygienic intros)
  rw [Bw1]
  by_cases hx:(i:Int)=env∧n=name
  ·rw [if_pos hx]
   (refine Jb ?_;unhygienic intros)
   refine Tr.bnd (Tr.condT rfl ?_)
   rw [show ((i:Int) != env)=false by simp [hx.1],show (n != name)=false by simp [hx.2]]
   refine Tr.bnd (Tr.condF rfl ?_)
   refine Tr.some fun o=>(?_:Tr _ _ _ _) o;refine Je ?_
   refine Tr.some fun o=>(?_:Tr _ _ _ _) o
   refine Je ?_
   refine Tr.condF rfl ?_
   rw [e1]
   refine Ax2 [1,1,1,1,1] 1 rfl rfl ?_
   exact Tr.xRun ih fun v h q=>q
  ·rw [if_neg hx]
   (refine Jb ?_;unhygienic intros)
   refine Tr.bnd (Tr.condF rfl ?_)
   refine Tr.some fun o=>(?_:Tr _ _ _ _) o;refine Je ?_
   refine Tr.condF rfl ?_
   rw [e1]
   refine Ax2 [1,1,1,1,1] 1 rfl rfl ?_
   exact Tr.xRun ih fun v h q=>q
theorem De3:∀ (m i:Nat),i+m=tabs.length →
  CtJ Q1 A1 P1 [(1,int env),(2,int name),(10,.map (some bm)),(19,.slice none 0 0),(85,.slice a tabs.length c),(86,int tabs.length),(87,int i)] (unF s tabs a c ts bm env name) fun v own=>v=.tuple ⟨[.slice none 0 0,int 0]⟩∧own [G0 s tabs]
 | 0,i,hi=>by
  obtain rfl:i=tabs.length:=by omega
  refine CtJ.of G4 fun h r=>Tr.eq (At0 ..) ?_;refine Je ?_
  refine Tr.condF (by simp) ?_
  refine Tr.xCall (D57 _) ?_;rintro _ h ⟨rfl,o⟩<;>refine Jh o ?_
  refine Be8 hts ?_
  refine D3 (G0 s tabs) (a,c,ts) ?_;refine Je ?_
  (refine Ja ?_;unhygienic intros)
  refine Tr.some fun o=>?_
  exact ⟨rfl,o.sub⟩
 | m+1,i,hi=>by
  have ht:tabs[i]?=some tabs[i]:=List.getElem?_eq_getElem (by omega)
  obtain ⟨p,hp⟩:=Au4 hts ht
  have ih:=De3 m (i+1) (by omega)
  have L5:=fun xa xc=>Dh7 s tabs a c ts bm env name ok rl hn hts i tabs[i] ht _ xa xc ih (E8 tabs[i]).length 0 (by omega)
  refine CtJ.of G4 fun h r=>Tr.eq (At0 ..) ?_;refine Je ?_
  refine Tr.condT (by simp;omega) ?_
  (refine Ja ?_;unhygienic intros;repeat(refine Gw ?_;rintro px rfl;refine Ja ?_;unhygienic intros))
  refine Tr.xPtrS (v:=some ⟨p,0,none⟩) (by simp [hp]) ?_
  refine S2 I6 ts tabs hp ht ?_
  refine Tr.xCall (Dj1 p tabs[i] (ok.at ht)) ?_;rintro _ h ⟨xa,xc,rfl,o⟩<;>(refine Jf o ?_;unhygienic intros)
  refine Ad5 I6 ts tabs i hp ht ?_
  exact Tr.xRun (L5 xa xc) fun v h q=>q
theorem B75:∀ (m i:Nat),i+m=tabs.length →
  CtJ Q1 A1 P4 [(0,P0 s),(1,int env),(2,int name),(10,.map (some bm)),(11,.bool false),(44,.slice a tabs.length c),(45,int tabs.length),(46,int i)] (unF s tabs a c ts bm env name) fun v own=>v=.tuple ⟨[.slice none 0 0,int 0]⟩∧own [G0 s tabs]
 | 0,i,hi=>by
  obtain rfl:i=tabs.length:=by omega
  have J:=De3 s tabs a c ts bm env name ok rl hn hts tabs.length 0 (by omega)
  refine CtJ.of G4 fun h r=>Tr.eq (At2 ..) ?_;refine Je ?_
  refine Tr.condF (by simp) ?_
  refine Tr.jmp G4 (Tr.eq (As7 ..) ?_);(try simp only[Nr,Nl,wl,Nat.reduceAdd,Nat.reduceMul,Int.reduceToNat])
  refine Tr.condF rfl ?_
  (refine Ja ?_;unhygienic intros)
  exact Tr.xRun J fun v h q=>q
 | m+1,i,hi=>by
  have ht:tabs[i]?=some tabs[i]:=List.getElem?_eq_getElem (by omega)
  obtain ⟨p,hp⟩:=Au4 hts ht
  have ih:=B75 m (i+1) (by omega)
  have L4:=fun xa xc=>Dg2 s tabs a c ts bm env name ok rl hn _ i tabs[i] p ht hp xa xc ih (E8 tabs[i]).length 0 (by omega)
  refine CtJ.of G4 fun h r=>Tr.eq (At2 ..) ?_;refine Je ?_
  refine Tr.condT (by simp;omega) ?_
  (refine Ja ?_;unhygienic intros;repeat(refine Gw ?_;rintro px rfl;refine Ja ?_;unhygienic intros))
  refine Tr.xPtrS (v:=some ⟨p,0,none⟩) (by simp [hp]) ?_
  refine S2 I6 ts tabs hp ht ?_
  refine Tr.xCall (Dj1 p tabs[i] (ok.at ht)) ?_;rintro _ h ⟨xa,xc,rfl,o⟩<;>(refine Jf o ?_;unhygienic intros)
  refine Ad5 I6 ts tabs i hp ht ?_
  exact Tr.xRun (L4 xa xc) fun v h q=>q
end
theorem Ea3 {tabs:List (List PlaceS)} {env name:Int} {c:CapS} (rl:Ad7 tabs) (ok:G5 tabs) (h:M7 tabs env name=some c):0<name:=by
 unfold M7 at h
 split at h
 ·rename_i t ht
  obtain ⟨_,_,h3⟩:=N4 ht
  unfold Am0 at h
  split at h
  ·rename_i i hi
   obtain ⟨p,h4,h5,h6⟩:=Am7 hi
   have:=(rl t (List.mem_of_getElem? h3) p (List.mem_of_getElem? h4)).2.2 h5
   rw [← h6];unfold Ac6;omega
  ·cases h
 ·cases h
theorem D38 (s:Nat) (tabs:List (List PlaceS)) (env name:Int) (ok:G5 tabs) (rl:Ad7 tabs):Ct D5 A1 [P0 s,int env,int name] [G0 s tabs] fun v own=>v=.tuple ⟨[.slice none 0 0,int (if (M7 tabs env name).isSome then 0 else 2)]⟩∧own [G0 s tabs]:=by
 refine Ct.of G4 rfl fun h r=>Tr.eq (Bl8 ..) ?_;refine Je ?_
 refine Tr.xCall (Bx1 s tabs env name ok) ?_;rintro _ h ⟨rfl,o⟩<;>refine Jh o ?_
 simp only [B05]
 cases hg:M7 tabs env name with
 | none =>
  simp only [Option.isSome_none,Bool.false_eq_true,if_false]
  (refine Ja ?_;unhygienic intros)
  refine Tr.some fun o=>?_
  exact ⟨rfl,o.sub⟩
 | some cp =>
  have hn:=Ea3 rl ok hg
  simp only [Option.isSome_some,if_true]
  (refine Jc ?_;unhygienic intros)
  refine Tr.nw fun b1 h=>?_
  (refine Jc ?_;unhygienic intros)
  refine Tr.condF rfl ?_
  refine Tr.nw fun b_1 h=>?_
  (refine Ja ?_;unhygienic intros)
  rw [show Dj4 (.agg ⟨[int env,int name]⟩) (int 1) [] 0=some (.map (Dt8 env name) 1) from rfl]
  (refine Ja ?_;unhygienic intros)
  refine (?_:Tr (pt b_1 (.map (Dt8 env name) 1)::_) _ _ _)
  refine B9 (G0 s tabs) fun ⟨a,c,ts⟩=>?_;refine Je ?_
  refine Y3 3 rfl fun hts=>?_
  have J:=B75 s tabs a c ts b_1 env name ok rl hn hts tabs.length 0 (by omega)
  refine Tr.jmp G4 (Tr.eq (As7 ..) ?_);(try simp only[Nr,Nl,wl,Nat.reduceAdd,Nat.reduceMul,Int.reduceToNat])
  refine Tr.condT rfl ?_
  (refine Ja ?_;unhygienic intros)
  refine Tr.xRun J ?_
  rintro v h ⟨rfl,o⟩
  exact ⟨rfl,o.sub⟩
def Q5 (tabs:List (List PlaceS)) (env name:Int):List (List PlaceS):=match idx tabs env with
 | some t=>tabs.set env.toNat ((O9 t name).getD t)
 | none=>tabs
theorem Dz5 (s:Nat) (tabs:List (List PlaceS)) (env name:Int) (ok:G5 tabs) (rl:Ad7 tabs):Ct D5 L9 [P0 s,int env,int name] [G0 s tabs] fun v own=>v=v2 (if (M7 tabs env name).isSome then (1,0) else (0,2))∧own [G0 s (if (M7 tabs env name).isSome then Q5 tabs env name else tabs)]:=by
 refine Ct.of Aw6 rfl fun h r=>Tr.eq (Bk7 ..) ?_;refine Je ?_
 refine Tr.xCall (D38 s tabs env name ok rl) ?_;rintro _ h ⟨rfl,o⟩<;>refine Jh o ?_
 cases hg:M7 tabs env name with
 | none =>
  simp only [Option.isSome_none,Bool.false_eq_true,if_false]
  (refine Ja ?_;unhygienic intros)
  refine Tr.some fun o=>?_
  exact ⟨rfl,o.sub⟩
 | some cp =>
  have hg2:=hg
  unfold M7 at hg2
  simp only [Option.isSome_some,if_true]
  (refine Ja ?_;unhygienic intros)
  refine Tr.jmp Aw6 (Tr.eq (Bb0 ..) ?_);(try simp only[Nr,Nl,wl,Nat.reduceAdd,Nat.reduceMul,Int.reduceToNat])
  refine Tr.condF rfl ?_
  refine B9 (G0 s tabs) fun ⟨a,c,ts⟩=>?_;refine Je ?_
  refine Y3 3 rfl fun hts=>?_
  cases hx:idx tabs env with
  | none=>rw [hx] at hg2;cases hg2
  | some t =>
   obtain ⟨h1,h2,h3⟩:=N4 hx
   obtain ⟨p,hp⟩:=Au4 hts h3
   (refine Ja ?_;unhygienic intros;repeat(refine Gw ?_;rintro px rfl;refine Ja ?_;unhygienic intros))
   refine Tr.xPtrS (v:=some ⟨p,0,none⟩) (by simp [hp]) ?_
   refine S2 I6 ts tabs hp h3 ?_
   refine Tr.xCall (Ea6 p t name (ok.at h3)) ?_;rintro _ h ⟨rfl,o⟩<;>(refine Jf o ?_;unhygienic intros)
   refine A46 I6 ts tabs env.toNat ((O9 t name).getD t) hp h3 ?_
   refine Be8 (φ:=ts.length=(tabs.set env.toNat ((O9 t name).getD t)).length) (by rw [List.length_set];exact hts) ?_
   rw [show Q5 tabs env name=tabs.set env.toNat ((O9 t name).getD t) by unfold Q5;rw [hx]]
   have hl:tabs.length=(tabs.set env.toNat ((O9 t name).getD t)).length:=by rw [List.length_set]
   generalize tabs.set env.toNat ((O9 t name).getD t)=tabs2 at *
   rw [hl]
   refine D3 (G0 s tabs2) (some px,c,ts) ?_;refine Je ?_
   refine Tr.some fun o=>?_
   exact ⟨rfl,o.sub⟩
def Aq6 (S:KS) (env cap:Int):(Int × Int × List UInt8) × KS:=if (M7 S.tabs env cap).isSome then ((0,1,[]),putTabs S (Q5 S.tabs env cap)) else ((2,0,[]),S)
def J7 (S:KS) (env:Int) (c:CallS):(Int × Int × List UInt8) × KS:=if env<0∨env≥S.envs.length then ((1,0,[]),S) else if c.op=5 then Aq6 S env c.cap else kDo S env c
theorem Dm3 (k:Nat) (S:KS) (N:Nat) (ok:KOk N S) (rl:Ad7 S.tabs) (env:Int) (c:CallS) (ba:Option Addr) (bc:Nat) (h5:c.op=5) :
  Ct D5 V3 [P0 k,int env,.agg ⟨Aq5 c ba bc⟩] [A8 k S] fun v own=>v=v2 ((Aq6 S env c.cap).1.2.1,(Aq6 S env c.cap).1.1)∧own [A8 k (Aq6 S env c.cap).2]:=by
 refine Ct.of A01 rfl fun h r=>Tr.eq (Az0 ..) ?_;refine Je ?_
 (refine Ja ?_;unhygienic intros)
 rw [h5]
 refine Tr.condF (by decide) ?_
 refine Tr.condT (by decide) ?_
 refine B9 (A8 k S) fun ⟨m,s,q,rg,ea,ec,ma,mc,ms,sa,sc,ss⟩=>?_;refine Je ?_
 (refine Ja ?_;unhygienic intros)
 refine Tr.xCall (Dz5 s S.tabs env c.cap ok.space rl) ?_;rintro _ h ⟨rfl,o⟩<;>(refine Jf o ?_;unhygienic intros)
 unfold Aq6
 cases hg:(M7 S.tabs env c.cap).isSome with
 | true =>
  simp only [v2,if_true]
  (refine Ja ?_;unhygienic intros)
  refine H3 (A8 k (putTabs S (Q5 S.tabs env c.cap))) ⟨m,s,q,rg,ea,ec,ma,mc,ms,sa,sc,ss⟩ [1,1,1,1,1,0,0,0,0,0,0] rfl ?_;refine Je ?_
  refine Tr.some fun o=>?_
  exact ⟨by first|rfl|trivial,o.sub⟩
 | false =>
  simp only [v2,Bool.false_eq_true,if_false]
  (refine Ja ?_;unhygienic intros)
  refine H3 (A8 k S) ⟨m,s,q,rg,ea,ec,ma,mc,ms,sa,sc,ss⟩ [1,1,1,1,1,0,0,0,0,0,0] rfl ?_;refine Je ?_
  refine Tr.some fun o=>?_
  exact ⟨by first|rfl|trivial,o.sub⟩
theorem D81 (k:Nat) (S:KS) (N:Nat) (ok:KOk N S) (rl:Ad7 S.tabs) (env:Int) (c:CallS) (ba:Option Addr) (bc:Nat) (ro:Bool) (pq:List Value × List Value) (h5:c.op=5) :
  Ct D5 H1 [P0 k,int env,.agg ⟨Aq5 c ba bc⟩] [A8 k S,slX ro A5 1 ba c.b.length bc pq (A0 c.b)] fun v own=>∃ x d,v=.agg ⟨[int (J7 S env c).1.1,int (J7 S env c).1.2.1,.slice x (J7 S env c).1.2.2.length d]⟩ ∧
    own [slC false A5 1 x (J7 S env c).1.2.2.length d (A0 (J7 S env c).1.2.2),A8 k (J7 S env c).2,slX ro A5 1 ba c.b.length bc pq (A0 c.b)]:=by
 refine Ct.of Bd9 rfl fun h r=>Tr.eq (Bc8 ..) ?_;refine Je ?_
 refine Tr.nw fun b1 h1=>?_
 refine Tr.nw fun b2 h2=>?_
 refine B9 (A8 k S) fun ⟨m,s,q,rg,ea,ec,ma,mc,ms,sa,sc,ss⟩=>?_;refine Je ?_
 (refine Ja ?_;unhygienic intros)
 refine D3 (A8 k S) ⟨m,s,q,rg,ea,ec,ma,mc,ms,sa,sc,ss⟩ ?_;refine Je ?_
 by_cases he:env<0∨env≥(S.envs.length:Int)
 ·simp only [J7,if_pos he]
  refine Tr.condT (by simpa using he) ?_
  (refine Ja ?_;unhygienic intros)
  refine Q6 false A5 1 (by omega) ?_
  refine Tr.some fun o=>?_
  exact ⟨none,0,rfl,(show Own _ (slC false A5 1 none ([]:List UInt8).length 0 (A0 [])::_) from o).sub⟩
 ·simp only [J7,if_neg he,if_pos h5]
  refine Tr.condF (by simp only [Bool.or_eq_false_iff,decide_eq_false_iff_not];omega) ?_
  (refine Ja ?_;unhygienic intros)
  refine Tr.xCall (B98 k S N ok env c ba bc ro pq) ?_
  intro v h hv
  have hc:¬ (c.op=1∨c.op=2∨c.op=3):=by omega
  simp only [if_neg hc] at hv
  obtain ⟨rfl,o⟩:=hv
  refine (?_:Tr _ _ _ _) o
  refine Je ?_
  (refine Ja ?_;unhygienic intros)
  refine Tr.xCall (Dm3 k S N ok rl env c ba bc h5) ?_;rintro _ h ⟨rfl,o⟩<;>(refine Jf o ?_;unhygienic intros)
  simp only [v2]
  (refine Ja ?_;unhygienic intros)
  refine Q6 false A5 1 (by omega) ?_
  refine Tr.some fun o=>?_
  have hb:(Aq6 S env c.cap).1.2.2=[]:=by unfold Aq6;split<;>rfl
  rw [hb]
  exact ⟨none,0,rfl,(show Own _ (slC false A5 1 none ([]:List UInt8).length 0 (A0 [])::_) from o).sub⟩
theorem D77 (k:Nat) (S:KS) (N:Nat) (ok:KOk N S) (hN:N+1<1000000000) (rl:Ad7 S.tabs) (env:Int) (c:CallS) (ba:Option Addr) (bc:Nat) (ro:Bool) (pq:List Value × List Value) :
  Ct D5 H1 [P0 k,int env,.agg ⟨Aq5 c ba bc⟩] [A8 k S,slX ro A5 1 ba c.b.length bc pq (A0 c.b)] fun v own=>∃ x d,v=.agg ⟨[int (J7 S env c).1.1,int (J7 S env c).1.2.1,.slice x (J7 S env c).1.2.2.length d]⟩ ∧
    own [slC false A5 1 x (J7 S env c).1.2.2.length d (A0 (J7 S env c).1.2.2),A8 k (J7 S env c).2,slX ro A5 1 ba c.b.length bc pq (A0 c.b)]:=by
 by_cases h5:c.op=5
 ·exact D81 k S N ok rl env c ba bc ro pq h5
 ·have e:J7 S env c=V0 S env c:=by
   unfold J7 V0
   split
   ·rfl
   ·rfl
  rw [e]
  exact Dg3 k S N ok hN env c ba bc ro pq h5
abbrev Dv2 (e:Nat):CapS:=⟨((e / 2:Nat):Int),3,0,100,0,0⟩
def Ac5 (tabs:List (List PlaceS)):Prop:=∀ (e:Nat) (t:List PlaceS),tabs[e]?=some t→∀ p ∈ t,p.cap.rEnv=0∧p.cap.rName=0∧(p.used=true→1≤p.gen∧p.cap=Dv2 e)
theorem Ac5.root {tabs:List (List PlaceS)} (k:Ac5 tabs):Ad7 tabs:=fun t ht p hp=>by
 obtain ⟨e,he⟩:=List.getElem?_of_mem ht
 obtain ⟨h1,h2,h3⟩:=k e t he p hp
 exact ⟨h1,h2,fun h=>(h3 h).1⟩
theorem Ac5.get {tabs:List (List PlaceS)} (k:Ac5 tabs) {env name:Int} {c:CapS} (h:M7 tabs env name=some c):c=Dv2 env.toNat:=by
 unfold M7 at h
 split at h
 ·rename_i t ht
  obtain ⟨_,_,h3⟩:=N4 ht
  unfold Am0 at h
  split at h
  ·rename_i i hi
   obtain ⟨p,h4,h5,h6⟩:=Am7 hi
   rw [h4] at h
   cases h
   exact ((k _ t h3 p (List.mem_of_getElem? h4)).2.2 h5).2
  ·cases h
 ·cases h
theorem Ac5.revoke {tabs:List (List PlaceS)} (k:Ac5 tabs) (env name:Int):Ac5 (Q5 tabs env name):=by
 unfold Q5
 split
 ·rename_i t ht
  obtain ⟨_,_,h3⟩:=N4 ht
  intro e t' he p hp
  rw [List.getElem?_set] at he
  split at he
  ·rename_i hx
   rw [if_pos (by omega)] at he
   cases he
   have ko:=k env.toNat t h3
   have main:∀ p ∈ (O9 t name).getD t,p.cap.rEnv=0∧p.cap.rName=0∧(p.used=true→1≤p.gen∧p.cap=Dv2 env.toNat):=by
    unfold O9
    split
    ·rename_i i hi
     obtain ⟨p,h4,h5,h6⟩:=Am7 hi
     rw [h4]
     intro x hx
     rcases List.mem_or_eq_of_mem_set hx with h|rfl
     ·exact ko x h
     ·exact ⟨rfl,rfl,fun h=>by cases h⟩
    ·exact ko
   have:=main p hp
   rw [hx] at this
   exact this
  ·exact k e t' he p hp
 ·exact k
theorem Ac5.grant {tabs:List (List PlaceS)} (k:Ac5 tabs) (env name to give lo n:Int):Ab2 tabs env name to give lo n=tabs∧Ag3 tabs env name to give lo n=(0,if (M7 tabs env name).isSome then 3 else 2):=by
 have e:Ak9 tabs env name to give lo n=(if (M7 tabs env name).isSome then 3 else 2,.zero):=by
  unfold Ak9
  cases h:M7 tabs env name with
  | none=>rfl
  | some c =>
   have hc:=k.get h
   have hr:c.rights=3:=by rw [hc]
   have hb:(U7 .i64 3 4==0)=true:=by decide
   simp only [hr,hb,Bool.true_or,if_true,Option.isSome_some]
 unfold Ab2 Ag3
 rw [e]
 cases (M7 tabs env name).isSome<;>exact ⟨rfl,rfl⟩
abbrev Aw0:List (Int × Int):=[(0,100),(192,100)]
theorem Bx7 {tabs:List (List PlaceS)} (k:Ac5 tabs) {env:Int} (he:0≤env∧env<4) {name right a n:Int} (hr:right=1∨right=2) (h:(I5 tabs Aw0 env name right a n).2=0) :
  0≤a∧0≤n∧a+n≤100∧(I5 tabs Aw0 env name right a n).1=192*(env / 2)+a:=by
 unfold I5 at h ⊢
 split at h
 ·cases h
 ·rename_i c hc
  have hc2:=k.get hc
  have hb:(U7 .i64 c.rights right==0)=false:=by rw [hc2];show (U7 .i64 3 right==0)=false;rcases hr with rfl|rfl<;>decide
  have h1:c.obj=env / 2:=by rw [hc2];show (((env.toNat / 2:Nat)):Int)=_;omega
  have h2:c.lo=0:=by rw [hc2]
  have h3:c.n=100:=by rw [hc2]
  clear hc2
  simp only [hb,Bool.false_eq_true,if_false] at h ⊢
  split at h
  ·cases h
  ·rename_i hx
   rw [if_neg hx]
   simp only [Bool.or_eq_true,decide_eq_true_eq,h1,h2,h3,G9] at hx
   split at h
   ·cases h
   ·rename_i x hxx
    split at h
    ·cases h
    ·rename_i hy
     rw [if_neg hy]
     simp only
     obtain h0|h0:env / 2=0∨env / 2=1:=by omega
     ·rw [h1,h0] at hxx
      cases hxx
      refine ⟨by omega,by omega,by omega,?_⟩
      simp only [G9,h2,h0];omega
     ·rw [h1,h0] at hxx
      cases hxx
      refine ⟨by omega,by omega,by omega,?_⟩
      simp only [G9,h2,h0];omega
theorem Dy0 {x y:List UInt8} (hx:x.length=384) (hy:y.length=384) (h:x.take 100=y.take 100) {a n:Int} (h0:0≤a) (h1:0≤n) (h2:a+n≤100):Ba3 x a n=Ba3 y a n:=by
 unfold Ba3
 rw [if_pos (by omega),if_pos (by omega)]
 have e:∀ z:List UInt8,(z.drop a.toNat).take n.toNat=((z.take 100).drop a.toNat).take n.toNat:=fun z=>by
  rw [List.drop_take,List.take_take,Nat.min_eq_left (by omega)]
 rw [e x,e y,h]
theorem Be7 {x b:List UInt8} (hx:x.length=384) {a:Int} (h0:0≤a) (h2:a+b.length≤384):Aw3 x a b=some (x.take a.toNat++b++x.drop (a.toNat+b.length)):=by
 unfold Aw3
 rw [if_pos (by omega)]
theorem Ds7 {x y b:List UInt8} (hx:x.length=384) (hy:y.length=384) (h:x.take 100=y.take 100) {a:Nat} (h2:a+b.length≤100) :
  (x.take a++b++x.drop (a+b.length)).take 100=(y.take a++b++y.drop (a+b.length)).take 100:=by
 have e:∀ z:List UInt8,z.length=384→(z.take a++b++z.drop (a+b.length)).take 100=(z.take 100).take a++b++(z.take 100).drop (a+b.length):=fun z hz=>by
  rw [List.take_append,List.length_append,List.length_take,Nat.min_eq_left (by omega),List.take_of_length_le (by rw [List.length_append,List.length_take];omega),List.take_take,Nat.min_eq_left (by omega),List.drop_take]
 rw [e x hx,e y hy,h]
theorem Dx9 {x b:List UInt8} (hx:x.length=384) {a:Nat} (h2:100≤a) (h3:a≤384):(x.take a++b++x.drop (a+b.length)).take 100=x.take 100:=by
 rw [List.append_assoc,List.take_append_of_le_length (by rw [List.length_take];omega),List.take_take,Nat.min_eq_left h2]
structure Al (S T:KS):Prop where
 e1:S.envs=[0,0,1,1]
 e2:T.envs=[0,0,1,1]
 m1:S.may=[[0],[1]]
 m2:T.may=[[0],[1]]
 r1:S.regs=Aw0
 r2:T.regs=Aw0
 l1:S.mem.length=384
 l2:T.mem.length=384
 c1:Ac5 S.tabs
 c2:Ac5 T.tabs
 s1:S.sects.length=2
 s2:T.sects.length=2
 u1:S.used.length=2
 u2:T.used.length=2
 now:S.now=T.now
 tab:∀ e:Nat,e<2→S.tabs[e]?=T.tabs[e]?
 mem:S.mem.take 100=T.mem.take 100
 used:S.used[0]?=T.used[0]?
 sect:S.sects[0]?=T.sects[0]?
theorem Al.idx {S T:KS} (A:Al S T) {e:Int} (he:0≤e∧e<2):NN.idx S.tabs e=NN.idx T.tabs e:=by
 unfold NN.idx
 rw [if_pos he.1,if_pos he.1,A.tab _ (by omega)]
theorem Al.get {S T:KS} (A:Al S T) {e:Int} (he:0≤e∧e<2) (name:Int):M7 S.tabs e name=M7 T.tabs e name:=by
 unfold M7;rw [A.idx he]
theorem Al.place {S T:KS} (A:Al S T) {e:Int} (he:0≤e∧e<2) (name right a n:Int):I5 S.tabs Aw0 e name right a n=I5 T.tabs Aw0 e name right a n:=by
 unfold I5;rw [A.get he]
theorem Al.read {S T:KS} (A:Al S T) {e:Int} (he:0≤e∧e<2) (name a n:Int):W0 S.tabs S.regs S.mem e name a n=W0 T.tabs T.regs T.mem e name a n:=by
 rw [A.r1,A.r2]
 unfold W0
 rw [A.place he]
 by_cases h:(I5 T.tabs Aw0 e name 1 a n).2=0
 ·obtain ⟨h0,h1,h2,h3⟩:=Bx7 A.c2 (by omega) (.inl rfl) h
  rw [h,h3,Dy0 A.l1 A.l2 A.mem (by omega) h1 (by omega)]
 ·rw [if_pos h,if_pos h]
theorem Al.write {S T:KS} (A:Al S T) {e:Int} (he:0≤e∧e<2) (name a:Int) (b:List UInt8):(P7 S.tabs S.regs S.mem e name a b).1=(P7 T.tabs T.regs T.mem e name a b).1∧(P7 S.tabs S.regs S.mem e name a b).2.take 100=(P7 T.tabs T.regs T.mem e name a b).2.take 100:=by
 rw [A.r1,A.r2]
 unfold P7
 rw [A.place he]
 by_cases h:(I5 T.tabs Aw0 e name 2 a b.length).2=0
 ·obtain ⟨h0,h1,h2,h3⟩:=Bx7 A.c2 (by omega) (.inr rfl) h
  rw [h,h3,Be7 A.l1 (by omega) (by omega),Be7 A.l2 (by omega) (by omega)]
  refine ⟨rfl,?_⟩
  have e0:(192*(e / 2)+a).toNat=a.toNat:=by omega
  rw [e0]
  exact Ds7 A.l1 A.l2 A.mem (by omega)
 ·rw [if_pos h,if_pos h]
  exact ⟨rfl,A.mem⟩
theorem Al.copy {S T:KS} (A:Al S T) {e:Int} (he:0≤e∧e<2) (f a t o n:Int):(Aa7 S.tabs S.regs S.mem e f a t o n).1=(Aa7 T.tabs T.regs T.mem e f a t o n).1∧(Aa7 S.tabs S.regs S.mem e f a t o n).2.take 100=(Aa7 T.tabs T.regs T.mem e f a t o n).2.take 100:=by
 unfold Aa7
 rw [A.read he]
 split
 ·exact ⟨rfl,A.mem⟩
 ·exact A.write he _ _ _
theorem B87 {tabs:List (List PlaceS)} (k:Ac5 tabs) {m:List UInt8} (hm:m.length=384) {e:Int} (he:2≤e∧e<4) (name a:Int) (b:List UInt8):(P7 tabs Aw0 m e name a b).2.take 100=m.take 100:=by
 unfold P7
 by_cases h:(I5 tabs Aw0 e name 2 a b.length).2=0
 ·obtain ⟨h0,h1,h2,h3⟩:=Bx7 k (by omega) (.inr rfl) h
  rw [h,h3,Be7 hm (by omega) (by omega)]
  exact Dx9 hm (by omega) (by omega)
 ·rw [if_pos h]
theorem D42 {tabs:List (List PlaceS)} (k:Ac5 tabs) {m:List UInt8} (hm:m.length=384) {e:Int} (he:2≤e∧e<4) (f a t o n:Int):(Aa7 tabs Aw0 m e f a t o n).2.take 100=m.take 100:=by
 unfold Aa7
 split
 ·rfl
 ·exact B87 k hm he _ _ _
theorem Df1 {S:KS} (e1:S.envs=[0,0,1,1]) (m1:S.may=[[0],[1]]) (s1:S.sects.length=2) {e n:Int} (he:0≤e∧e<4):At9 S e n=decide (n=e / 2):=by
 unfold At9 Aa1 Dc1
 rw [e1,m1,s1]
 by_cases hn:0≤n∧n<2
 ·obtain rfl|rfl|rfl|rfl:e=0∨e=1∨e=2∨e=3:=by omega
  all_goals (obtain rfl|rfl:n=0∨n=1:=by omega)<;>decide
 ·rw [decide_eq_false (show ¬ (0≤n∧n<((2:Nat):Int)) by omega),decide_eq_false (show ¬ n=e / 2 by omega)];rfl
theorem Dd4 {S:KS} (e1:S.envs=[0,0,1,1]) {e:Int} (he:0≤e∧e<4):Aa1 S e=e / 2:=by
 unfold Aa1
 rw [e1]
 obtain rfl|rfl|rfl|rfl:e=0∨e=1∨e=2∨e=3:=by omega
 all_goals decide
theorem Be9 (u:List (List Int)) (s:Int):(N9 u s).2.length=u.length:=by
 unfold N9;split
 ·split
  ·rfl
  ·rw [List.length_set]
 ·rfl
theorem Bl7 (u:List (List Int)) (s k:Int):(W2 u s k).2.length=u.length:=by
 unfold W2;split
 ·rfl
 ·split
  ·rfl
  ·rw [List.length_set]
theorem Dn8 {u v:List (List Int)} (hu:u.length=2) (hv:v.length=2) (h:u[0]?=v[0]?):(N9 u 0).1=(N9 v 0).1∧(N9 u 0).2[0]?=(N9 v 0).2[0]?:=by
 have e:NN.idx u 0=NN.idx v 0:=h
 unfold N9
 rw [e]
 cases hx:NN.idx v 0 with
 | none=>exact ⟨rfl,h⟩
 | some l =>
  simp only
  split
  ·exact ⟨rfl,h⟩
  ·refine ⟨rfl,?_⟩
   show (u.set 0 _)[0]?=(v.set 0 _)[0]?
   rw [List.getElem?_set_self (by omega),List.getElem?_set_self (by omega)]
theorem Du1 (u:List (List Int)):(N9 u 1).2[0]?=u[0]?:=by
 unfold N9;split
 ·split
  ·rfl
  ·exact List.getElem?_set_ne (by decide)
 ·rfl
theorem Dq6 {u v:List (List Int)} (hu:u.length=2) (hv:v.length=2) (h:u[0]?=v[0]?) (k:Int):(W2 u 0 k).1=(W2 v 0 k).1∧(W2 u 0 k).2[0]?=(W2 v 0 k).2[0]?:=by
 have e:NN.idx u 0=NN.idx v 0:=h
 have e2:An2 u 0 k=An2 v 0 k:=by unfold An2;rw [e]
 have e3:u.getD 0 []=v.getD 0 []:=by rw [List.getD_eq_getElem?_getD,List.getD_eq_getElem?_getD,h]
 unfold W2
 rw [if_neg (show ¬ ¬ (0≤(0:Int)∧(0:Int)<(u.length:Int)) by omega),if_neg (show ¬ ¬ (0≤(0:Int)∧(0:Int)<(v.length:Int)) by omega),e2]
 split
 ·exact ⟨rfl,h⟩
 ·refine ⟨rfl,?_⟩
  show (u.set 0 ((u.getD 0 []).set k.toNat 0))[0]?=(v.set 0 ((v.getD 0 []).set k.toNat 0))[0]?
  rw [List.getElem?_set_self (by omega),List.getElem?_set_self (by omega),e3]
theorem Dy7 (u:List (List Int)) (k:Int):(W2 u 1 k).2[0]?=u[0]?:=by
 unfold W2;split
 ·rfl
 ·split
  ·rfl
  ·exact List.getElem?_set_ne (by decide)
theorem Al.putMem {S T:KS} (A:Al S T) {x y:List UInt8} (hx:x.length=S.mem.length) (hy:y.length=T.mem.length) (h:x.take 100=y.take 100):Al (putMem S x) (putMem T y) :=
 { A with l1:=hx.trans A.l1,l2:=hy.trans A.l2,mem:=h }
theorem Al.putUsed {S T:KS} (A:Al S T) {x y:List (List Int)} (hx:x.length=S.used.length) (hy:y.length=T.used.length) (h:x[0]?=y[0]?):Al (putUsed S x) (putUsed T y) :=
 { A with u1:=hx.trans A.u1,u2:=hy.trans A.u2,used:=h }
theorem Al.putTabs {S T:KS} (A:Al S T) {x y:List (List PlaceS)} (hx:Ac5 x) (hy:Ac5 y) (h:∀ e:Nat,e<2→x[e]?=y[e]?):Al (putTabs S x) (putTabs T y) :=
 { A with c1:=hx,c2:=hy,tab:=h }
theorem Al.putSects {S T:KS} (A:Al S T) {n:Int} (x y:SectS) (h:n.toNat=0→x=y):Al (putSect S n x) (putSect T n y) :=
 { A with
  s1:=by show (S.sects.set n.toNat x).length=2;rw [List.length_set];exact A.s1
  s2:=by show (T.sects.set n.toNat y).length=2;rw [List.length_set];exact A.s2
  sect:=by
   show (S.sects.set n.toNat x)[0]?=(T.sects.set n.toNat y)[0]?
   by_cases h0:n.toNat=0
   ·rw [h0,h h0,List.getElem?_set_self (by rw [A.s1];decide),List.getElem?_set_self (by rw [A.s2];decide)]
   ·rw [List.getElem?_set_ne h0,List.getElem?_set_ne h0];exact A.sect }
theorem Al.sectOf {S T:KS} (A:Al S T):sectOf S 0=sectOf T 0:=by
 unfold EQ.sectOf
 rw [List.getD_eq_getElem?_getD,List.getD_eq_getElem?_getD]
 show S.sects[0]?.getD _=T.sects[0]?.getD _
 rw [A.sect]
theorem Al.sectL {S T:KS} (A:Al S T) {n:Int} (x:SectS) (hn:n.toNat≠0):Al (putSect S n x) T :=
 { A with
  s1:=by show (S.sects.set n.toNat x).length=2;rw [List.length_set];exact A.s1
  sect:=by show (S.sects.set n.toNat x)[0]?=_;rw [List.getElem?_set_ne hn];exact A.sect }
theorem D48 {S T:KS} (A:Al S T) {e:Int} (he:0≤e∧e<2) (name:Int):(Aq6 S e name).1=(Aq6 T e name).1∧Al (Aq6 S e name).2 (Aq6 T e name).2:=by
 unfold Aq6
 rw [A.get he]
 split
 ·refine ⟨rfl,A.putTabs (A.c1.revoke _ _) (A.c2.revoke _ _) fun x hx=>?_⟩
  unfold Q5
  rw [A.idx he]
  cases hi:NN.idx T.tabs e with
  | none=>exact A.tab x hx
  | some t =>
   have h1:=N4 hi
   have h2:=N4 ((A.idx he).trans hi)
   simp only
   rw [List.getElem?_set,List.getElem?_set]
   split
   ·rw [if_pos (by omega),if_pos (by omega)]
   ·exact A.tab x hx
 ·exact ⟨rfl,A⟩
theorem Al.step {S T:KS} (A:Al S T) {e:Int} (he:0≤e∧e<2) (c:CallS):(J7 S e c).1=(J7 T e c).1∧Al (J7 S e c).2 (J7 T e c).2:=by
 have v1:=Dd4 A.e1 (e:=e) (by omega)
 have v2:=Dd4 A.e2 (e:=e) (by omega)
 rw [show e / 2=0 by omega] at v1 v2
 have y1:=fun n=>Df1 A.e1 A.m1 A.s1 (e:=e) (n:=n) (by omega)
 have y2:=fun n=>Df1 A.e2 A.m2 A.s2 (e:=e) (n:=n) (by omega)
 rw [show e / 2=0 by omega] at y1 y2
 unfold J7
 rw [if_neg (show ¬ (e<0∨e≥(S.envs.length:Int)) by rw [A.e1];simp;omega),if_neg (show ¬ (e<0∨e≥(T.envs.length:Int)) by rw [A.e2];simp;omega)]
 by_cases h5:c.op=5
 ·rw [if_pos h5,if_pos h5];exact D48 A he c.cap
 rw [if_neg h5,if_neg h5]
 unfold kDo
 by_cases h1:c.op=1
 ·rw [if_pos h1,if_pos h1,A.read he];exact ⟨rfl,A⟩
 rw [if_neg h1,if_neg h1]
 by_cases h2:c.op=2
 ·rw [if_pos h2,if_pos h2]
  have w:=A.write he c.cap c.at_ c.b
  exact ⟨by rw [w.1],A.putMem (Au9 _ _ _ _ _ _ _) (Au9 _ _ _ _ _ _ _) w.2⟩
 rw [if_neg h2,if_neg h2]
 by_cases h3:c.op=3
 ·rw [if_pos h3,if_pos h3]
  have w:=A.copy he c.cap c.at_ c.to c.on c.n
  exact ⟨by rw [w.1],A.putMem (A95 _ _ _ _ _ _ _ _ _) (A95 _ _ _ _ _ _ _ _ _) w.2⟩
 rw [if_neg h3,if_neg h3]
 by_cases h4:c.op=4
 ·rw [if_pos h4,if_pos h4]
  have g1:=A.c1.grant e c.cap c.to c.on c.at_ c.n
  have g2:=A.c2.grant e c.cap c.to c.on c.at_ c.n
  rw [g1.1,g1.2,g2.1,g2.2,A.get he]
  exact ⟨rfl,A.putTabs A.c1 A.c2 A.tab⟩
 rw [if_neg h4,if_neg h4]
 by_cases h6:c.op=6
 ·rw [if_pos h6,if_pos h6,v1,v2]
  have q:=Dn8 A.u1 A.u2 A.used
  exact ⟨by rw [q.1],A.putUsed (Be9 _ _) (Be9 _ _) q.2⟩
 rw [if_neg h6,if_neg h6]
 by_cases h7:c.op=7
 ·rw [if_pos h7,if_pos h7,v1,v2]
  have q:=Dq6 A.u1 A.u2 A.used c.n
  exact ⟨by rw [q.1],A.putUsed (Bl7 _ _ _) (Bl7 _ _ _) q.2⟩
 rw [if_neg h7,if_neg h7]
 by_cases h8:c.op=8
 ·rw [if_pos h8,if_pos h8]
  unfold Ap2
  rw [y1,y2]
  by_cases hn:c.n=0
  ·rw [if_pos (decide_eq_true hn),if_pos (decide_eq_true hn),hn,A.sectOf,A.now]
   exact ⟨rfl,A.putSects _ _ fun _=>rfl⟩
  ·rw [if_neg (by simpa using hn),if_neg (by simpa using hn)]
   exact ⟨rfl,A⟩
 rw [if_neg h8,if_neg h8]
 by_cases h9:c.op=9
 ·rw [if_pos h9,if_pos h9]
  unfold Ao9
  rw [y1,y2]
  by_cases hn:c.n=0
  ·rw [if_pos (decide_eq_true hn),if_pos (decide_eq_true hn),hn,A.sectOf]
   exact ⟨rfl,A.putSects _ _ fun _=>rfl⟩
  ·rw [if_neg (by simpa using hn),if_neg (by simpa using hn)]
   exact ⟨rfl,A⟩
 rw [if_neg h9,if_neg h9]
 by_cases h10:c.op=10
 ·rw [if_pos h10,if_pos h10,A.now];exact ⟨rfl,A⟩
 rw [if_neg h10,if_neg h10]
 exact ⟨rfl,A⟩
theorem Al.memL {S T:KS} (A:Al S T) {x:List UInt8} (hx:x.length=S.mem.length) (h:x.take 100=S.mem.take 100):Al (EQ.putMem S x) T :=
 { A with l1:=hx.trans A.l1,mem:=h.trans A.mem }
theorem Al.usedL {S T:KS} (A:Al S T) {x:List (List Int)} (hx:x.length=S.used.length) (h:x[0]?=S.used[0]?):Al (EQ.putUsed S x) T :=
 { A with u1:=hx.trans A.u1,used:=h.trans A.used }
theorem Al.other {S T:KS} (A:Al S T) {e:Int} (he:2≤e∧e<4) (c:CallS):Al (J7 S e c).2 T:=by
 have v1:=Dd4 A.e1 (e:=e) (by omega)
 rw [show e / 2=1 by omega] at v1
 have y1:=fun n=>Df1 A.e1 A.m1 A.s1 (e:=e) (n:=n) (by omega)
 rw [show e / 2=1 by omega] at y1
 unfold J7
 rw [if_neg (show ¬ (e<0∨e≥(S.envs.length:Int)) by rw [A.e1];simp;omega)]
 by_cases h5:c.op=5
 ·rw [if_pos h5]
  unfold Aq6
  split
  ·refine { A with c1:=A.c1.revoke _ _,tab:=fun x hx=>?_ }
   show (Q5 S.tabs e c.cap)[x]?=_
   unfold Q5
   split
   ·rw [List.getElem?_set_ne (by omega)];exact A.tab x hx
   ·exact A.tab x hx
  ·exact A
 rw [if_neg h5]
 unfold kDo
 by_cases h1:c.op=1
 ·rw [if_pos h1];exact A
 rw [if_neg h1]
 by_cases h2:c.op=2
 ·rw [if_pos h2]
  exact A.memL (Au9 _ _ _ _ _ _ _) (by rw [A.r1];exact B87 A.c1 A.l1 he _ _ _)
 rw [if_neg h2]
 by_cases h3:c.op=3
 ·rw [if_pos h3]
  exact A.memL (A95 _ _ _ _ _ _ _ _ _) (by rw [A.r1];exact D42 A.c1 A.l1 he _ _ _ _ _)
 rw [if_neg h3]
 by_cases h4:c.op=4
 ·rw [if_pos h4]
  have g1:=A.c1.grant e c.cap c.to c.on c.at_ c.n
  rw [g1.1]
  exact { A with }
 rw [if_neg h4]
 by_cases h6:c.op=6
 ·rw [if_pos h6,v1]
  exact A.usedL (Be9 _ _) (Du1 _)
 rw [if_neg h6]
 by_cases h7:c.op=7
 ·rw [if_pos h7,v1]
  exact A.usedL (Bl7 _ _ _) (Dy7 _ _)
 rw [if_neg h7]
 by_cases h8:c.op=8
 ·rw [if_pos h8]
  unfold Ap2
  rw [y1]
  by_cases hn:c.n=1
  ·rw [if_pos (decide_eq_true hn),hn]
   exact A.sectL _ (by decide)
  ·rw [if_neg (by simpa using hn)]
   exact A
 rw [if_neg h8]
 by_cases h9:c.op=9
 ·rw [if_pos h9]
  unfold Ao9
  rw [y1]
  by_cases hn:c.n=1
  ·rw [if_pos (decide_eq_true hn),hn]
   exact A.sectL _ (by decide)
  ·rw [if_neg (by simpa using hn)]
   exact A
 rw [if_neg h9]
 by_cases h10:c.op=10
 ·rw [if_pos h10];exact A
 rw [if_neg h10]
 exact A
theorem D99 {N:Nat} {S:KS} (k:KOk N S) (hN:N+2<1000000000) (env cap:Int):KOk (N+2) (Aq6 S env cap).2:=by
 have ku:=k.up (show N≤N+2 by omega) hN
 unfold Aq6
 split
 ·have hs:G5 (Q5 S.tabs env cap)∧(Q5 S.tabs env cap).length=S.tabs.length:=by
   unfold Q5
   split
   ·rename_i t ht
    obtain ⟨_,_,h3⟩:=N4 ht
    refine ⟨k.space.set ?_,by rw [List.length_set]⟩
    cases hd:O9 t cap with
    | none=>exact k.space.at h3
    | some t'=>exact (Du3 (k.space.at h3) hd).1
   ·exact ⟨k.space,rfl⟩
  exact ⟨k.envs,by show (Q5 S.tabs env cap).length=_;rw [hs.2];exact k.tabs,hs.1,k.quota,k.mem,k.regs,k.may,k.mayl,k.nsect,ku.sects,k.now⟩
 ·exact ku
theorem Dd0 {N:Nat} {S:KS} (k:KOk N S) (hN:N+2<1000000000) (env:Int) (c:CallS):KOk (N+2) (J7 S env c).2:=by
 unfold J7;split
 ·exact k.up (by omega) hN
 ·split
  ·exact D99 k hN env c.cap
  ·exact Dw9 k hN env c
theorem Do9 (k:Nat) (S:KS) (N:Nat) (ok:KOk N S) (hN:N+1<1000000000) (rl:Ad7 S.tabs) (env:Int) (c:CallS) (ba:Option Addr) (bc:Nat) (ro:Bool) :
  Ct D5 H1 [P0 k,int env,.agg ⟨Aq5 c ba bc⟩] [A8 k S,slC ro A5 1 ba c.b.length bc (A0 c.b)] fun v own=>∃ x d,v=.agg ⟨[int (J7 S env c).1.1,int (J7 S env c).1.2.1,.slice x (J7 S env c).1.2.2.length d]⟩ ∧
    own [slC false A5 1 x (J7 S env c).1.2.2.length d (A0 (J7 S env c).1.2.2),A8 k (J7 S env c).2,slC ro A5 1 ba c.b.length bc (A0 c.b)]:=by
 intro h r o
 obtain ⟨pq,o1⟩:=Own.ex (f:=fun pq=>slX ro A5 1 ba c.b.length bc pq (A0 c.b)) (o.perm (.swap _ _ _))
 obtain ⟨v,h',e,x,d,rfl,o2⟩:=D77 k S N ok hN rl env c ba bc ro pq h r (o1.perm (.swap _ _ _))
 refine ⟨_,h',e,x,d,rfl,?_⟩
 have o3:=o2.picks [2] rfl
 exact (Own.inex (f:=fun pq=>slX ro A5 1 ba c.b.length bc pq (A0 c.b)) pq o3).picks [1,1,0] rfl
end Go.EQ

set_option maxRecDepth 100000
namespace Go.EQ
open Go Go.NN
theorem Al.tick {S T:KS} (A:Al S T) (n:Int):(Ak4 S n).now=(Ak4 T n).now∧Al (Ak4 S n) (Ak4 T n):=by
 have e:(Ak4 S n).now=(Ak4 T n).now:=by
  have:=A.now
  unfold Ak4;simp only [this]
 exact ⟨e,{ A with now:=e }⟩
instance {g:Option Addr × Nat} {q:OpS}:PartC (opL (g,q)) 1 7 (Aq5 q.c g.1 g.2):=⟨rfl⟩
instance {g:Option Addr × Nat} {q:OpS}:LenC (opL (g,q)) 8:=⟨rfl⟩
section
variable (gs:List (Option Addr × Nat)) (ops:List OpS) (a:Option Addr) (c:Nat) (x y:Nat) (hgs:gs.length=ops.length)
abbrev alF (S T:KS):List HP:=[A8 x S,A8 y T,slC true Ag0 8 a ops.length c (Bx3 gs ops),E7 opC gs ops]
def Bl0 (i:Nat) (S T:KS):Prop :=
 CtJ Q1 G8 N8 [(0,.slice a ops.length c),(4,P0 x),(6,P0 y),(8,int i)] (alF gs ops a c x y S T) fun v own=>v=.bool true
include hgs
theorem Ec8:∀ (z i:Nat) (S T:KS),i+z=60→KOk (2*i) S→KOk (2*i) T→Al S T→Bl0 gs ops a c x y i S T:=by
 intro z
 induction z with
 | zero =>
  intro i S T hi kS kT A
  unfold Bl0 alF
  refine CtJ.of Ah1 fun h r=>Tr.eq (Aj5 ..) ?_;refine Je ?_
  refine Tr.andG (c:=decide ((i:Int)<60)) (fun hb=>?_) ?_
  ·exact Jz
  refine Tr.condF (by simp;omega) ?_
  refine Tr.xCall (Bl1) ?_;rintro _ h ⟨rfl,o⟩<;>(refine Jg o ?_;unhygienic intros)
  refine Tr.some fun o=>?_
  rfl
 | succ z ih =>
  intro i S T hi kS kT A
  by_cases hlt:i<ops.length
  ·have hx:ops[i]?=some ops[i]:=List.getElem?_eq_getElem hlt
   obtain ⟨g,hg⟩:∃ g,gs[i]?=some g:=⟨gs[i],List.getElem?_eq_getElem (by omega)⟩
   generalize ops[i]=q at hx
   have hcell:((Bx3 gs ops).drop (i*8)).take 8=opL (g,q):=Ax3 B59 (Di3 hg hx)
   have hlen:(Bx3 gs ops).length=ops.length*8:=by unfold Bx3;rw [R3 B59];simp [hgs]
   have e1:=wN i
   have next:∀ S' T',KOk (2*(i+1)) S'→KOk (2*(i+1)) T'→Al S' T'→Bl0 gs ops a c x y (i+1) S' T':=fun S' T' k1 k2 A'=>ih (i+1) S' T' (by omega) k1 k2 A'
   unfold Bl0 alF at next ⊢
   refine CtJ.of Ah1 fun h r=>Tr.eq (Aj5 ..) ?_;refine Je ?_
   refine Tr.andG (c:=decide ((i:Int)<60)) (fun hb=>?_) ?_
   ·exact Jz
   refine Tr.condT (by simp;omega) ?_
   (refine Ja ?_;unhygienic intros;repeat(refine Gw ?_;rintro px rfl;refine Ja ?_;unhygienic intros))
   rw [Int.toNat_natCast]
   refine Tr.xAggS (xs:=opL (g,q)) ⟨by omega,by rw [hlen];omega,hcell⟩ ?_
   (refine Jc ?_;unhygienic intros)
   refine Tr.nw fun b h=>?_
   (refine Jc ?_;unhygienic intros)
   refine (?_:Tr (pt b (.cells Ag0 false (opL (g,q)))::A8 x S::A8 y T::slC true Ag0 8 (some px) ops.length c (Bx3 gs ops)::E7 opC gs ops::r) _ _ _)
   by_cases h200:q.c.b.length>200
   ·refine Tr.condT (by simp;omega) ?_
    refine Tr.xCall (Bl1) ?_;rintro _ h ⟨rfl,o⟩<;>(refine Jg o ?_;unhygienic intros)
    refine Tr.some fun o=>?_
    rfl
   refine Tr.condF (by simp;omega) ?_
   (refine Jc ?_;unhygienic intros)
   by_cases hneg:q.env<0
   ·refine Tr.condT (by simpa using hneg) ?_
    have tk:=A.tick q.c.n
    have J2:=De5 y T (2*i) kT q.c.n
    rw [← tk.1] at J2
    (refine Jc ?_;unhygienic intros)
    refine Tr.xCall (De5 x S (2*i) kS q.c.n) ?_;rintro _ h ⟨rfl,o⟩<;>refine Jh o ?_
    (refine Jc ?_;unhygienic intros)
    refine Tr.xCall (J2) ?_;rintro _ h ⟨rfl,o⟩<;>refine Jh o ?_
    refine Tr.condF (by simp) ?_
    rw [e1]
    refine Tr.xRun (next (Ak4 S q.c.n) (Ak4 T q.c.n) ((De4 kS _).up (by omega) (by omega)) ((De4 kT _).up (by omega) (by omega)) tk.2) ?_;rintro _ h rfl
    rfl
   refine Tr.condF (by simpa using hneg) ?_
   (refine Jc ?_;unhygienic intros)
   have he:0≤U7 .i64 q.env 3∧U7 .i64 q.env 3<4:=by rw [Eb8];omega
   obtain ⟨e,hE⟩:∃ e,U7 .i64 q.env 3=e:=⟨_,rfl⟩
   rw [hE] at he ⊢
   have k1:=Dd0 kS (by omega) e q.c
   have J1:=Do9 x S (2*i) kS (by omega) A.c1.root e q.c g.1 g.2 true
   refine S2 opC gs ops hg hx ?_
   refine Tr.xCall J1 ?_
   rintro _ h ⟨x1,d1,rfl,o⟩
   refine (?_:Tr _ _ _ _) o
   refine Je ?_
   (refine Jc ?_;unhygienic intros)
   refine Tr.nw fun b1 h=>?_
   (refine Jc ?_;unhygienic intros)
   rw [hE]
   refine Ad5 opC gs ops i hg hx ?_
   by_cases h1:e>1
   ·refine Tr.condT (by simpa using h1) ?_
    rw [e1]
    refine Tr.xRun (next _ _ k1 (kT.up (by omega) (by omega)) (A.other (by omega) q.c)) ?_;rintro _ h rfl
    rfl
   refine Tr.condF (by simpa using h1) ?_
   have st:=A.step (show 0≤e∧e<2 by omega) q.c
   have k2:=Dd0 kT (by omega) e q.c
   have J2:=Do9 y T (2*i) kT (by omega) A.c2.root e q.c g.1 g.2 true
   rw [← st.1] at J2
   (refine Jc ?_;unhygienic intros)
   rw [hE]
   refine S2 opC gs ops hg hx ?_
   refine Tr.xCall J2 ?_
   rintro _ h ⟨x2,d2,rfl,o⟩
   refine (?_:Tr _ _ _ _) o
   refine Je ?_
   (refine Jc ?_;unhygienic intros)
   refine Tr.nw fun b2 h=>?_
   (refine Jc ?_;unhygienic intros)
   refine Ad5 opC gs ops i hg hx ?_
   refine Tr.condF (by simp) ?_
   rw [e1]
   refine Tr.xRun (next _ _ k1 k2 st.2) ?_;rintro _ h rfl
   rfl
  ·refine CtJ.of Ah1 fun h r=>Tr.eq (Aj5 ..) ?_;refine Je ?_
   refine Tr.andG (c:=decide ((i:Int)<60)) (fun hb=>?_) ?_
   ·exact Jz
   refine Tr.condF (by simp;omega) ?_
   refine Tr.xCall (Bl1) ?_;rintro _ h ⟨rfl,o⟩<;>(refine Jg o ?_;unhygienic intros)
   refine Tr.some fun o=>?_
   rfl
end
end Go.EQ

set_option maxRecDepth 100000
namespace Go.EQ
open Go Go.NN
def V5:BootS:=⟨[3,3],[0,0,1,1],[[0],[1]],3,[⟨0,0,0,100,[0]⟩,⟨1,0,0,100,[1]⟩]⟩
theorem A90:Al9 V5=true:=by kernel_rfl
theorem A78:Small V5:=⟨by simp [V5,E6],by simp [V5,E6],by simp [V5,E6]⟩
theorem Do8 {l:List HP} {h:H} {α:Type} {Q:α→H→Prop} {τ β:Type} (F:τ→β→HP) (ts:List τ) (xs:List β) (ts':List τ) (xs':List β) {r:List HP} {z:Option (α × H)} [tk:Takes [E7 F ts xs,E7 F ts' xs'] l r] (hl:ts.length=xs.length)
  (k:Tr (E7 F (ts++ts') (xs++xs')::r) h z Q):Tr l h z Q:=fun o=>k (Own.all2_app hl (o.perm tk.pm))
def B61 (e:Nat) (p:PlaceS):Bool:=(p.cap.rEnv==0) && (p.cap.rName==0) && (!p.used || (decide (1≤p.gen) && (p.cap.obj==((e / 2:Nat):Int)) && (p.cap.rights==3) && (p.cap.lo==0) && (p.cap.n==100)))
theorem D87 {e:Nat} {p:PlaceS} (h:B61 e p=true):p.cap.rEnv=0∧p.cap.rName=0∧(p.used=true→1≤p.gen∧p.cap=Dv2 e):=by
 obtain ⟨⟨c1,c2,c3,c4,c5,c6⟩,g,u⟩:=p
 unfold B61 at h
 simp only [Bool.and_eq_true,Bool.or_eq_true,Bool.not_eq_true',beq_iff_eq,decide_eq_true_eq] at h
 obtain ⟨⟨h1,h2⟩,h3⟩:=h
 refine ⟨h1,h2,fun hu=>?_⟩
 rcases h3 with h3|⟨⟨⟨⟨a,b⟩,c⟩,d⟩,e⟩
 ·have hu2:u=true:=hu
  rw [hu2] at h3;cases h3
 ·refine ⟨a,?_⟩
  show CapS.mk c1 c2 c3 c4 c5 c6=_
  rw [b,c,d,e,h1,h2]
theorem D58:((Aj3 V5).tabs.length==4 && ((Aj3 V5).tabs.getD 0 []).all (B61 0) && ((Aj3 V5).tabs.getD 1 []).all (B61 1) && ((Aj3 V5).tabs.getD 2 []).all (B61 2) && ((Aj3 V5).tabs.getD 3 []).all (B61 3))=true:=by kernel_rfl
theorem Dw6:Ac5 (Aj3 V5).tabs:=by
 have h:=D58
 simp only [Bool.and_eq_true,beq_iff_eq,List.all_eq_true] at h
 obtain ⟨⟨⟨⟨hl,h0⟩,h1⟩,h2⟩,h3⟩:=h
 intro e t ht p hp
 have he:e<4:=by rw [← hl];exact (List.getElem?_eq_some_iff.1 ht).1
 have hd:(Aj3 V5).tabs.getD e []=t:=by rw [List.getD_eq_getElem?_getD,ht];rfl
 refine D87 ?_
 match e,he with
 | 0,_=>rw [hd] at h0;exact h0 p hp
 | 1,_=>rw [hd] at h1;exact h1 p hp
 | 2,_=>rw [hd] at h2;exact h2 p hp
 | 3,_=>rw [hd] at h3;exact h3 p hp
theorem Ec4:Al (Aj3 V5) (Aj3 V5) :=
 ⟨by kernel_rfl,by kernel_rfl,by kernel_rfl,by kernel_rfl,by kernel_rfl,by kernel_rfl,by kernel_rfl,by kernel_rfl,Dw6,Dw6,by kernel_rfl,by kernel_rfl,by kernel_rfl,by kernel_rfl,rfl,fun _ _=>rfl,rfl,rfl,rfl⟩
theorem Di6 (gs:List (Option Addr × Nat)) (ops:List OpS) (hgs:gs.length=ops.length) (a:Option Addr) (c:Nat) :
  Ct D5 G8 [.slice a ops.length c] [slC true Ag0 8 a ops.length c (Bx3 gs ops),E7 opC gs ops] fun v own=>v=.bool true:=by
 refine Ct.of Ah1 rfl fun h r=>Tr.eq (Bw0 ..) ?_;refine Je ?_
 refine Tr.nw fun b1 h1=>?_
 refine Tr.nw fun b2 h2=>?_
 refine Tr.nw fun b3 h3=>?_
 refine Tr.nw fun b4 h4=>?_
 refine Tr.nw fun b5 h5=>?_
 refine Tr.nw fun b6 h6=>?_
 refine Tr.nw fun b7 h7=>?_
 refine Tr.nw fun b8 h8=>?_
 refine R5 0 rfl 5 2 rfl (by omega) ?_;refine Je ?_
 refine R5 1 rfl 1 1 rfl (by omega) ?_;refine Je ?_
 refine R5 2 rfl 1 1 rfl (by omega) ?_;refine Je ?_
 refine R5 3 rfl 1 2 rfl (by omega) ?_;refine Je ?_
 refine R5 4 rfl 1 1 rfl (by omega) ?_;refine Je ?_
 refine R5 5 rfl 1 1 rfl (by omega) ?_;refine Je ?_
 refine R5 6 rfl 1 4 rfl (by omega) ?_;refine Je ?_
 refine R5 7 rfl 1 2 rfl (by omega) ?_;refine Je ?_
 refine A44 (rsC false) (some ⟨b4,0,none⟩,1) ([1]:List Int) (r:=[]) 4 rfl ?_;refine Je ?_
 refine A44 (rsC false) (some ⟨b3,0,none⟩,1) ([0]:List Int) (r:=[]) 5 rfl ?_;refine Je ?_
 refine Do8 (rsC false) [(some ⟨b3,0,none⟩,1)] [([0]:List Int)] [(some ⟨b4,0,none⟩,1)] [([1]:List Int)] rfl ?_;refine Je ?_
 refine A44 (toC false) (some ⟨b7,0,none⟩,1) (⟨1,0,0,100,[1]⟩:ShareS) (r:=[]) 2 rfl ?_;refine Je ?_
 refine A44 (toC false) (some ⟨b6,0,none⟩,1) (⟨0,0,0,100,[0]⟩:ShareS) (r:=[]) 3 rfl ?_;refine Je ?_
 refine Do8 (toC false) [(some ⟨b6,0,none⟩,1)] [(⟨0,0,0,100,[0]⟩:ShareS)] [(some ⟨b7,0,none⟩,1)] [(⟨1,0,0,100,[1]⟩:ShareS)] rfl ?_;refine Je ?_
 refine Tr.nw fun b9 h=>?_
 (refine Jc ?_;unhygienic intros)
 have N:=Dw7 false V5 ⟨some ⟨b1,0,none⟩,2,some ⟨b2,0,none⟩,4,some ⟨b5,0,none⟩,2,[(some ⟨b3,0,none⟩,1),(some ⟨b4,0,none⟩,1)],some ⟨b8,0,none⟩,2,[(some ⟨b6,0,none⟩,1),(some ⟨b7,0,none⟩,1)]⟩ ⟨rfl,rfl⟩ A78
 refine Bh3 N [6,5,4,2,2,1] rfl ?_
 intro v h hv
 rw [if_pos A90] at hv
 obtain ⟨x,rfl,o⟩:=hv
 refine (?_:Tr _ _ _ _) o
 refine Je ?_
 (refine Jc ?_;unhygienic intros)
 refine Bh3 N [1,1,1,1,1,1] rfl ?_
 intro v h hv
 rw [if_pos A90] at hv
 obtain ⟨y,rfl,o⟩:=hv
 refine (?_:Tr _ _ _ _) o
 refine Je ?_
 (refine Jb ?_;unhygienic intros)
 refine Tr.bnd (Tr.condF rfl ?_)
 refine Tr.some fun o=>(?_:Tr _ _ _ _) o;refine Je ?_
 refine Tr.bnd (Tr.condF rfl ?_)
 refine Tr.some fun o=>(?_:Tr _ _ _ _) o;refine Je ?_
 refine Tr.bnd (Tr.condF rfl ?_)
 refine Tr.some fun o=>(?_:Tr _ _ _ _) o;refine Je ?_
 refine Tr.condF rfl ?_
 have sp:=Ec8 gs ops a c x y hgs 60 0 (Aj3 V5) (Aj3 V5) rfl (Br5 A90 A78) (Br5 A90 A78) Ec4
 unfold Bl0 alF at sp
 refine D92 sp [7,0,7,7] rfl ?_
 rintro _ h rfl
 rfl
end Go.EQ

set_option maxRecDepth 100000
namespace Go.EQ
open Go Go.NN Go.Proofs Go.ChangeShapes Go.WideShapes Go.RowKit
theorem D78:∀ f,(cutsOf f).globs=0:=Bk9 D67 (by kernel_rfl)
theorem D84:∀ f,(cutsOf f).globs≤PR.globals.size:=fun f=>by rw [D78 f];exact Nat.zero_le _
theorem Ea2:PR.follows .mixedOrders=true:=by kernel_rfl
theorem Ea9:laidOutB PR=true:=by kernel_rfl
theorem Ec5:ownKnob PR.godebug=none:=by kernel_rfl
end Go.EQ

set_option maxRecDepth 100000
namespace Go.EQ
open Go Go.NN Go.Proofs Go.ChangeShapes Go.WideShapes Go.RowKit
theorem Ec6 {W:World}:J9 PR W An4 (fun (g:Option Addr × Nat) (c:CallS)=>Aq5 c g.1 g.2) (fun g c=>slC true A5 1 g.1 c.b.length g.2 (A0 c.b)) (fun _=>True) :=
 (J9.struct Dt7 (by kernel_rfl) (Am6.cons (J9.int Bh7) (Am6.cons (J9.int Bh7) (Am6.cons (J9.int Bh7) (Am6.cons (J9.int Bh7) (Am6.cons (J9.int Bh7) (Am6.cons (J9.int Bh7) (Am6.cons (J9.bytes A5 Dw4 D96 (by kernel_rfl)) Am6.nil)))))))).as
  fun ⟨op,cap,at_,n,to,on,b,_⟩ _=>⟨⟨op,cap,at_,n,to,on,b⟩,trivial,fun ⟨_,_,_,_,_,_,g,_⟩=>⟨g,rfl,fun hh r o=>(((((((o.of_sl 1 rfl).of_sl 1 rfl).of_sl 1 rfl).of_sl 1 rfl).of_sl 1 rfl).of_sl 1 rfl).of_sl 0 rfl)⟩⟩
theorem opT {W:World}:J9 PR W Ag0 (fun (g:Option Addr × Nat) (o:OpS)=>opL (g,o)) (fun g o=>opC g o) (fun _=>True) :=
 (J9.struct Dx3 (by kernel_rfl) (Am6.cons (J9.int Bh7) (Am6.cons Ec6 Am6.nil))).as
  fun ⟨env,c,_⟩ _=>⟨⟨env,c⟩,trivial,fun ⟨_,g,_⟩=>⟨g,by simp [opL],fun hh r o=>(o.of_sl 1 rfl).of_sl 0 rfl⟩⟩
theorem Ed1 {W:World}:J9 PR W Ba8 (fun (g:(Option Addr × Nat) × List (Option Addr × Nat)) (ops:List OpS)=>[.slice g.1.1 ops.length g.1.2])
  (fun g ops=>sl [slC true Ag0 8 g.1.1 ops.length g.1.2 (Bx3 g.2 ops),E7 opC g.2 ops,pu (g.2.length=ops.length)]) (fun ops=>ops.length≤maxLen∧∀ o ∈ ops,True) :=
 J9.slice Ag0 Bu8 (by kernel_rfl) (by omega) (fun g y=>B59 (g,y)) opT
end Go.EQ

set_option maxRecDepth 100000
namespace Go.EQ
open Go Go.NN Go.Proofs Go.Proofs.Ytmhfkfijaamamaa Go.ChangeShapes Go.WideShapes Go.RowKit
theorem D91 {H:Type} {enc:TypeId × Value→H} {W:World} {v2:Value} {d2:DataW H} {p2:List MemPlace} {b0:Nat} (k2:Value.okWide PR W .any b0 Ba8 v2)
  (h2:DataW.Trod enc PR W 0 (fun _=>true) true Ba8 v2 d2 p2):Calls PR G8 #[v2] W fun e W'=>e=.returned (.bool true)∧Below W.heap.size W W':=by
 obtain ⟨ops,_,i2⟩:=(Ed1 (W:=W)).arg (Dl5 Bu8 k2) h2
 refine i2.run Ea2 D84 fun vs ps ⟨g,hv,hp⟩ hh r o=>?_
 subst hv;subst hp
 have hg:g.2.length=ops.length:=(Own.of_sl o 2 rfl).pure
 have o3:=(Own.join o).weak1 2
 obtain ⟨v,h',e,rfl⟩:=Di6 g.2 ops hg g.1.1 g.1.2 hh r o3
 exact ⟨h',e⟩
theorem D34 (os:Os) (started:os.Started) (H:Type) (enc:TypeId × Value→H) :
  ReturnsInHanded {} Try.checked os G8 .any (Rows.kernAloneSpec.pre6 enc Try.prog Try.f3 Rows.kernAloneRow.domain false) (Rows.kernAloneSpec.post enc Try.prog Try.f3 false true false false):=by
 refine returnsInHanded_of_change (C:=Try.checked) Ec5 started (by kernel_rfl) Try.func3
  (ChangeSpec.witness6 (enc:=enc) (C:=Try.checked) false ⟨#[],#[.slice none 0 0],[]⟩ 8 (by kernel_rfl) (by kernel_rfl) (by kernel_rfl) (by kernel_rfl)) ?_
 intro W base args ds gs before hval hW hcnd _
 have hW':=hW
 obtain ⟨p,q,hA,hV,rfl,hfz,hnd⟩:=hW
 rw [Try.params3] at hA hval
 obtain ⟨v0,d0,rfl,rfl,h0⟩:=trodAll_one hA
 refine (D91 (hval 0 _ v0 rfl rfl) h0).mono fun e W' ⟨he,hb⟩=>?_
 subst he
 refine ⟨_,rfl,Dy9 Ea9 ?_ rfl Eb5 rfl (fun ds gs hl=>?_) hW' hb⟩
 ·rw [Try.params3];intro t ht;simp at ht;subst ht;exact ⟨by kernel_rfl,of_decide_eq_true (by kernel_rfl)⟩
 ·replace hl:ds.length=1:=hl
  cases gs with
  | cons _ _=>exact .inr (by simp)
  | nil=>match ds,hl with|[_],_=>exact .inl rfl
theorem KernAlone_holds:Rows.KernAloneSaid :=
 OpenClaim.holds_of_wide G8 Try.f3 rfl rfl rfl rfl rfl rfl rfl ⟨rfl,rfl,rfl,rfl,rfl⟩ rfl rfl rfl rfl rfl (by kernel_rfl) Try.func3 (by kernel_rfl)
  (of_decide_eq_true (by kernel_rfl)) (by unfold Func.isWrapper;first|(rw [if_pos (by decide +kernel)];kernel_rfl)|(rw [if_neg (by decide +kernel)];exact ⟨rfl,rfl⟩))
  (fun os started H enc _=>D34 os started H enc)
end Go.EQ
