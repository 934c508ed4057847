/- A blocked call ends when a signal that is caught comes, and tells so; one that ends the process ends it with that code; one that is ignored, or kept off, does nothing. -/
import Derived.Test.YtonlefldpebcpaaGreatDoorMg
set_option linter.all false
set_option maxRecDepth 10000
namespace Go.EQ
open Go Go.NN
abbrev NmL:=List (Int × Bool)
def nmL (p:Int × Bool):List Value:=[int p.1,.bool p.2]
theorem Bz7 (p:Int × Bool):(nmL p).length=2:=rfl
abbrev nmF (n:Nat) (L:NmL) (x:Option Addr × Nat):List HP:=[pt n (.cells Gh1 false [.slice x.1 L.length x.2]),slC false Bx5 2 x.1 L.length x.2 (L.flatMap nmL)]
def nmC (n:Nat) (L:NmL):HP:=hex fun x=>sl (nmF n L x)
instance {n:Nat} {L:NmL}:Chk (nmC n L) (nmF n L):=⟨rfl⟩
def Dr1 (L:NmL):Prop:=L.length≤256∧∀ p ∈ L,0≤p.1∧p.1≤1000001
theorem Dr1.at {L:NmL} (k:Dr1 L) {i:Nat} {p:Int × Bool} (h:L[i]?=some p):0≤p.1∧p.1≤1000001:=k.2 p (List.mem_of_getElem? h)
theorem Dr1.set {L:NmL} (k:Dr1 L) {i:Nat} {p:Int × Bool} (h:0≤p.1∧p.1≤1000001):Dr1 (L.set i p):=⟨by simpa using k.1,fun x hx=>by
 rcases List.mem_or_eq_of_mem_set hx with h1|rfl
 ·exact k.2 x h1
 ·exact h⟩
theorem Ho3 (n size:Nat) (hs:size≤256):∀ (m i:Nat) (L:NmL),size-i=m→i≤size→L=List.replicate i (1,false) →
  CtJ H0 Af9 A70 [(0,int size),(3,P0 n),(4,int i)] [nmC n L] fun v own=>v=P0 n∧own [nmC n (List.replicate size (1,false))]:=by
 intro m
 induction m with
 | zero =>
  intro i L hm hi hL;obtain rfl:i=size:=by omega
  subst hL;refine Cj Dk4 (fun _=>Dw0 ..) fun h r=>?_;refine Ja ?_;intros;refine Yf (by simp) ?_;refine Ys fun o=>?_;exact ⟨by first|rfl|trivial,o.sub⟩
 | succ m ih =>
  intro i L hm hi hL;have hl:L.length=i:=by rw [hL];simp
  have e1:=wN i;have ea:L.length+1=(L++[((1:Int),false)]).length:=by simp
  have eb:L.flatMap nmL++[Value.int IntKind.i64 1,Value.bool false]=(L++[((1:Int),false)]).flatMap nmL:=by simp [nmL]
  refine Cj Dk4 (fun _=>Dw0 ..) fun h r=>?_;refine Ja ?_;intros;refine Yt (by simp;omega) ?_;refine B6 (nmC n L) fun ⟨a,c⟩=>?_;refine Je ?_;refine Ja ?_;intros;refine Tr.xApd ?_ (fun a' c' h=>?_);exact ⟨by first|rfl|simp,by first|rfl|simp,by simp only [B3];omega⟩;refine Je ?_;refine Ja ?_;intros;refine Je ?_;rw [e1,ea,eb];refine I3 (nmC n (L++[((1:Int),false)])) (a',c') [1,1] rfl ?_;refine Je ?_;refine Yr (ih (i+1) (L++[((1:Int),false)]) (by omega) (by omega) (by rw [hL,List.replicate_succ'])) ?_;rintro _ h ⟨rfl,o⟩;exact ⟨rfl,o.sub⟩
theorem Ik4 (size:Nat) (hs:size≤256):Ct B0 Af9 [int size] [] fun v own=>∃ n,v=P0 n∧own [nmC n (List.replicate size (1,false))]:=by
 refine Co Dk4 (fun _=>Ha3 ..) fun h r=>?_;refine Yn fun n h=>?_;refine G0 false Bx5 2 (by omega) ?_;refine I3 (nmC n []) (none,0) [1,0] rfl ?_;refine Je ?_;refine Yr (Ho3 n size hs _ 0 [] rfl (by omega) rfl) ?_;rintro _ h ⟨rfl,o⟩;exact ⟨n,rfl,o.sub⟩
def Bu4:Nat→NmL→Option (Nat × Int)
 | _,[]=>none
 | i,p::L=>if p.2=false∧p.1≤1000000 then some (i,p.1) else Bu4 (i+1) L
theorem Gy5:∀ (i j:Nat) (L:NmL) (g:Int),Bu4 i L=some (j,g)→i≤j∧L[j-i]?=some (g,false)∧g≤1000000
 | _,_,[],_,h=>by simp [Bu4] at h
 | i,j,p::L,g,h=>by
  unfold Bu4 at h
  split at h
  ·rename_i hp
   cases h
   obtain ⟨g,b⟩:=p;obtain ⟨rfl,h2⟩:=hp;exact ⟨Nat.le_refl _,by simp,h2⟩
  ·obtain ⟨h1,h2,h3⟩:=Gy5 (i+1) j L g h;refine ⟨by omega,?_,h3⟩;rw [show j-i=(j-(i+1))+1 by omega];simpa using h2
def Eo7 (L:NmL):Option (Int × NmL):=match Bu4 0 L with
 | some (i,g)=>some (i+256*g,L.set i (g,true))
 | none=>none
theorem Id3 {L L':NmL} {x:Int} (k:Dr1 L) (h:Eo7 L=some (x,L')):Dr1 L'∧L'.length=L.length∧0≤x∧(x%256).toNat<L.length:=by
 unfold Eo7 at h
 cases hf:Bu4 0 L with
 | none=>rw [hf] at h;cases h
 | some p =>
  obtain ⟨i,g⟩:=p;rw [hf] at h;cases h
  obtain ⟨_,h2,h3⟩:=Gy5 0 i L g hf;have h4:=k.at h2;have h5:=(List.getElem?_eq_some_iff.1 h2).1;have h6:=k.1;exact ⟨k.set (by simp only at h4 ⊢;omega),by simp,by simp only at h4;omega,by simp only at h4;omega⟩
theorem Im6 (n:Nat) (L:NmL) (k:Dr1 L):∀ (m i:Nat),L.length-i=m→i≤L.length →
  CtJ H0 Ad0 A43 [(0,P0 n),(4,int i)] [nmC n L] fun v own=>match Bu4 i (L.drop i) with
   | some (j,g)=>v=.tuple ⟨[int (j+256*g),.bool true]⟩∧own [nmC n (L.set j (g,true))]
   | none=>v=.tuple ⟨[int 0,.bool false]⟩∧own [nmC n L]:=by
 have h256:=k.1;intro m
 induction m with
 | zero =>
  intro i hm hi;refine Cj B89 (fun _=>Dn7 ..) fun h r=>?_;refine B6 (nmC n L) fun ⟨a,c⟩=>?_;refine Je ?_;refine Ja ?_;intros;refine Yf (by simp;omega) ?_;refine B1 (nmC n L) (a,c) ?_;refine Je ?_;refine Ys fun o=>?_;rw [List.drop_eq_nil_of_le (by omega)];exact ⟨rfl,o.sub⟩
 | succ m ih =>
  intro i hm hi;have hlt:i<L.length:=by omega
  have hp:L[i]?=some L[i]:=List.getElem?_eq_getElem hlt;have hd:L.drop i=L[i]::L.drop (i+1):=List.drop_eq_getElem_cons hlt;generalize L[i]=p at hp hd;have hk:=k.at hp;have e1:=wN i;have e2:IntKind.wrap .i64 ((i:Int)+IntKind.wrap .i64 (256*p.1))=i+256*p.1:=by rw [B8,B8];omega
  refine Cj B89 (fun _=>Dn7 ..) fun h r=>?_;refine B6 (nmC n L) fun ⟨a,c⟩=>?_;refine Je ?_;refine Ja ?_;intros;refine Yt (by simp;omega) ?_;(refine Ja ?_;intros;repeat(refine Gw ?_;rintro px rfl;refine Ja ?_;intros));refine Je ?_;rw [Int.toNat_natCast];refine Tr.xBoolS (v:=p.2) (Bl3 Bz7 hp (j:=1) (by omega)) ?_;refine Jb ?_;intros;refine Tr.andG (c:=decide (p.1≤1000000)) (fun _=>?_) ?_
  ·refine Ja ?_;intros;refine Je ?_;refine Tr.xIntS (v:=p.1) (Bl3 Bz7 hp (j:=0) (by omega)) ?_;exact Jz
  rw [hd];by_cases hc:p.2=false∧p.1≤1000000
  ·refine Yt (by simp [hc.1,hc.2]) ?_;rw [Bu4,if_pos hc];refine Ja ?_;intros;refine Je ?_;refine Tr.xVS (cs':=(L.set i (p.1,true)).flatMap nmL) ⟨by rw [V4 Bz7];omega,rfl,Go9 (f:=nmL) (y:=(p.1,true)) Bz7 hp (j:=1) (by omega) rfl⟩ fun h=>?_;refine Ja ?_;intros;refine Je ?_;refine Tr.xIntS (v:=p.1) (Bl3 Bz7 (l:=L.set i (p.1,true)) (x:=(p.1,true)) (by simp [hlt]) (j:=0) (by omega)) ?_;rw [e2];have el:L.length=(L.set i (p.1,true)).length:=by simp
   rw [el];refine B1 (nmC n (L.set i (p.1,true))) (some px,c) ?_;refine Je ?_;exact Yz
  ·refine Yf (by
    rw [Bool.and_eq_false_iff];by_cases h1:p.2=false
    ·right;simp;have:¬ p.1≤1000000:=fun h=>hc ⟨h1,h⟩
     omega
    ·left;simpa using h1) ?_
   rw [Bu4,if_neg hc,e1];refine B1 (nmC n L) (some px,c) ?_;refine Je ?_;refine Yr (ih (i+1) (by omega) (by omega)) ?_;intro v h q
   cases hf:Bu4 (i+1) (L.drop (i+1)) with
   | none=>rw [hf] at q;exact q
   | some y=>rw [hf] at q;exact q
theorem Jm0 (n:Nat) (L:NmL) (k:Dr1 L):Ct B0 Ad0 [P0 n] [nmC n L] fun v own=>match Eo7 L with
   | some (x,L')=>v=.tuple ⟨[int x,.bool true]⟩∧own [nmC n L']
   | none=>v=.tuple ⟨[int 0,.bool false]⟩∧own [nmC n L]:=by
 refine Co B89 (fun _=>G18 ..) fun h r=>?_;refine Yr (Im6 n L k _ 0 rfl (by omega)) ?_;intro v h q;rw [List.drop_zero] at q;unfold Eo7
 cases hf:Bu4 0 L with
 | none=>rw [hf] at q;exact q
 | some y=>rw [hf] at q;exact q
def Bd4:Nat→NmL→List Int
 | _,[]=>[]
 | i,p::L=>if p.2=true then (i+256*p.1)::Bd4 (i+1) L else Bd4 (i+1) L
theorem Io7 (n:Nat) (L:NmL) (k:Dr1 L):∀ (m i:Nat) (acc:List Int) (a:Option Addr) (c:Nat),L.length-i=m→i≤L.length→acc.length≤i →
  CtJ H0 Y9 Ap1 [(0,P0 n),(3,.slice a acc.length c),(4,int i)] [slC false B9 1 a acc.length c (acc.map int),nmC n L] fun v own =>
   ∃ a' c',v=.slice a' (acc++Bd4 i (L.drop i)).length c'∧own [slC false B9 1 a' (acc++Bd4 i (L.drop i)).length c' ((acc++Bd4 i (L.drop i)).map int),nmC n L]:=by
 have h256:=k.1;intro m
 induction m with
 | zero =>
  intro i acc a c hm hi ha;refine Cj Db3 (fun _=>Do0 ..) fun h r=>?_;refine B6 (nmC n L) fun ⟨na,nc⟩=>?_;refine Je ?_;refine Ja ?_;intros;refine Yf (by simp;omega) ?_;refine B1 (nmC n L) (na,nc) ?_;refine Je ?_;refine Ys fun o=>?_;rw [List.drop_eq_nil_of_le (by omega)];simp only [Bd4,List.append_nil];exact ⟨a,c,rfl,o.sub⟩
 | succ m ih =>
  intro i acc a c hm hi ha;have hlt:i<L.length:=by omega
  have hp:L[i]?=some L[i]:=List.getElem?_eq_getElem hlt;have hd:L.drop i=L[i]::L.drop (i+1):=List.drop_eq_getElem_cons hlt;generalize L[i]=p at hp hd;have hk:=k.at hp;have e1:=wN i;have e2:IntKind.wrap .i64 ((i:Int)+IntKind.wrap .i64 (256*p.1))=i+256*p.1:=by rw [B8,B8];omega
  refine Cj Db3 (fun _=>Do0 ..) fun h r=>?_;refine B6 (nmC n L) fun ⟨na,nc⟩=>?_;refine Je ?_;refine Ja ?_;intros;refine Yt (by simp;omega) ?_;(refine Ja ?_;intros;repeat(refine Gw ?_;rintro px rfl;refine Ja ?_;intros));refine Je ?_;rw [Int.toNat_natCast];refine Tr.xBoolS (v:=p.2) (Bl3 Bz7 hp (j:=1) (by omega)) ?_;rw [hd]
  cases hb:p.2 with
  | true =>
   rw [Bd4,if_pos hb];refine Ja ?_;intros;refine Je ?_;refine Tr.xIntS (v:=p.1) (Bl3 Bz7 hp (j:=0) (by omega)) ?_;rw [e2];refine Ja ?_;intros;refine B1 (nmC n L) (some px,nc) ?_;refine Je ?_;refine Ja ?_;intros;refine Tr.xApd ?_ (fun a' c' h=>?_);exact ⟨by first|rfl|simp,by first|rfl|simp,by simp only [B3];omega⟩;refine Je ?_;rw [e1];have ih1:=ih (i+1) (acc++[(i:Int)+256*p.1]) a' c' (by omega) (by omega) (by simp;omega);simp only [List.append_assoc,List.singleton_append,List.length_append,List.length_cons,List.length_nil,Nat.zero_add,List.map_append,List.map_cons,List.map_nil] at ih1 ⊢;refine Yr ih1 ?_;rintro _ h ⟨a2,c2,rfl,o⟩;exact ⟨a2,c2,rfl,o.sub⟩
  | false =>
   rw [Bd4,if_neg (by simp [hb]),e1];refine Ja ?_;intros;refine B1 (nmC n L) (some px,nc) ?_;refine Je ?_;refine Yr (ih (i+1) acc a c (by omega) (by omega) (by omega)) ?_;rintro _ h ⟨a2,c2,rfl,o⟩;exact ⟨a2,c2,rfl,o.sub⟩
theorem Jm2 (n:Nat) (L:NmL) (k:Dr1 L):Ct B0 Y9 [P0 n] [nmC n L] fun v own =>
   ∃ a' c',v=.slice a' (Bd4 0 L).length c'∧own [slC false B9 1 a' (Bd4 0 L).length c' ((Bd4 0 L).map int),nmC n L]:=by
 refine Co Db3 (fun _=>G46 ..) fun h r=>?_;refine G0 false B9 1 (by omega) ?_;have J:=Io7 n L k _ 0 [] none 0 rfl (by omega) (by simp);simp only [List.drop_zero,List.nil_append,List.length_nil,List.map_nil] at J;refine Yr J ?_;rintro _ h ⟨a2,c2,rfl,o⟩;exact ⟨a2,c2,rfl,o.sub⟩
structure SpA where
 na:Option Addr
 nc:Nat
 ns:List Nat
 ca:Option Addr
 cc:Nat
 cs:List (Option Addr × Nat)
abbrev Dt6 (y:Option Addr × Nat) (l:List CapS):HP:=slC false W3 6 y.1 l.length y.2 (l.flatMap Bb0)
def B31 {α:Type} (ys:List (Option Addr × Nat)) (ls:List (List α)):List Value:=List.zipWith (fun y l=>Value.slice y.1 l.length y.2) ys ls
theorem G31 {α:Type} {ys:List (Option Addr × Nat)} {ls:List (List α)} {i:Nat} {y:Option Addr × Nat} {l:List α} (hy:ys[i]?=some y) (hl:ls[i]?=some l):(B31 ys ls)[i]?=some (.slice y.1 l.length y.2):=by
 rw [B31,List.getElem?_zipWith,hy,hl]
theorem G80 {α:Type} {ys:List (Option Addr × Nat)} {ls:List (List α)} (y:Option Addr × Nat) (l:List α) (h:ys.length=ls.length):B31 (ys++[y]) (ls++[l])=B31 ys ls++[.slice y.1 l.length y.2]:=by
 unfold B31;rw [List.zipWith_append h];rfl
theorem Jj0 {α:Type} {ys:List (Option Addr × Nat)} {ls:List (List α)} {i:Nat} {l l':List α} (hl:ls[i]?=some l) (he:l'.length=l.length):B31 ys (ls.set i l')=B31 ys ls:=by
 refine List.ext_getElem? fun j=>?_;unfold B31;rw [List.getElem?_zipWith,List.getElem?_zipWith];by_cases hij:i=j
 ·subst hij;rw [List.getElem?_set_self (List.getElem?_eq_some_iff.1 hl).1,hl]
  cases ys[i]?<;>simp [he]
 ·rw [List.getElem?_set_ne hij]
theorem Hi8 {α β:Type} {ts:List α} {i:Nat} {xs:List β} {x:β} (hl:ts.length=xs.length) (hx:xs[i]?=some x):∃ t,ts[i]?=some t:=by
 have:=(List.getElem?_eq_some_iff.1 hx).1;exact ⟨ts[i],List.getElem?_eq_getElem (by omega)⟩
abbrev J29 (s:Nat) (N:List NmL) (C:List (List CapS)) (x:SpA):List HP :=
 [pt s (.cells Gn6 false [.slice x.na N.length x.nc,.slice x.ca C.length x.cc]),slC false Bg6 1 x.na N.length x.nc (x.ns.map P0),O0 nmC x.ns N,
   slC false B42 1 x.ca C.length x.cc (B31 x.cs C),O0 Dt6 x.cs C,pu (x.ns.length=N.length∧x.cs.length=C.length)]
def As7 (s:Nat) (N:List NmL) (C:List (List CapS)):HP:=hex fun x=>sl (J29 s N C x)
instance {s:Nat} {N:List NmL} {C:List (List CapS)}:Chk (As7 s N C) (J29 s N C):=⟨rfl⟩
structure SpOk (N:List NmL) (C:List (List CapS)):Prop where
 len:N.length≤40
 eq:C.length=N.length
 nm:∀ L ∈ N,Dr1 L
 same:∀ (i:Nat) (L:NmL) (l:List CapS),N[i]?=some L→C[i]?=some l→l.length=L.length
theorem E36 (c:CapS):(Bb0 c).length=6:=rfl
theorem SpOk.at {N:List NmL} {C:List (List CapS)} (k:SpOk N C) {i:Nat} {L:NmL} (h:N[i]?=some L):Dr1 L:=k.nm L (List.mem_of_getElem? h)
theorem Hm4 (s envs:Nat) (he:envs≤40):∀ (m i:Nat) (N:List NmL) (C:List (List CapS)),envs-i=m→i≤envs→N=List.replicate i (List.replicate 32 (1,false))→C=List.replicate i (List.replicate 32 .zero) →
  CtJ H0 Ag1 A96 [(0,int envs),(3,P0 s),(4,int i)] [As7 s N C] fun v own=>v=P0 s∧own [As7 s (List.replicate envs (List.replicate 32 (1,false))) (List.replicate envs (List.replicate 32 .zero))]:=by
 intro m
 induction m with
 | zero =>
  intro i N C hm hi hN hC;obtain rfl:i=envs:=by omega
  subst hN hC;refine Cj Dj4 (fun _=>Dx4 ..) fun h r=>?_;refine Ja ?_;intros;refine Yf (by simp) ?_;refine Ys fun o=>?_;exact ⟨by first|rfl|trivial,o.sub⟩
 | succ m ih =>
  intro i N C hm hi hN hC;have hl:N.length=i:=by rw [hN];simp
  have hl2:C.length=i:=by rw [hC];simp
  have e1:=wN i;have ea:N.length+1=(N++[List.replicate 32 ((1:Int),false)]).length:=by simp
  have eb:C.length+1=(C++[List.replicate 32 CapS.zero]).length:=by simp
  refine Cj Dj4 (fun _=>Dx4 ..) fun h r=>?_;refine Ja ?_;intros;refine Yt (by simp;omega) ?_;refine B6 (As7 s N C) fun ⟨na,nc,ns,ca,cc,cs⟩=>?_;refine Je ?_;refine P9 5 rfl fun hp=>?_;refine Ja ?_;intros;refine Yc (Ik4 32 (by omega)) ?_;rintro _ h ⟨n,rfl,o⟩<;>(refine Jf o ?_;intros);refine Tr.xApd (new:=[P0 n]) ⟨rfl,rfl,by simp only [B3];omega⟩ fun a' c' h'=>?_;refine Je ?_;refine Ja ?_;intros;refine Tr.ck ⟨by omega,by omega,by simp [B3]⟩ ?_;refine Yn fun bc h=>?_;rw [show G9 32 [.int .i64 0,.int .i64 0,.int .i64 0,.int .i64 0,.int .i64 0,.int .i64 0]=(List.replicate 32 CapS.zero).flatMap Bb0 by rfl];refine Ag4 0 rfl 6 32 rfl (by omega) ?_;refine Je ?_;refine Ja ?_;intros;refine Tr.xApd (new:=[.slice (some ⟨bc,0,none⟩) 32 32]) ⟨rfl,rfl,by simp only [B3];omega⟩ fun a2 c2 h2=>?_;refine Je ?_;refine Ja ?_;intros;rw [e1];rw [ea,eb,show ns.map P0++[P0 n]=(ns++[n]).map P0 by simp,show B31 cs C++[.slice (some ⟨bc,0,none⟩) 32 32]=B31 (cs++[(some ⟨bc,0,none⟩,32)]) (C++[List.replicate 32 CapS.zero]) from (G80 (some ⟨bc,0,none⟩,32) (List.replicate 32 CapS.zero) hp.2).symm];refine Bk8 nmC ns N n (List.replicate 32 ((1:Int),false)) hp.1 ?_;refine Hd1 (slC false W3 6 (some ⟨bc,0,none⟩) 32 32 ((List.replicate 32 CapS.zero).flatMap Bb0)) (Dt6 (some ⟨bc,0,none⟩,32) (List.replicate 32 CapS.zero)) rfl ?_;refine Bk8 Dt6 cs C (some ⟨bc,0,none⟩,32) (List.replicate 32 CapS.zero) hp.2 ?_;refine Ax8 (show (ns++[n]).length=(N++[List.replicate 32 ((1:Int),false)]).length∧(cs++[((some ⟨bc,0,none⟩:Option Addr),32)]).length=(C++[List.replicate 32 CapS.zero]).length by simp [hp.1,hp.2]) ?_;refine Je ?_;refine B1 (As7 s (N++[List.replicate 32 ((1:Int),false)]) (C++[List.replicate 32 CapS.zero])) ⟨a',c',ns++[n],a2,c2,cs++[(some ⟨bc,0,none⟩,32)]⟩ ?_;refine Je ?_;refine Yr (ih (i+1) (N++[List.replicate 32 ((1:Int),false)]) (C++[List.replicate 32 CapS.zero]) (by omega) (by omega) (by rw [hN];exact List.replicate_succ'.symm) (by rw [hC];exact List.replicate_succ'.symm)) ?_;rintro _ h ⟨rfl,o⟩;exact ⟨rfl,o.sub⟩
theorem In8 (envs:Nat) (he:envs≤40):Ct B0 Ag1 [int envs] [] fun v own=>∃ s,v=P0 s∧own [As7 s (List.replicate envs (List.replicate 32 (1,false))) (List.replicate envs (List.replicate 32 .zero))]:=by
 refine Co Dj4 (fun _=>He9 ..) fun h r=>?_;refine Yn fun s h=>?_;refine G0 false Bg6 1 (by omega) ?_;refine G0 false B42 1 (by omega) ?_;refine Ea4 nmC ?_;refine Ea4 Dt6 ?_;refine Ax8 (show ([]:List Nat).length=([]:List NmL).length∧([]:List (Option Addr × Nat)).length=([]:List (List CapS)).length from ⟨rfl,rfl⟩) ?_;refine I3 (As7 s [] []) ⟨none,0,[],none,0,[]⟩ [5,4,2,2,1,0] rfl ?_;refine Je ?_;refine Yr (Hm4 s envs he _ 0 [] [] rfl (by omega) rfl rfl) ?_;rintro _ h ⟨rfl,o⟩;exact ⟨s,rfl,o.sub⟩
theorem G44 (s:Nat) (N:List NmL) (C:List (List CapS)) (e:Int):CtP B0 Aq3 [P0 s,int e] [As7 s N C] (.bool (decide (0≤e∧e<N.length))):=by
 refine CtP.of G19 rfl fun h r=>Tr.eq (G66 ..) ?_;refine Je ?_;refine B6 (As7 s N C) fun ⟨na,nc,ns,ca,cc,cs⟩=>?_;refine Je ?_;refine Ja ?_;intros;refine Ys fun o=>?_;refine ⟨?_,rfl⟩;refine congrArg Value.bool ?_;rw [Bool.eq_iff_iff];simp only [Bool.and_eq_true,Bool.or_eq_true,Bool.not_eq_true',Bool.not_eq_false',decide_eq_true_eq,decide_eq_false_iff_not,bne_iff_ne,beq_iff_eq,ne_eq,B8,Ab7,Ag3,ge_iff_le,gt_iff_lt];first|done|omega
def B57 (N:List NmL) (C:List (List CapS)) (e:Nat) (c:CapS):(Int × Int) × (List NmL × List (List CapS)) :=
 match Eo7 (N.getD e []) with
 | some (x,L)=>((x,0),(N.set e L,C.set e ((C.getD e []).set (x%256).toNat c)))
 | none=>((0,4),(N,C))
theorem Jg8 {N:List NmL} {C:List (List CapS)} (k:SpOk N C) (e:Nat) (he:e<N.length) (c:CapS):SpOk (B57 N C e c).2.1 (B57 N C e c).2.2∧(B57 N C e c).2.1.length=N.length:=by
 unfold B57;have hN:=U5 [] he
 cases ha:Eo7 (N.getD e []) with
 | none=>exact ⟨k,rfl⟩
 | some y =>
  obtain ⟨x,L⟩:=y;obtain ⟨h1,h2,h3,h4⟩:=Id3 (k.at hN) ha;refine ⟨⟨by simpa using k.len,by simpa using k.eq,fun L' hL=>?_,fun i L' l' hi hl=>?_⟩,by simp⟩
  ·rcases List.mem_or_eq_of_mem_set hL with h|rfl
   ·exact k.nm _ h
   ·exact h1
  ·by_cases hei:e=i
   ·subst hei;have hC:=U5 [] (show e<C.length by rw [k.eq];exact he);simp only [List.getElem?_set_self he,List.getElem?_set_self (show e<C.length by rw [k.eq];exact he),Option.some.injEq] at hi hl;subst hi hl;rw [List.length_set,h2];exact k.same e _ _ hN hC
   ·simp only [List.getElem?_set_ne hei] at hi hl;exact k.same i _ _ hi hl
theorem Jb5 (s:Nat) (N:List NmL) (C:List (List CapS)) (k:SpOk N C) (e:Nat) (he:e<N.length) (c:CapS):Ct B0 Bk1 [P0 s,int e,.agg ⟨Bb0 c⟩] [As7 s N C] fun v own =>
  v=v2 (B57 N C e c).1∧own [As7 s (B57 N C e c).2.1 (B57 N C e c).2.2]:=by
 have hN:=U5 [] he;have he2:e<C.length:=by rw [k.eq];exact he
 have hC:=U5 [] he2;have hsame:=k.same e _ _ hN hC;refine Co G65 (fun _=>G63 ..) fun h r=>?_;refine B6 (As7 s N C) fun ⟨na,nc,ns,ca,cc,cs⟩=>?_;refine Je ?_;refine P9 5 rfl fun hp=>?_;obtain ⟨n,hn⟩:=Dv6 hp.1 hN;obtain ⟨y,hy⟩:=Hi8 hp.2 hC;(refine Ja ?_;intros;repeat(refine Gw ?_;rintro px rfl;refine Ja ?_;intros));rw [Int.toNat_natCast];refine Je ?_;refine Tr.xPtrS (v:=some ⟨n,0,none⟩) (by simp [hn]) ?_;refine Aj4 nmC ns N hn hN ?_;refine Yc (Jm0 n (N.getD e []) (k.at hN)) ?_;intro v h q
 have hs:B57 N C e c=match Eo7 (N.getD e []) with
   | some (x,L)=>((x,0),(N.set e L,C.set e ((C.getD e []).set (x%256).toNat c)))
   | none=>((0,4),(N,C)):=rfl
 cases ha:Eo7 (N.getD e []) with
 | none =>
  rw [ha] at q hs;obtain ⟨rfl,o⟩:=q;refine (?_:Tr _ _ _ _) o;refine Je ?_;refine Ja ?_;intros;refine Av1 nmC ns N e hn hN ?_;refine B1 (As7 s N C) ⟨some px,nc,ns,ca,cc,cs⟩ ?_;refine Je ?_;refine Ys fun o=>?_;rw [hs];exact ⟨rfl,o.sub⟩
 | some z =>
  obtain ⟨x,L⟩:=z;rw [ha] at q hs;obtain ⟨rfl,o⟩:=q;obtain ⟨h1,h2,h3,h4⟩:=Id3 (k.at hN) ha;refine (?_:Tr _ _ _ _) o;refine Je ?_;(refine Ja ?_;intros;repeat(refine Gw ?_;rintro px rfl;refine Ja ?_;intros));refine Je ?_;refine Tr.xSlS (x:=y.1) (y:=(C.getD e []).length) (z:=y.2) (G31 hy hC) ?_;refine Dq9 nmC ns N e L hn hN ?_;refine Aj4 Dt6 cs C hy hC ?_;rw [Ef4];obtain ⟨ya,yc⟩:=y;(refine Ja ?_;intros;repeat(refine Gw ?_;rintro px rfl;refine Ja ?_;intros));have hlt:(x%256).toNat<(C.getD e []).length:=by omega
  refine Tr.xPAggS (cs':=((C.getD e []).set (x%256).toNat c).flatMap Bb0) ⟨by simp,?_,rfl,Iq8 (f:=Bb0) (y:=c) E36 hlt⟩ fun h=>?_
  ·rw [V4 E36];show (x%256).toNat*6+6≤_;omega
  refine Hd1 (slC false W3 6 (some px) (C.getD e []).length yc (((C.getD e []).set (x%256).toNat c).flatMap Bb0)) (Dt6 (some px,yc) ((C.getD e []).set (x%256).toNat c)) (by simp only [Dt6,List.length_set]) ?_;refine Dq9 Dt6 cs C e ((C.getD e []).set (x%256).toNat c) hy hC ?_;have e1:N.length=(N.set e L).length:=by simp
  have e2:C.length=(C.set e ((C.getD e []).set (x%256).toNat c)).length:=by simp
  have e3:B31 cs C=B31 cs (C.set e ((C.getD e []).set (x%256).toNat c)):=(Jj0 hC (by simp)).symm;refine Ax8 (show ns.length=(N.set e L).length∧cs.length=(C.set e ((C.getD e []).set (x%256).toNat c)).length by rw [← e1,← e2];exact hp) ?_;rw [e3,e1,e2];refine I3 (As7 s (N.set e L) (C.set e ((C.getD e []).set (x%256).toNat c))) ⟨some _,nc,ns,some _,cc,cs⟩ [4,4,2,3,1,0] rfl ?_;refine Je ?_;refine Ys fun o=>?_;rw [hs];exact ⟨rfl,o.sub⟩
def H03 (c:CapS):Bool:=!(decide (c.rights<0) || decide (c.rights>7) || decide (c.lo<0) || decide (c.lo>65536) || decide (c.n<0) || decide (c.n>65536))
def Ba1 (N:List NmL) (C:List (List CapS)) (e:Nat) (c:CapS):(Int × Int) × (List NmL × List (List CapS)) :=
 if H03 c=true then B57 N C e { c with rEnv:=0,rName:=0 } else ((0,1),(N,C))
theorem I75 (s:Nat) (N:List NmL) (C:List (List CapS)) (k:SpOk N C) (e:Nat) (he:e<N.length) (c:CapS):Ct B0 Bk6 [P0 s,int e,.agg ⟨Bb0 c⟩] [As7 s N C] fun v own =>
  v=v2 (Ba1 N C e c).1∧own [As7 s (Ba1 N C e c).2.1 (Ba1 N C e c).2.2]:=by
 refine Co G67 (fun _=>G28 ..) fun h r=>?_;refine Yn fun b h=>?_;refine Tr.pcall (G44 s N C e) ?_;refine Je ?_;refine Jb ?_;intros;rw [show decide (0≤(e:Int)∧(e:Int)<N.length)=true by simp;omega];refine Ja ?_;intros
 cases hk:H03 c with
 | false =>
  have e1:Ba1 N C e c=((0,1),(N,C)):=by unfold Ba1;rw [if_neg (by simp [hk])]
  refine Yt ?_ ?_
  ·unfold H03 at hk;rw [Bool.not_eq_false'] at hk;simp only [Bool.not_true,Bool.false_or];exact hk
  refine Ys fun o=>?_;rw [e1];exact ⟨rfl,o.sub⟩
 | true =>
  have e1:Ba1 N C e c=B57 N C e { c with rEnv:=0,rName:=0 }:=by unfold Ba1;rw [if_pos hk]
  refine Yf ?_ ?_
  ·unfold H03 at hk;rw [Bool.not_eq_true'] at hk;simp only [Bool.not_true,Bool.false_or];exact hk
  rw [e1];refine Ja ?_;intros;refine Ye (Jb5 s N C k e he { c with rEnv:=0,rName:=0 }) fun h=>?_;intros;exact Yz
theorem Hv2 {N:List NmL} {C:List (List CapS)} (k:SpOk N C) (e:Nat) (he:e<N.length) (c:CapS):SpOk (Ba1 N C e c).2.1 (Ba1 N C e c).2.2∧(Ba1 N C e c).2.1.length=N.length:=by
 unfold Ba1;split
 ·exact Jg8 k e he _
 ·exact ⟨k,rfl⟩
def Di8 (L:NmL) (name:Int):Bool:=decide (0≤name) && (match L[(name%256).toNat]? with
 | some p=>p.2 && p.1==name / 256
 | none=>false)
theorem Js1 (n:Nat) (L:NmL) (name:Int):CtP B0 Bk7 [P0 n,int name] [nmC n L] (.bool (Di8 L name)):=by
 refine CtP.of G17 rfl fun h r=>Tr.eq (G29 ..) ?_;refine Je ?_;rw [Ef4];refine B6 (nmC n L) fun ⟨a,c⟩=>?_;refine Je ?_;refine Tr.andG (c:=decide (name%256<L.length)) (fun hb=>?_) ?_
 ·exact Jz
 by_cases h0:0≤name
 ·have e0:decide (name≥0)=true:=by simpa using h0
  rw [e0,Bool.true_and];by_cases h1:name%256<L.length
  ·rw [decide_eq_true h1];have hlt:(name%256).toNat<L.length:=by omega
   have hp:L[(name%256).toNat]?=some L[(name%256).toNat]:=List.getElem?_eq_getElem hlt;generalize L[(name%256).toNat]=p at hp;have e1:Di8 L name=(p.2 && p.1==name / 256):=by unfold Di8;rw [hp,decide_eq_true h0,Bool.true_and]
   refine Tr.andG (c:=p.2) (fun hb=>?_) ?_
   ·(refine Ja ?_;intros;repeat(refine Gw ?_;rintro px rfl;refine Ja ?_;intros));refine Je ?_;refine Tr.xBoolS (v:=p.2) (Bl3 Bz7 hp (j:=1) (by omega)) ?_;exact Jz
   refine Tr.andG (c:=p.1==name / 256) (fun hb=>?_) ?_
   ·(refine Ja ?_;intros;repeat(refine Gw ?_;rintro px rfl;refine Ja ?_;intros));refine Je ?_;refine Tr.xIntS (v:=p.1) (Bl3 Bz7 hp (j:=0) (by omega)) ?_;refine Ys fun o=>?_;rw [show Int.fdiv name (2 ^ 8)=name / 256 by rw [Int.fdiv_eq_ediv_of_nonneg _ (by omega)];rfl];exact ⟨rfl,rfl⟩
   refine Ys fun o=>?_;rw [e1,Bool.true_and];exact ⟨rfl,rfl⟩
  ·rw [decide_eq_false h1];refine Yb (Yf rfl ?_);refine Yv ?_;refine Yb (Yf rfl ?_);refine Yv ?_;refine Ys fun o=>?_;have:Di8 L name=false:=by unfold Di8;rw [List.getElem?_eq_none (by omega)];simp
   rw [this];exact ⟨rfl,rfl⟩
 ·have e0:decide (name≥0)=false:=by simp;omega
  rw [e0];refine Yb (Yf rfl ?_);refine Yv ?_;refine Yb (Yf rfl ?_);refine Yv ?_;refine Ys fun o=>?_;have:Di8 L name=false:=by unfold Di8;rw [decide_eq_false h0];rfl
  rw [this];exact ⟨rfl,rfl⟩
def Dg3 (N:List NmL) (C:List (List CapS)) (e name:Int):Option CapS:=match idx N e with
 | some L=>if Di8 L name=true then (C.getD e.toNat [])[(name%256).toNat]? else none
 | none=>none
def Ju3 (c:Option CapS):Value:=.tuple ⟨[.agg ⟨Bb0 (c.getD .zero)⟩,int (if c.isSome then 0 else 2)]⟩
theorem Jo0 {L:NmL} {name:Int} (h:Di8 L name=true):0≤name∧(name%256).toNat<L.length:=by
 unfold Di8 at h;rw [Bool.and_eq_true] at h;obtain ⟨h1,h2⟩:=h;refine ⟨by simpa using h1,?_⟩
 cases hl:L[(name%256).toNat]? with
 | none=>rw [hl] at h2;cases h2
 | some p=>exact (List.getElem?_eq_some_iff.1 hl).1
theorem I86 (s:Nat) (N:List NmL) (C:List (List CapS)) (k:SpOk N C) (e name:Int):Ct B0 Bl6 [P0 s,int e,int name] [As7 s N C] fun v own=>v=Ju3 (Dg3 N C e name)∧own [As7 s N C]:=by
 refine Co G55 (fun _=>G61 ..) fun h r=>?_;refine Yn fun b0 h=>?_;refine Tr.pcall (G44 s N C e) ?_;refine Je ?_;refine Jb ?_;intros
 cases hi:idx N e with
 | none =>
  have hn:=Db1 hi;have e1:Dg3 N C e name=none:=by unfold Dg3;rw [hi]
  rw [decide_eq_false hn];refine Yb (Yt rfl ?_);refine Yv ?_;refine Ja ?_;intros;refine Ys fun o=>?_;rw [e1];exact ⟨rfl,o.sub⟩
 | some L =>
  obtain ⟨h1,h2,h3⟩:=Ba6 hi;rw [decide_eq_true ⟨h1,h2⟩];have he2:e.toNat<C.length:=by rw [k.eq];omega
  have hC:=U5 [] he2;have hsame:=k.same e.toNat _ _ h3 hC;refine B6 (As7 s N C) fun ⟨na,nc,ns,ca,cc,cs⟩=>?_;refine Je ?_;refine P9 5 rfl fun hp=>?_;obtain ⟨n,hn⟩:=Hi8 hp.1 h3;obtain ⟨⟨ya,yc⟩,hy⟩:=Hi8 hp.2 hC;refine Yb (Yf rfl ?_);(refine Ja ?_;intros;repeat(refine Gw ?_;rintro px rfl;refine Ja ?_;intros));refine Tr.xPtrS (v:=some ⟨n,0,none⟩) (by simp [hn]) ?_;refine Aj4 nmC ns N hn h3 ?_;refine Tr.pcall (Js1 n L name) ?_;refine Je ?_;refine Ja ?_;intros;refine Av1 nmC ns N e.toNat hn h3 ?_;refine Yv ?_
  cases hh:Di8 L name with
  | false =>
   have e1:Dg3 N C e name=none:=by unfold Dg3;rw [hi];exact if_neg (by simp [hh])
   refine Ja ?_;intros;refine I3 (As7 s N C) ⟨some px,nc,ns,ca,cc,cs⟩ [1,1,0,0,0,0] rfl ?_;refine Je ?_;refine Ys fun o=>?_;rw [e1];exact ⟨rfl,o.sub⟩
  | true =>
   obtain ⟨hl1,hl2⟩:=Jo0 hh;have hlt:(name%256).toNat<(C.getD e.toNat []).length:=by omega
   have hc:(C.getD e.toNat [])[(name%256).toNat]?=some (C.getD e.toNat [])[(name%256).toNat]:=List.getElem?_eq_getElem hlt;have e1:Dg3 N C e name=some (C.getD e.toNat [])[(name%256).toNat]:=by unfold Dg3;rw [hi];exact (if_pos hh).trans hc
   generalize (C.getD e.toNat [])[(name%256).toNat]=c at hc e1;(refine Ja ?_;intros;repeat(refine Gw ?_;rintro px rfl;refine Ja ?_;intros));refine Tr.xSlS (x:=ya) (y:=(C.getD e.toNat []).length) (z:=yc) (G31 hy hC) ?_;refine Aj4 Dt6 cs C hy hC ?_;rw [Ef4];(refine Ja ?_;intros;repeat(refine Gw ?_;rintro px rfl;refine Ja ?_;intros));refine Tr.xAggS (xs:=Bb0 c) ⟨by omega,?_,Av3 E36 hc⟩ ?_
   ·rw [V4 E36];omega
   refine Ja ?_;intros;refine Av1 Dt6 cs C e.toNat hy hC ?_;refine I3 (As7 s N C) ⟨some _,nc,ns,some _,cc,cs⟩ [2,2,1,1,0,0] rfl ?_;refine Je ?_;refine Ys fun o=>?_;rw [e1];exact ⟨rfl,o.sub⟩
theorem Jb6 (s:Nat) (N:List NmL) (C:List (List CapS)) (k:SpOk N C) (e:Nat) (he:e<N.length):Ct B0 Bj0 [P0 s,int e] [As7 s N C] fun v own =>
  ∃ a c,v=.slice a (Bd4 0 (N.getD e [])).length c∧own [slC false B9 1 a (Bd4 0 (N.getD e [])).length c ((Bd4 0 (N.getD e [])).map int),As7 s N C]:=by
 have hN:=U5 [] he;refine Co G58 (fun _=>G33 ..) fun h r=>?_;refine Tr.pcall (G44 s N C e) ?_;refine Je ?_;refine Jb ?_;intros;refine Yf (by simp;omega) ?_;refine B6 (As7 s N C) fun ⟨na,nc,ns,ca,cc,cs⟩=>?_;refine Je ?_;refine P9 5 rfl fun hp=>?_;obtain ⟨n,hn⟩:=Hi8 hp.1 hN;(refine Ja ?_;intros;repeat(refine Gw ?_;rintro px rfl;refine Ja ?_;intros));rw [Int.toNat_natCast];refine Je ?_;refine Tr.xPtrS (v:=some ⟨n,0,none⟩) (by simp [hn]) ?_;refine Aj4 nmC ns N hn hN ?_;refine Yc (Jm2 n (N.getD e []) (k.at hN)) ?_;rintro _ h ⟨a,c,rfl,o⟩<;>(refine Jf o ?_;intros);refine Av1 nmC ns N e hn hN ?_;refine I3 (As7 s N C) ⟨some px,nc,ns,ca,cc,cs⟩ [2,2,0,1,1,1] rfl ?_;refine Je ?_;refine Ys fun o=>?_;exact ⟨a,c,rfl,o.sub⟩
def Bf2 (a n size:Int):Bool:=decide (a≥0) && decide (n≥0) && decide (a≤size) && decide (n≤IntKind.wrap .i64 (size-a))
theorem Jc8 (a n size:Int):CtP B0 An4 [int a,int n,int size] [] (.bool (Bf2 a n size)):=by
 refine CtP.of Hx5 rfl fun h r=>Tr.eq (Hx3 ..) ?_;refine Je ?_;exact Jz
instance {a n size:Int} {l:List HP}:PCi B0 An4 [.int .i64 a,.int .i64 n,.int .i64 size] l (.bool (Bf2 a n size)):=PCi.of (Jc8 a n size)
structure RgS where
 M:List UInt8
 lo:List Int
 n:List Int
 N:List NmL
 C:List (List CapS)
structure RgA where
 q:Nat
 la:Option Addr
 lc:Nat
 za:Option Addr
 zc:Nat
 s:Nat
abbrev rgF (g:Nat) (R:RgS) (x:RgA):List HP :=
 [pt g (.cells Ex5 false [.slice (some ⟨x.q,0,none⟩) R.M.length R.M.length,.slice x.la R.lo.length x.lc,.slice x.za R.n.length x.zc,P0 x.s]),pt x.q (.cells A9 false (A0 R.M)),
   slC false B9 1 x.la R.lo.length x.lc (R.lo.map int),slC false B9 1 x.za R.n.length x.zc (R.n.map int),As7 x.s R.N R.C]
def rgC (g:Nat) (R:RgS):HP:=hex fun x=>sl (rgF g R x)
instance {g:Nat} {R:RgS}:Chk (rgC g R) (rgF g R):=⟨rfl⟩
structure RgOkS (R:RgS):Prop where
 sp:SpOk R.N R.C
 eq:R.n.length=R.lo.length
 few:R.lo.length≤32
 mem:R.M.length≤65536
 each:∀ (i:Nat) (lo n:Int),R.lo[i]?=some lo→R.n[i]?=some n→0≤lo∧0≤n∧lo+n≤R.M.length
def Bv5 (R:RgS) (lo n:Int):(Int × Int) × RgS :=
 if Bf2 lo n R.M.length=true then if R.lo.length≥32 then ((0,4),R) else (((R.lo.length:Int),0),{ R with lo:=R.lo++[lo],n:=R.n++[n] }) else ((0,1),R)
theorem Jw7 (g:Nat) (R:RgS) (k:RgOkS R) (lo n:Int):Ct B0 A89 [P0 g,int lo,int n] [rgC g R] fun v own=>v=v2 (Bv5 R lo n).1∧own [rgC g (Bv5 R lo n).2]:=by
 refine Co Gm7 (fun _=>Go0 ..) fun h r=>?_;refine B6 (rgC g R) fun ⟨q,la,lc,za,zc,s⟩=>?_;refine Je ?_;refine Ja ?_;intros
 cases hw:Bf2 lo n R.M.length with
 | false =>
  have e:Bv5 R lo n=((0,1),R):=by unfold Bv5;rw [if_neg (by simp [hw])]
  refine Ja ?_;intros;refine B1 (rgC g R) ⟨q,la,lc,za,zc,s⟩ ?_;refine Je ?_;refine Ys fun o=>?_;rw [e];exact ⟨rfl,o.sub⟩
 | true =>
  refine Ja ?_;intros;by_cases h32:R.lo.length≥32
  ·have e:Bv5 R lo n=((0,4),R):=by unfold Bv5;rw [if_pos hw,if_pos h32]
   refine Yt (by simp;omega) ?_;refine B1 (rgC g R) ⟨q,la,lc,za,zc,s⟩ ?_;refine Je ?_;refine Ys fun o=>?_;rw [e];exact ⟨rfl,o.sub⟩
  ·have e:Bv5 R lo n=(((R.lo.length:Int),0),{ R with lo:=R.lo++[lo],n:=R.n++[n] }):=by unfold Bv5;rw [if_pos hw,if_neg h32]
   have hf:=k.few;have hq:=k.eq;refine Yf (by simp;omega) ?_;refine Ja ?_;intros;refine Tr.xApd ?_ (fun a1 c1 h=>?_);exact ⟨by first|rfl|simp,by first|rfl|simp,by simp only [B3];omega⟩;refine Je ?_;refine Ja ?_;intros;refine Tr.xApd ?_ (fun a2 c2 h=>?_);exact ⟨by first|rfl|simp,by first|rfl|simp,by simp only [B3];omega⟩;refine Je ?_;refine Ja ?_;intros;have e1:IntKind.wrap .i64 (((R.lo.length+1:Nat):Int)-1)=R.lo.length:=by rw [B8];omega
   have ea:R.lo.length+1=(R.lo++[lo]).length:=by simp
   have eb:R.n.length+1=(R.n++[n]).length:=by simp
   refine Je ?_;rw [e1,ea,eb,show R.lo.map int++[Value.int IntKind.i64 lo]=(R.lo++[lo]).map int by simp,show R.n.map int++[Value.int IntKind.i64 n]=(R.n++[n]).map int by simp];refine B1 (rgC g { R with lo:=R.lo++[lo],n:=R.n++[n] }) ⟨q,a1,c1,a2,c2,s⟩ ?_;refine Je ?_;refine Ys fun o=>?_;rw [e];exact ⟨rfl,o.sub⟩
def V8 (R:RgS) (e name right a n:Int):Int × Int :=
 match Dg3 R.N R.C e name with
 | none=>(0,2)
 | some c =>
  if (D5 .i64 c.rights right==0)=true then (0,3)
  else if (!Bf2 a n c.n || decide (c.obj<0) || decide (c.obj≥R.lo.length))=true then (0,1)
  else if (!Bf2 c.lo a (R.n.getD c.obj.toNat 0) || !Bf2 (IntKind.wrap .i64 (c.lo+a)) n (R.n.getD c.obj.toNat 0))=true then (0,1)
  else (IntKind.wrap .i64 (IntKind.wrap .i64 (R.lo.getD c.obj.toNat 0+c.lo)+a),0)
theorem Hn9 {l:List Int} {i:Nat} (h:i<l.length):(l.map int)[i]?=some (int (l.getD i 0)):=by rw [List.getElem?_map,U5 0 h];rfl
theorem I90 (g:Nat) (R:RgS) (k:RgOkS R) (e name right a n:Int):Ct B0 Ax1 [P0 g,int e,int name,int right,int a,int n] [rgC g R] fun v own=>v=v2 (V8 R e name right a n)∧own [rgC g R]:=by
 refine Co E33 (fun _=>E32 ..) fun h r=>?_;refine B6 (rgC g R) fun ⟨q,la,lc,za,zc,s⟩=>?_;refine Je ?_;refine Ja ?_;intros;refine Ye (I86 s R.N R.C k.sp e name) fun h=>?_;intros;simp only [Ju3];refine Ja ?_;intros
 cases hg:Dg3 R.N R.C e name with
 | none =>
  have e1:V8 R e name right a n=(0,2):=by unfold V8;rw [hg]
  refine Yt rfl ?_;refine B1 (rgC g R) ⟨q,la,lc,za,zc,s⟩ ?_;refine Je ?_;refine Ys fun o=>?_;rw [e1];exact ⟨rfl,o.sub⟩
 | some c =>
  simp only [Option.getD_some];refine Yf rfl ?_;refine Ja ?_;intros;by_cases h1:(D5 .i64 c.rights right==0)=true
  ·have e1:V8 R e name right a n=(0,3):=by unfold V8;rw [hg];exact if_pos h1
   refine Yt h1 ?_;refine B1 (rgC g R) ⟨q,la,lc,za,zc,s⟩ ?_;refine Je ?_;refine Ys fun o=>?_;rw [e1];exact ⟨rfl,o.sub⟩
  refine Yf (by simpa using h1) ?_;refine Ja ?_;intros;by_cases h2:(!Bf2 a n c.n || decide (c.obj<0) || decide (c.obj≥R.lo.length))=true
  ·have e1:V8 R e name right a n=(0,1):=by unfold V8;rw [hg];exact (if_neg h1).trans (if_pos h2)
   refine Yt h2 ?_;refine B1 (rgC g R) ⟨q,la,lc,za,zc,s⟩ ?_;refine Je ?_;refine Ys fun o=>?_;rw [e1];exact ⟨rfl,o.sub⟩
  refine Yf (by simpa using h2) ?_;have h2':=h2;simp only [Bool.or_eq_true,decide_eq_true_eq,not_or] at h2';have hq:=k.eq;obtain ⟨⟨_,h2a⟩,h2b⟩:=h2';(refine Ja ?_;intros;repeat(refine Gw ?_;rintro px rfl;refine Ja ?_;intros));refine Tr.xIntS (v:=R.n.getD c.obj.toNat 0) (Hn9 (by omega)) ?_;refine Jb ?_;intros;refine Tr.orG (c:=!Bf2 (IntKind.wrap .i64 (c.lo+a)) n (R.n.getD c.obj.toNat 0)) (fun _=>?_) ?_
  ·refine Ja ?_;intros;refine Tr.xIntS (v:=R.n.getD c.obj.toNat 0) (Hn9 (by omega)) ?_;exact Jz
  by_cases h3:(!Bf2 c.lo a (R.n.getD c.obj.toNat 0) || !Bf2 (IntKind.wrap .i64 (c.lo+a)) n (R.n.getD c.obj.toNat 0))=true
  ·have e1:V8 R e name right a n=(0,1):=by unfold V8;rw [hg];exact (if_neg h1).trans ((if_neg h2).trans (if_pos h3))
   refine Yt h3 ?_;refine B1 (rgC g R) ⟨q,la,lc,some px,zc,s⟩ ?_;refine Je ?_;refine Ys fun o=>?_;rw [e1];exact ⟨rfl,o.sub⟩
  have e1:V8 R e name right a n=(IntKind.wrap .i64 (IntKind.wrap .i64 (R.lo.getD c.obj.toNat 0+c.lo)+a),0):=by unfold V8;rw [hg];exact (if_neg h1).trans ((if_neg h2).trans (if_neg h3))
  refine Yf (by simpa using h3) ?_;(refine Ja ?_;intros;repeat(refine Gw ?_;rintro px rfl;refine Ja ?_;intros));refine Tr.xIntS (v:=R.lo.getD c.obj.toNat 0) (Hn9 (by omega)) ?_;refine Ja ?_;intros;refine I3 (rgC g R) ⟨q,some _,lc,some _,zc,s⟩ [2,2,2,2,1] rfl ?_;refine Je ?_;refine Ys fun o=>?_;rw [e1];exact ⟨rfl,o.sub⟩
theorem Hq4 {R:RgS} (k:RgOkS R) {e name right a n p:Int} (h:V8 R e name right a n=(p,0)):0≤p∧0≤n∧p+n≤R.M.length:=by
 unfold V8 at h
 split at h;· cases h
 rename_i c hc
 split at h;· cases h
 split at h;· cases h
 rename_i h1
 split at h;· cases h
 rename_i h2
 have hq:=k.eq;have hm:=k.mem;simp only [Bool.or_eq_true,decide_eq_true_eq,not_or,Bool.not_eq_true',Bool.not_eq_false] at h1 h2;have h3:=h2.1;have h4:=h2.2;unfold Bf2 at h3 h4;simp only [Bool.and_eq_true,decide_eq_true_eq] at h3 h4;have hi:c.obj.toNat<R.lo.length:=by omega
 have he:=k.each c.obj.toNat _ _ (U5 0 hi) (U5 0 (show c.obj.toNat<R.n.length by omega));rw [B8] at h3 h4;rw [B8] at h4
 cases h
 rw [B8,B8];omega
def Ao9 (R:RgS) (e name a:Int) (b:List UInt8):Int × RgS :=
 if (V8 R e name 2 a b.length).2=0 then (0,{ R with M:=R.M.take (V8 R e name 2 a b.length).1.toNat++b++R.M.drop ((V8 R e name 2 a b.length).1.toNat+b.length) }) else ((V8 R e name 2 a b.length).2,R)
theorem Ja6 (g:Nat) (R:RgS) (k:RgOkS R) (e name a:Int) (b:List UInt8):Ct B0 Ax7 [P0 g,int e,int name,int a,.string ⟨⟨b⟩⟩] [rgC g R] fun v own=>v=int (Ao9 R e name a b).1∧own [rgC g (Ao9 R e name a b).2]:=by
 have hsz:ByteArray.size ⟨⟨b⟩⟩=b.length:=rfl;refine Co E13 (fun _=>E51 ..) fun h r=>?_;rw [hsz];refine Ye (I90 g R k e name 2 a b.length) fun h=>?_;intros;simp only [v2];refine Ja ?_;intros;by_cases h0:(V8 R e name 2 a b.length).2=0
 ·have e1:Ao9 R e name a b=(0,{ R with M:=R.M.take (V8 R e name 2 a b.length).1.toNat++b++R.M.drop ((V8 R e name 2 a b.length).1.toNat+b.length) }):=by unfold Ao9;rw [if_pos h0]
  obtain ⟨c1,c2,c3⟩:=Hq4 k (show V8 R e name 2 a b.length=((V8 R e name 2 a b.length).1,0) by rw [← h0]);rw [e1];generalize (V8 R e name 2 a b.length).1=p at c1 c3;refine Yf (by simpa using h0) ?_;refine B6 (rgC g R) fun ⟨q,la,lc,za,zc,s⟩=>?_;refine Je ?_;refine Ja ?_;intros;refine Je ?_;rw [show min b.length (R.M.length-p.toNat)=b.length by omega,List.take_of_length_le (Nat.le_refl _)];rw [show pCells (some (⟨q,bif decide (p.toNat<R.M.length) then p.toNat else 0,none⟩:Addr))=pAgg ⟨q,bif decide (p.toNat<R.M.length) then p.toNat else 0,none⟩ from rfl]
  have hoff:(bif decide (p.toNat<R.M.length) then p.toNat else 0)=p.toNat∨(b=[]∧(bif decide (p.toNat<R.M.length) then p.toNat else 0)=0∧p.toNat=R.M.length):=by
   by_cases hlt:p.toNat<R.M.length
   ·left;simp [hlt]
   ·right;refine ⟨List.eq_nil_of_length_eq_zero (by omega),by simp [hlt],by omega⟩
  refine Tr.xPAgg (cs':=A0 (R.M.take p.toNat++b++R.M.drop (p.toNat+b.length))) ⟨?_,An6 _,?_⟩ fun h=>?_
  ·simp only [A20];rcases hoff with e|⟨rfl,e,_⟩<;>rw [e]<;>(try simp)<;>omega
  ·rw [A20];rcases hoff with e|⟨rfl,e,e4⟩<;>rw [e]
   ·rw [E00,Dq5,Ad5,Ad5]
   ·simp [e4,A0]
  have el:R.M.length=(R.M.take p.toNat++b++R.M.drop (p.toNat+b.length)).length:=by simp;omega
  rw [el];refine B1 (rgC g { R with M:=R.M.take p.toNat++b++R.M.drop (p.toNat+b.length) }) ⟨q,la,lc,za,zc,s⟩ ?_;refine Je ?_;exact Yz
 ·have e1:Ao9 R e name a b=((V8 R e name 2 a b.length).2,R):=by unfold Ao9;rw [if_neg h0]
  refine Yt (by simpa using h0) ?_;refine Ys fun o=>?_;rw [e1];exact ⟨rfl,o.sub⟩
theorem Ja0 {R:RgS} (k:RgOkS R) (e name a:Int) (b:List UInt8):RgOkS (Ao9 R e name a b).2:=by
 unfold Ao9
 split
 ·rename_i h0
  obtain ⟨c1,c2,c3⟩:=Hq4 k (show V8 R e name 2 a b.length=((V8 R e name 2 a b.length).1,0) by rw [← h0]);have el:(R.M.take (V8 R e name 2 a b.length).1.toNat++b++R.M.drop ((V8 R e name 2 a b.length).1.toNat+b.length)).length=R.M.length:=by simp;omega
  exact ⟨k.sp,k.eq,k.few,by simp only [el];exact k.mem,fun i lo n h1 h2=>by simp only [el];exact k.each i lo n h1 h2⟩
 ·exact k
abbrev qtF (q:Nat) (L:List (List Bool)) (x:Option Addr × Nat × List (Option Addr × Nat)):List HP :=
 [pt q (.cells Gh4 false [.slice x.1 L.length x.2.1]),slC false Eg7 1 x.1 L.length x.2.1 (B31 x.2.2 L),pu (x.2.2.length=L.length)]
def qtC (q:Nat) (L:List (List Bool)):HP:=hex fun x=>sl (qtF q L x)
instance {q:Nat} {L:List (List Bool)}:Chk (qtC q L) (qtF q L):=⟨rfl⟩
def Ap2 (l:List Int):List (List Bool):=l.map fun n=>List.replicate (I6 n).toNat false
theorem Hl9 (q:Nat) (p:HP) (fa:Option Addr) (fc:Nat) (ro:Bool) (l:List Int) [ks:IsSl p fa ro B9 1 l.length fc (l.map int)] (h4:l.length≤4):∀ (m i:Nat) (L:List (List Bool)),l.length-i=m→i≤l.length→L=Ap2 (l.take i) →
  CtJ H0 Ag2 A73 [(0,.slice fa l.length fc),(3,P0 q),(4,int i)] [qtC q L,p] fun v own=>v=P0 q∧own [qtC q (Ap2 l),p]:=by
 intro m
 induction m with
 | zero =>
  intro i L hm hi hL;obtain rfl:i=l.length:=by omega
  rw [List.take_length] at hL;subst hL;refine Cj Df8 (fun _=>Dv4 ..) fun h r=>?_;refine Ja ?_;intros;refine Yf (by simp) ?_;refine Ys fun o=>?_;exact ⟨by first|rfl|trivial,o.sub⟩
 | succ m ih =>
  intro i L hm hi hL;have hlt:i<l.length:=by omega
  have hp:l[i]?=some l[i]:=List.getElem?_eq_getElem hlt;have ht:l.take (i+1)=l.take i++[l[i]]:=by rw [List.take_add_one,hp];rfl
  generalize l[i]=n at hp ht;have hl:L.length=i:=by rw [hL];simp [Ap2];omega
  have e1:=wN i;have ef:mm2 false (mm2 true n 0) 64=I6 n:=by rw [Ab7,Ag3];rfl
  have hf:0≤I6 n∧I6 n≤64:=by unfold I6;omega
  have ea:L.length+1=(L++[List.replicate (I6 n).toNat false]).length:=by simp
  refine Cj Df8 (fun _=>Dv4 ..) fun h r=>?_;refine Ja ?_;intros;refine Yt (by simp;omega) ?_;refine B6 (qtC q L) fun ⟨qa,qc,qs⟩=>?_;refine Je ?_;refine P9 2 rfl fun hq=>?_;(refine Ja ?_;intros;repeat(refine Gw ?_;rintro px rfl;refine Ja ?_;intros));rw [Int.toNat_natCast];refine Tr.xIntS (v:=n) (by rw [List.getElem?_map,hp];rfl) ?_;rw [ef];refine Tr.ck ⟨by omega,by omega,by simp only [B3];omega⟩ ?_;refine Yn fun bb h=>?_;refine Ja ?_;intros;refine Tr.xApd (new:=[.slice (some ⟨bb,0,none⟩) (I6 n).toNat (I6 n).toNat]) ⟨rfl,rfl,by simp only [B3];omega⟩ fun a' c' h'=>?_;refine Je ?_;refine Ja ?_;intros
  have es:B31 qs L++[.slice (some ⟨bb,0,none⟩) (I6 n).toNat (I6 n).toNat]=B31 (qs++[(some ⟨bb,0,none⟩,(I6 n).toNat)]) (L++[List.replicate (I6 n).toNat false]):=by
   rw [G80 _ _ hq];simp
  rw [e1,ea,es];refine Ax8 (show (qs++[((some ⟨bb,0,none⟩:Option Addr),(I6 n).toNat)]).length=(L++[List.replicate (I6 n).toNat false]).length by simp [hq]) ?_;refine Je ?_;refine B1 (qtC q (L++[List.replicate (I6 n).toNat false])) ⟨a',c',qs++[((some ⟨bb,0,none⟩:Option Addr),(I6 n).toNat)]⟩ ?_;refine Je ?_;refine Yr (ih (i+1) (L++[List.replicate (I6 n).toNat false]) (by omega) (by omega) (by rw [ht,hL];simp [Ap2])) ?_;rintro _ h ⟨rfl,o⟩;exact ⟨rfl,o.sub⟩
theorem Il9 (p:HP) (fa:Option Addr) (fc:Nat) (ro:Bool) (l:List Int) [ks:IsSl p fa ro B9 1 l.length fc (l.map int)] (h4:l.length≤4):Ct B0 Ag2 [.slice fa l.length fc] [p] fun v own=>∃ q,v=P0 q∧own [qtC q (Ap2 l),p]:=by
 refine Co Df8 (fun _=>Hg5 ..) fun h r=>?_;refine Yn fun q h=>?_;refine G0 false Eg7 1 (by omega) ?_;refine Ax8 (show ([]:List (Option Addr × Nat)).length=([]:List (List Bool)).length from rfl) ?_;refine I3 (qtC q []) ⟨none,0,[]⟩ [2,1,0] rfl ?_;refine Je ?_;refine Yr (Hl9 q p fa fc ro l h4 _ 0 [] rfl (by omega) rfl) ?_;rintro _ h ⟨rfl,o⟩;exact ⟨q,rfl,o.sub⟩
def N6 (L:List (List Bool)) (s:Nat):Nat:=((L.take s).map List.length).sum
theorem Hv6 (q:Nat) (L:List (List Bool)) (s:Nat) (hs:s≤L.length) (hL:L.length≤4) (hb:∀ x ∈ L,x.length≤64):∀ (m i:Nat),s-i=m→i≤s →
  Ab5 H0 U2 Au1 [(0,P0 q),(1,int s),(5,int (N6 L i)),(6,int i)] [qtC q L] (int (N6 L s)):=by
 have hle:∀ j,N6 L j≤64*j:=by
  intro j
  induction j with
  | zero=>simp [N6]
  | succ j ih =>
   unfold N6 at *;rw [List.take_add_one]
   cases h:L[j]? with
   | none=>simp only [Option.toList_none,List.append_nil];omega
   | some x=>have:=hb x (List.mem_of_getElem? h);simp only [Option.toList_some,List.map_append,List.sum_append,List.map_cons,List.map_nil,List.sum_cons,List.sum_nil];omega
 intro m
 induction m with
 | zero =>
  intro i hm hi;obtain rfl:i=s:=by omega
  refine Ab5.of Bx1 fun h r=>Tr.eq (Dd7 ..) ?_;refine Je ?_;refine Yf (by simp) ?_;exact Jz
 | succ m ih =>
  intro i hm hi;have hlt:i<L.length:=by omega
  have hp:L[i]?=some L[i]:=List.getElem?_eq_getElem hlt;have hx:=hb _ (List.getElem_mem hlt);generalize L[i]=x at hp hx;have en:N6 L (i+1)=N6 L i+x.length:=by unfold N6;rw [List.take_add_one,hp];simp
  have hi2:=hle i;have e1:=wN i;have e2:IntKind.wrap .i64 ((N6 L i:Int)+x.length)=((N6 L (i+1):Nat):Int):=by rw [B8,en];omega
  refine Ab5.of Bx1 fun h r=>Tr.eq (Dd7 ..) ?_;refine Je ?_;refine Yt (by simp;omega) ?_;refine B6 (qtC q L) fun ⟨qa,qc,qs⟩=>?_;refine Je ?_;refine P9 2 rfl fun hq=>?_;obtain ⟨y,hy⟩:=Hi8 hq hp;(refine Ja ?_;intros;repeat(refine Gw ?_;rintro px rfl;refine Ja ?_;intros));rw [Int.toNat_natCast];refine Je ?_;refine Tr.xSlS (x:=y.1) (y:=x.length) (z:=y.2) (G31 hy hp) ?_;rw [e1,e2];intro o;have o2:=Own.foldI (qtC q L) (some px,qc,qs) [0,0,0] o rfl;refine (?_:Tr _ _ _ _) o2;exact Af1 (ih (i+1) (by omega) (by omega)) (r:=r) (by simp) fun o=>⟨rfl,rfl⟩
theorem Ha5 (q:Nat) (L:List (List Bool)) (s:Nat) (hs:s≤L.length) (hL:L.length≤4) (hb:∀ x ∈ L,x.length≤64):CtP B0 U2 [P0 q,int s] [qtC q L] (int (N6 L s)):=by
 refine CtP.of Bx1 rfl fun h r=>Tr.eq (Go2 ..) ?_;refine Je ?_;exact Af1 (Hv6 q L s hs hL hb _ 0 rfl (by omega)) (r:=r) (by simp) fun o=>⟨rfl,rfl⟩
abbrev bs (l:List UInt8):ByteArray:=⟨⟨l⟩⟩
theorem Bh9 (l m:List UInt8):bs l++bs m=bs (l++m):=by
 refine ByteArray.ext ?_;rw [ByteArray.data_append];simp
theorem Bh4 (l:List UInt8):ByteArray.size (bs l)=l.length:=rfl
class BytesC (cs:List Value) (l:outParam (List UInt8)):Prop where
 ok:cs=A0 l
instance:BytesC [] []:=⟨rfl⟩
instance {x:UInt8} {cs:List Value} {l:List UInt8} [k:BytesC cs l]:BytesC (.int .u8 (x.toNat:Int)::cs) (x::l):=⟨by rw [k.ok];rfl⟩
instance {n:Int} {cs:List Value} {l:List UInt8} [k:BytesC cs l]:BytesC (.int .u8 (IntKind.wrap .u8 n)::cs) (b8 n::l):=⟨by rw [k.ok,Bx0];rfl⟩
instance {cs:List Value} {l:List UInt8} [k:BytesC cs l]:BytesC (.int .u8 0::cs) (0::l):=⟨by rw [k.ok];rfl⟩
instance {cs:List Value} {l:List UInt8} [k:BytesC cs l]:BytesC (.int .u8 1::cs) (1::l):=⟨by rw [k.ok];rfl⟩
instance {cs:List Value} {l:List UInt8} [k:BytesC cs l]:BytesC (.int .u8 167::cs) (167::l):=⟨by rw [k.ok];rfl⟩
instance {cs:List Value} {l:List UInt8} [k:BytesC cs l]:BytesC (.int .u8 179::cs) (179::l):=⟨by rw [k.ok];rfl⟩
instance {cs:List Value} {l:List UInt8} [k:BytesC cs l]:BytesC (.int .u8 197::cs) (197::l):=⟨by rw [k.ok];rfl⟩
instance {cs:List Value} {l:List UInt8} [k:BytesC cs l]:BytesC (.int .u8 211::cs) (211::l):=⟨by rw [k.ok];rfl⟩
instance {cs:List Value} {n:Nat} {l:List UInt8} [g:LenC cs n] [k:BytesC cs l]:BytesC (List.take n (List.drop 0 cs)) l:=⟨by rw [List.drop_zero,List.take_of_length_le (Nat.le_of_eq g.ok)];exact k.ok⟩
instance {l:List HP} {h:H} {α:Type} {Q:α→H→Prop} {cs:List Value} {x:List UInt8} {k:List UInt8→Option (α × H)} [c:BytesC cs x]:StpU (Tr l h (asBytes cs k) Q) (0=0) (Tr l h (k x) Q):=⟨fun _ t=>by rw [c.ok];exact Tr.asBytes (B28 _) t⟩
def Db8 (l:List UInt8):Int:=(l.map fun x=>(x.toNat:Int)).sum
theorem H53:∀ (l:List UInt8),0≤Db8 l∧Db8 l≤255*l.length
 | []=>by simp [Db8]
 | x::l=>by
  have:=H53 l;have:=x.toNat_lt;simp only [Db8,List.map_cons,List.sum_cons,List.length_cons] at *;omega
theorem H64:∀ (l:List UInt8) (n:Int),E83 (n%256) l=(n+Db8 l)%256
 | [],n=>by simp [E83,Db8]
 | x::l,n=>by
  have e:E83 (n%256) (x::l)=E83 ((n+x.toNat)%256) l:=by
   show E83 (IntKind.wrap .u8 (n%256+x.toNat)) l=_;rw [D51];congr 1;omega
  rw [e,H64 l];simp only [Db8,List.map_cons,List.sum_cons];congr 1;omega
theorem Jg6 (l:List UInt8):((B79 l).toNat:Int)=(l.length+Db8 l)%256:=by
 rw [← Eg2];unfold Hj5;rw [D51,H64]
theorem Ix2 (l:List UInt8) (hl:l.length≤100000):∀ (m i:Nat),l.length-i=m→i≤l.length →
  Ab5 H0 Am7 B64 [(0,.string (bs l)),(3,int (l.length+Db8 (l.take i))),(4,int i)] [] (.int .u8 ((B79 l).toNat:Int)):=by
 intro m
 induction m with
 | zero =>
  intro i hm hi;obtain rfl:i=l.length:=by omega
  refine Ab5.of E28 fun h r=>Tr.eq (Gc1 ..) ?_;refine Je ?_;rw [Bh4,List.take_length];refine Yf (by simp) ?_;refine Ys fun o=>?_;rw [D51,Jg6];exact ⟨by first|rfl|trivial,by first|rfl|trivial⟩
 | succ m ih =>
  intro i hm hi;have hlt:i<l.length:=by omega
  have hp:l[i]?=some l[i]:=List.getElem?_eq_getElem hlt;have ht:l.take (i+1)=l.take i++[l[i]]:=by rw [List.take_add_one,hp];rfl
  have hg:List.getD l i 0=l[i]:=by rw [List.getD_eq_getElem?_getD,hp];rfl
  generalize l[i]=x at hp ht hg;have hx:=x.toNat_lt;have hb:=H53 (l.take i);have hk:(l.take i).length=i:=by simp;omega
  have e1:=wN i;have e2:Db8 (l.take (i+1))=Db8 (l.take i)+x.toNat:=by rw [ht];simp [Db8]
  refine Ab5.of E28 fun h r=>Tr.eq (Gc1 ..) ?_;refine Je ?_;rw [Bh4];refine Yt (by simp;omega) ?_;refine Ja ?_;intros;rw [Int.toNat_natCast,hg,e1,Aw1,show IntKind.wrap .i64 ((l.length:Int)+Db8 (l.take i)+x.toNat)=l.length+Db8 (l.take (i+1)) by rw [B8,e2];omega];exact Af1 (ih (i+1) (by omega) (by omega)) (r:=r) (by simp) fun o=>⟨rfl,rfl⟩
theorem Gu2 (l:List UInt8) (hl:l.length≤100000):CtP B0 Am7 [.string (bs l)] [] (.int .u8 ((B79 l).toNat:Int)):=by
 refine CtP.of E28 rfl fun h r=>Tr.eq (I44 ..) ?_;refine Je ?_;have J:=Ix2 l hl _ 0 rfl (by omega);simp only [List.take_zero,Db8,List.map_nil,List.sum_nil,Int.add_zero] at J;exact Af1 J (r:=r) (by simp) fun o=>⟨rfl,rfl⟩
theorem Je4 (g:Int):Ct B0 Ba3 [int g] [] fun v own=>v=.string (bs [b8 g,211,B79 [b8 g,211],0])∧own []:=by
 refine Co Gn8 (fun _=>Go5 ..) fun h r=>?_;refine Ja ?_;intros;refine Tr.pcall (Gu2 [b8 g,211] (by simp)) ?_;refine Je ?_;refine Ja ?_;intros;refine Tr.ck (by simp [ByteArray.size,B3]) ?_;refine Ys fun o=>?_;rw [Bh9];exact ⟨rfl,o.sub⟩
theorem Jd6 (f:FileS):Ct B0 Be0 [.agg ⟨Am5 f⟩] [] fun v own=>v=.string (bs (Ap7 f))∧own []:=by
 refine Co Gw9 (fun _=>Gu8 ..) fun h r=>?_;refine Ja ?_;intros;refine Tr.pcall (Gu2 (Bm2 f) (by simp [Bm2])) ?_;refine Je ?_;refine Ja ?_;intros;refine Tr.ck (by simp [ByteArray.size,B3]) ?_;refine Ys fun o=>?_;rw [Bh9];exact ⟨rfl,o.sub⟩
theorem Gq2 (n:Int):Ct B0 Bi9 [int n] [] fun v own=>v=.string (bs [b8 (n / 256),b8 n])∧own []:=by
 refine Co I19 (fun _=>Iy7 ..) fun h r=>?_;rw [show Int.fdiv n (2 ^ 8)=n / 256 by rw [Int.fdiv_eq_ediv_of_nonneg _ (by omega)];rfl];refine Ja ?_;intros;exact Yz
theorem If1 (b0:Nat) (p:PipeS):∀ (m i:Nat) (acc:List UInt8),32-i=m→i≤32→acc.length≤50+i →
  CtJ H0 W5 Ax4 [(1,P0 b0),(3,.string (bs acc)),(4,int i)] [pt b0 (.cells E6 false (M6 p))] fun v own=>v=.string (bs (acc++p.data.drop i))∧own []:=by
 have hd:=p.len;intro m
 induction m with
 | zero =>
  intro i acc hm hi ha;obtain rfl:i=32:=by omega
  refine Cj B23 (fun _=>Dg6 ..) fun h r=>?_;refine Yf rfl ?_;refine Ys fun o=>?_;rw [List.drop_eq_nil_of_le (by omega),List.append_nil];exact ⟨rfl,o.sub⟩
 | succ m ih =>
  intro i acc hm hi ha;have hlt:i<p.data.length:=by omega
  have hp:p.data[i]?=some p.data[i]:=List.getElem?_eq_getElem hlt;have hdr:p.data.drop i=p.data[i]::p.data.drop (i+1):=List.drop_eq_getElem_cons hlt;generalize p.data[i]=x at hp hdr;have e1:=wN i;refine Cj B23 (fun _=>Dg6 ..) fun h r=>?_;refine Yt (by simp;omega) ?_;refine Tr.ck (by omega) ?_;rw [Int.toNat_natCast];refine Tr.xInt (n:=(x.toNat:Int)) ?_ ?_
  ·rw [show (4+i:Nat)=i+1+1+1+1 by omega];exact Ez5 hp
  refine Ja ?_;intros;refine Tr.ck (by simp only [ByteArray.size,B3];simp;omega) ?_;rw [Bh9,e1,hdr];refine Yr (ih (i+1) (acc++[x]) (by omega) (by omega) (by simp;omega)) ?_;rintro _ h ⟨rfl,o⟩;exact ⟨by simp,o.sub⟩
theorem Hu5 (p:PipeS):Ct B0 W5 [.agg ⟨M6 p⟩] [] fun v own=>v=.string (bs (P2 p))∧own []:=by
 refine Co B23 (fun _=>Gw5 ..) fun h r=>?_;refine Yn fun b0 h=>?_;refine Ja ?_;intros;refine Tr.pcall (Gu2 (Ao6 p) (by simp [Ao6])) ?_;refine Je ?_;refine Ja ?_;intros;refine Tr.ck (by simp [ByteArray.size,B3]) ?_;rw [Bh9];refine Yr (If1 b0 p _ 0 (Ao6 p++[B79 (Ao6 p),0]) rfl (by omega) (by simp [Ao6])) ?_;rintro _ h ⟨rfl,o⟩;exact ⟨by simp [P2],o.sub⟩
def Ic3 (n:Int):List UInt8:=[b8 (n / 256),b8 n]
def Iu9 (p:ProcS):List UInt8:=[b8 p.state,b8 p.parent,b8 p.group,b8 p.code]++(Ic3 p.pending++(Ic3 p.mask++(Ic3 p.ignored++(Ic3 p.caught++(p.fds.map b8++[167])))))
def Gh7 (p:ProcS):List UInt8:=Iu9 p++[B79 (Iu9 p),0,0]
theorem Id8 (b0:Nat) (p:ProcS):∀ (m i:Nat) (acc:List UInt8),8-i=m→i≤8→acc.length≤50+i →
  CtJ H0 Aa2 Az3 [(1,P0 b0),(3,.string (bs acc)),(4,int i)] [pt b0 (.cells B2 false (B5 p))] fun v own =>
   v=.string (bs (acc++((p.fds.drop i).map b8++[167])++[B79 (acc++((p.fds.drop i).map b8++[167])),0,0]))∧own []:=by
 have hd:=p.len;intro m
 induction m with
 | zero =>
  intro i acc hm hi ha;obtain rfl:i=8:=by omega
  refine Cj B30 (fun _=>Di5 ..) fun h r=>?_;refine Yf rfl ?_;refine Tr.ck (by simp only [ByteArray.size,B3];simp;omega) ?_;rw [Bh9];refine Tr.pcall (Gu2 (acc++[167]) (by simp;omega)) ?_;refine Je ?_;refine Ja ?_;intros;refine Tr.ck (by simp only [ByteArray.size,B3];simp;omega) ?_;refine Ys fun o=>?_;rw [List.drop_eq_nil_of_le (by omega),Bh9];exact ⟨rfl,o.sub⟩
 | succ m ih =>
  intro i acc hm hi ha;have hlt:i<p.fds.length:=by omega
  have hp:p.fds[i]?=some p.fds[i]:=List.getElem?_eq_getElem hlt;have hdr:p.fds.drop i=p.fds[i]::p.fds.drop (i+1):=List.drop_eq_getElem_cons hlt;generalize p.fds[i]=x at hp hdr;have e1:=wN i;refine Cj B30 (fun _=>Di5 ..) fun h r=>?_;refine Yt (by simp;omega) ?_;refine Tr.ck (by omega) ?_;rw [Int.toNat_natCast];refine Tr.xInt (n:=x) ?_ ?_
  ·rw [show (8+i:Nat)=i+1+1+1+1+1+1+1+1 by omega];exact Hj9 hp
  refine Ja ?_;intros;refine Tr.ck (by simp only [ByteArray.size,B3];simp;omega) ?_;rw [Bh9,e1,hdr];refine Yr (ih (i+1) (acc++[b8 x]) (by omega) (by omega) (by simp;omega)) ?_;rintro _ h ⟨rfl,o⟩;exact ⟨by simp,o.sub⟩
theorem Je5 (p:ProcS):Ct B0 Aa2 [.agg ⟨B5 p⟩] [] fun v own=>v=.string (bs (Gh7 p))∧own []:=by
 refine Co B30 (fun _=>Gu6 ..) fun h r=>?_;refine Yn fun b0 h=>?_;refine Ja ?_;intros;refine Ye (Gq2 p.pending) fun h=>?_;intros;refine Tr.ck (by simp [ByteArray.size,B3]) ?_;refine Ye (Gq2 p.mask) fun h=>?_;intros;refine Tr.ck (by simp [ByteArray.size,B3,Bh9]) ?_;refine Ye (Gq2 p.ignored) fun h=>?_;intros;refine Tr.ck (by simp [ByteArray.size,B3,Bh9]) ?_;refine Ye (Gq2 p.caught) fun h=>?_;intros;refine Tr.ck (by simp [ByteArray.size,B3,Bh9]) ?_;simp only [Bh9];refine Yr (Id8 b0 p _ 0 _ rfl (by omega) (by simp)) ?_;rintro _ h ⟨rfl,o⟩;exact ⟨by simp [Gh7,Iu9,Ic3],o.sub⟩
theorem It9 (n:Nat):G9 n [.int .u8 0]=A0 (List.replicate n 0):=by simp [G9,A0]
def Ag7:List UInt8:=List.replicate 448 0++(P2 ⟨0,0,1,1,List.replicate 32 0,rfl⟩++frontB8 0)
where frontB8 (g:Int):List UInt8:=[b8 g,211,B79 [b8 g,211],0]
theorem Ht5:Ct B0 Bn1 [] [] fun v own=>v=.string (bs Ag7)∧own []:=by
 have hc:∀ Z:List UInt8,Z.length=448→0+448≤(A0 Z).length∧((A0 Z).drop 0).take 448=A0 Z:=fun Z hz=>⟨by rw [Aa9];omega,by rw [List.drop_zero,List.take_of_length_le (by rw [Aa9];omega)]⟩
 refine Co Hx4 (fun _=>Hw0 ..) fun h r=>?_;refine Tr.ck ⟨by omega,by omega,by simp [B3]⟩ ?_;rw [It9];have hb:Ag7=List.replicate 448 0++(P2 ⟨0,0,1,1,List.replicate 32 0,rfl⟩++Ag7.frontB8 0):=rfl;generalize hz:List.replicate 448 (0:UInt8)=Z at hb ⊢;have hl:Z.length=448:=by rw [← hz];simp
 rw [hb];refine Yn fun b0 h=>?_;refine Tr.xCellsB (hc Z hl) ?_;refine Ja ?_;intros;refine Yc (Hu5 ⟨0,0,1,1,List.replicate 32 0,rfl⟩) ?_;rintro _ h ⟨rfl,o⟩<;>(refine Jg o ?_;intros);refine Tr.xCellsB (hc Z hl) ?_;refine Ja ?_;intros;refine Tr.ck (by rw [Bh4,Bh4,Bu0 rfl,hl];simp [B3]) ?_;rw [Bh9];refine Yc (Je4 0) ?_;rintro _ h ⟨rfl,o⟩<;>(refine Jg o ?_;intros);refine Tr.xCellsB (hc Z hl) ?_;refine Ja ?_;intros;refine Tr.ck (by rw [Bh4,Bh4,List.length_append,Bu0 rfl,hl];simp [B3]) ?_;refine Ys fun o=>?_;rw [Bh9,List.append_assoc];exact ⟨rfl,o.sub⟩
structure PlanS where
 bad:List Bool
 brs:List (Int × Int)
 lease:Int
structure PlA where
 ba:Option Addr
 bc:Nat
 ra:Option Addr
 rc:Nat
def brL (p:Int × Int):List Value:=[int p.1,int p.2]
theorem Is6 (p:Int × Int):(brL p).length=2:=rfl
abbrev Gs0 (P:PlanS) (A:PlA):List Value:=[.slice A.ba P.bad.length A.bc,.slice A.ra P.brs.length A.rc,int P.lease]
abbrev D53 (P:PlanS) (A:PlA):List HP:=[slC false G95 1 A.ba P.bad.length A.bc (P.bad.map Value.bool),slC false Dh8 2 A.ra P.brs.length A.rc (P.brs.flatMap brL)]
def J85 (B:BootS) (s:Int):BootS:={ B with frames:=B.frames++[20],envs:=B.envs++List.replicate 9 s,sects:=B.sects++[[s]],shared:=B.shared++[⟨s,0,0,492,[s]⟩] }
def Ei3 (B:BootS):Nat→Int→BootS
 | 0,_=>B
 | m+1,s=>Ei3 (J85 B s) m (s+1)
def Dh2 (B:BootS):Int→List (Int × Int)→BootS
 | _,[]=>B
 | i,x::l=>Dh2 { B with shared:=B.shared++[⟨x.1,8+i,0,40,[x.1,x.2]⟩] } (i+1) l
def Gj8 (P:PlanS):BootS:=Dh2 (Ei3 ⟨[],[],[],P.lease,[]⟩ P.bad.length 0) 0 P.brs
theorem Jo3 (m:Nat) (s:Int) (E:List Int):E++[s]++List.replicate m s=E++List.replicate (m+1) s:=by
 rw [List.append_assoc,List.replicate_succ];rfl
theorem Ix5 (pp xx bb:Nat) (s:Int) (B:BootS) (fa sa ha:Option Addr) (fc sc hc:Nat) {Q:Value→H→Prop}:∀ (m i:Nat) (E:List Int) (ea:Option Addr) (ec:Nat) (h:H) (l:List HP),9-i=m→i≤9→E.length+m≤100000 →
  (∀ ea' ec' h',Tr (pt bb (.cells G7 false [.slice fa B.frames.length fc,.slice ea' (E++List.replicate m s).length ec',.slice sa B.sects.length sc,int B.lease,.slice ha B.shared.length hc])::slC false B9 1 ea' (E++List.replicate m s).length ec' ((E++List.replicate m s).map int)::l) h'
   (H0 O6 A94 [(1,P0 pp),(2,P0 xx),(3,P0 bb),(4,int s),(5,int 9)] h') Q) →
  Tr (pt bb (.cells G7 false [.slice fa B.frames.length fc,.slice ea E.length ec,.slice sa B.sects.length sc,int B.lease,.slice ha B.shared.length hc])::slC false B9 1 ea E.length ec (E.map int)::l) h
   (H0 O6 A94 [(1,P0 pp),(2,P0 xx),(3,P0 bb),(4,int s),(5,int i)] h) Q:=by
 intro m
 induction m with
 | zero =>
  intro i E ea ec h l hm hi hE t;obtain rfl:i=9:=by omega
  have t0:=t ea ec h;simp only [List.replicate_zero,List.append_nil] at t0;exact t0
 | succ m ih =>
  intro i E ea ec h l hm hi hE t;have e1:=wN i;refine Yj A31 (Eo9 ..) ?_;refine Yt (by simp;omega) ?_;refine Ja ?_;intros;refine Tr.xApd ?_ (fun a' c' h=>?_);exact ⟨by first|rfl|simp,by first|rfl|simp,by simp only [B3];omega⟩;refine Je ?_;refine Ja ?_;intros;refine Je ?_;rw [e1];have ee:E.map int++[Value.int IntKind.i64 s]=(E++[s]).map int:=by simp
  rw [ee,show E.length+1=(E++[s]).length by simp];refine N8 [1,1] 1 rfl rfl ?_;refine ih (i+1) (E++[s]) a' c' _ l (by omega) (by omega) (by simp;omega) fun ea' ec' h'=>?_;rw [Jo3];exact t ea' ec' h'
theorem Ix6 (pp xx bb:Nat) (P:PlanS) (PA:PlA) (h4:P.brs.length≤100):∀ (m i:Nat) (B:BootS) (A:BA),P.brs.length-i=m→i≤P.brs.length→BaOk B A→B.shared.length≤100+i →
  CtJ H0 O6 Bt2 [(1,P0 pp),(2,P0 xx),(3,P0 bb),(6,int i)]
   (pt pp (.cells De9 false (Gs0 P PA))::pt xx (.cells G7 false [.slice none 0 0,.slice none 0 0,.slice none 0 0,int 0,.slice none 0 0])::pt bb (.cells G7 false (Ai4 B A))::(A91 false B A++D53 P PA))
   fun v own=>∃ A',BaOk (Dh2 B i (P.brs.drop i)) A'∧v=.agg ⟨Ai4 (Dh2 B i (P.brs.drop i)) A'⟩∧own (A91 false (Dh2 B i (P.brs.drop i)) A'++D53 P PA):=by
 intro m
 induction m with
 | zero =>
  intro i B A hm hi ok hB;obtain ⟨fa,fc,ea,ec,sa,sc,ss,ha,hc,hs⟩:=A;refine Cj A31 (fun _=>El7 ..) fun h r=>?_;refine Ja ?_;intros;refine Yf (by simp;omega) ?_;refine Ja ?_;intros;refine Ys fun o=>?_;rw [List.drop_eq_nil_of_le (by omega),show Dh2 B i []=B from rfl];exact ⟨⟨fa,fc,ea,ec,sa,sc,ss,ha,hc,hs⟩,ok,rfl,o.sub⟩
 | succ m ih =>
  intro i B A hm hi ok hB;have hlt:i<P.brs.length:=by omega
  have hx:P.brs[i]?=some P.brs[i]:=List.getElem?_eq_getElem hlt;have hd:P.brs.drop i=P.brs[i]::P.brs.drop (i+1):=List.drop_eq_getElem_cons hlt;generalize P.brs[i]=x at hx hd;have e1:=wN i;have e2:IntKind.wrap .i64 (8+(i:Int))=8+(i:Int):=by rw [B8];omega
  obtain ⟨fa,fc,ea,ec,sa,sc,ss,ha,hc,hs⟩:=A;obtain ⟨ba,bc,ra,rc⟩:=PA;have oks:=ok.ss;have okh:=ok.hs;simp only at oks okh;refine Cj A31 (fun _=>El7 ..) fun h r=>?_;refine Ja ?_;intros;refine Yt (by simp;omega) ?_;(refine Ja ?_;intros;repeat(refine Gw ?_;rintro px rfl;refine Ja ?_;intros));rw [Int.toNat_natCast];refine Tr.xAggS (xs:=brL x) ⟨by omega,by rw [V4 Is6];omega,Av3 Is6 hx⟩ ?_;refine Yn fun b1 h=>?_;refine Tr.ck rfl ?_;refine Tr.xPAgg (cs':=brL x) ⟨Nat.le_of_ble_eq_true rfl,rfl,rfl⟩ fun h=>?_;refine Jc ?_;intros;rw [e2,e1];refine Yn fun b2 h=>?_;refine Yn fun b3 h=>?_;refine Ja ?_;intros;refine Tr.xApd ?_ (fun a' c' h=>?_);exact ⟨by first|rfl|simp,by first|rfl|simp,by simp only [B3];omega⟩;refine Je ?_;refine Ja ?_;intros;refine Je ?_;obtain ⟨Z,hZ⟩:∃ Z:ShareS,Z=⟨x.1,8+(i:Int),0,40,[x.1,x.2]⟩:=⟨_,rfl⟩
  have en:B.shared.length+1=(B.shared++[Z]).length:=by simp
  have ez:(hs.zip B.shared).flatMap Ae9++[Value.int IntKind.i64 x.1,Value.int IntKind.i64 (8+(i:Int)),Value.int IntKind.i64 0,Value.int IntKind.i64 40,.slice (some ⟨b2,0,none⟩) 2 2]=((hs++[((some ⟨b2,0,none⟩:Option Addr),2)]).zip (B.shared++[Z])).flatMap Ae9:=by
   rw [List.zip_append okh,hZ];simp [Ae9]
  rw [ez,en];refine Ag4 1 rfl 1 2 rfl (by omega) ?_;refine Je ?_;refine Hd1 (slC false B9 1 (some ⟨b2,0,none⟩) 2 2 [int x.1,int x.2]) (toC false (some ⟨b2,0,none⟩,2) Z) (by rw [hZ];rfl) ?_;refine Bk8 (toC false) hs B.shared (some ⟨b2,0,none⟩,2) Z okh ?_;have eb:Dh2 B i (P.brs.drop i)=Dh2 { B with shared:=B.shared++[Z] } ((i+1:Nat):Int) (P.brs.drop (i+1)):=by rw [hd,hZ];rfl
  rw [eb];refine N8 [3,3,3,3,3,3,3,3,0,2,2] 2 rfl rfl ?_;refine Yr (ih (i+1) { B with shared:=B.shared++[Z] } ⟨fa,fc,ea,ec,sa,sc,ss,a',c',hs++[((some ⟨b2,0,none⟩:Option Addr),2)]⟩ (by omega) (by omega) ⟨oks,by simp [okh]⟩ (by simp;omega)) ?_;rintro _ h ⟨A',ok',rfl,o⟩;exact ⟨A',ok',rfl,o⟩
theorem I55 (pp xx bb:Nat) (P:PlanS) (PA:PlA) (h4:P.brs.length≤100) (hb4:P.bad.length≤100):∀ (m i:Nat) (B:BootS) (A:BA),P.bad.length-i=m→i≤P.bad.length→BaOk B A→B.shared.length=i→B.envs.length=9*i→B.frames.length=i→B.sects.length=i →
  CtJ H0 O6 Bt5 [(1,P0 pp),(2,P0 xx),(3,P0 bb),(4,int i)]
   (pt pp (.cells De9 false (Gs0 P PA))::pt xx (.cells G7 false [.slice none 0 0,.slice none 0 0,.slice none 0 0,int 0,.slice none 0 0])::pt bb (.cells G7 false (Ai4 B A))::(A91 false B A++D53 P PA))
   fun v own=>∃ A',BaOk (Dh2 (Ei3 B m i) 0 P.brs) A'∧v=.agg ⟨Ai4 (Dh2 (Ei3 B m i) 0 P.brs) A'⟩∧own (A91 false (Dh2 (Ei3 B m i) 0 P.brs) A'++D53 P PA):=by
 intro m
 induction m with
 | zero =>
  intro i B A hm hi ok h1 h2 h3 h5;refine Cj A31 (fun _=>Em3 ..) fun h r=>?_;refine Ja ?_;intros;refine Yf (by simp;omega) ?_;refine Yr (Ix6 pp xx bb P PA h4 _ 0 B A rfl (by omega) ok (by omega)) ?_;rintro _ h ⟨A',ok',rfl,o⟩;exact ⟨A',ok',rfl,o⟩
 | succ m ih =>
  intro i B A hm hi ok h1 h2 h3 h5;have e1:=wN i;obtain ⟨fa,fc,ea,ec,sa,sc,ss,ha,hc,hs⟩:=A;obtain ⟨ba,bc,ra,rc⟩:=PA;have oks:=ok.ss;have okh:=ok.hs;simp only at oks okh;refine Cj A31 (fun _=>Em3 ..) fun h r=>?_;refine Ja ?_;intros;refine Yt (by simp;omega) ?_;refine Ja ?_;intros;refine Tr.xApd ?_ (fun f1 f2 h=>?_);exact ⟨by first|rfl|simp,by first|rfl|simp,by simp only [B3];omega⟩;refine Je ?_;refine Ja ?_;intros;refine Je ?_;rw [show B.frames.map int++[Value.int IntKind.i64 20]=(B.frames++[20]).map int by simp,show B.frames.length+1=(B.frames++[20]).length by simp];refine N8 [3,4] 0 rfl rfl ?_;refine Je ?_;refine Ix5 pp xx bb i { B with frames:=B.frames++[20] } f1 sa ha f2 sc hc 9 0 B.envs ea ec _ _ rfl (by omega) (by omega) fun ea' ec' h'=>?_;refine Yj A31 (Eo9 ..) ?_;refine Yf rfl ?_;refine Jc ?_;intros;refine Yn fun b2 h=>?_;refine Yn fun b3 h=>?_;refine Ja ?_;intros;refine Tr.xApd ?_ (fun s1 s2 h=>?_);exact ⟨by first|rfl|simp,by first|rfl|simp,by simp only [B3];omega⟩;refine Je ?_;refine Jc ?_;intros;refine Je ?_;refine Yn fun b4 h=>?_;refine Yn fun b5 h=>?_;refine Ja ?_;intros;refine Tr.xApd ?_ (fun z1 z2 h=>?_);exact ⟨by first|rfl|simp,by first|rfl|simp,by simp only [B3];omega⟩;refine Je ?_;refine Ja ?_;intros;refine Je ?_;rw [e1];obtain ⟨Z,hZ⟩:∃ Z:ShareS,Z=⟨i,0,0,492,[(i:Int)]⟩:=⟨_,rfl⟩
  have en:B.shared.length+1=(B.shared++[Z]).length:=by simp
  have ez:(hs.zip B.shared).flatMap Ae9++[Value.int IntKind.i64 (i:Int),Value.int IntKind.i64 0,Value.int IntKind.i64 0,Value.int IntKind.i64 492,.slice (some ⟨b4,0,none⟩) 1 1]=((hs++[((some ⟨b4,0,none⟩:Option Addr),1)]).zip (B.shared++[Z])).flatMap Ae9:=by
   rw [List.zip_append okh,hZ];simp [Ae9]
  have es:B.sects.length+1=(B.sects++[[(i:Int)]]).length:=by simp
  have ev:Dm0 ss B.sects++[Value.slice (some ⟨b2,0,none⟩) 1 1]=Dm0 (ss++[((some ⟨b2,0,none⟩:Option Addr),1)]) (B.sects++[[(i:Int)]]):=(G80 (some ⟨b2,0,none⟩,1) [(i:Int)] oks).symm;rw [ez,en,ev,es];refine Ag4 1 rfl 1 1 rfl (by omega) ?_;refine Je ?_;refine Ag4 3 rfl 1 1 rfl (by omega) ?_;refine Je ?_;refine Hd1 (slC false B9 1 (some ⟨b4,0,none⟩) 1 1 [int i]) (toC false (some ⟨b4,0,none⟩,1) Z) (by rw [hZ];rfl) ?_;refine Bk8 (toC false) hs B.shared (some ⟨b4,0,none⟩,1) Z okh ?_;refine Hd1 (slC false B9 1 (some ⟨b2,0,none⟩) 1 1 [int i]) (rsC false (some ⟨b2,0,none⟩,1) [(i:Int)]) rfl ?_;refine Bk8 (rsC false) ss B.sects (some ⟨b2,0,none⟩,1) [(i:Int)] oks ?_;refine N8 [7,7,4,6,4,5,0,4,0,3,3] 3 rfl rfl ?_;have eb:Ei3 B (m+1) i=Ei3 { B with frames:=B.frames++[20],envs:=B.envs++List.replicate 9 (i:Int),sects:=B.sects++[[(i:Int)]],shared:=B.shared++[Z] } m ((i+1:Nat):Int):=by rw [hZ];rfl
  rw [eb]
  refine Yr (ih (i+1) { B with frames:=B.frames++[20],envs:=B.envs++List.replicate 9 (i:Int),sects:=B.sects++[[(i:Int)]],shared:=B.shared++[Z] }
   ⟨f1,f2,ea',ec',s1,s2,ss++[((some ⟨b2,0,none⟩:Option Addr),1)],z1,z2,hs++[((some ⟨b4,0,none⟩:Option Addr),1)]⟩ (by omega) (by omega) ⟨by simp [oks],by simp [okh]⟩ (by simp;omega) (by simp;omega) (by simp;omega) (by simp;omega)) ?_
  rintro _ h ⟨A',ok',rfl,o⟩;exact ⟨A',ok',rfl,o⟩
theorem Jw4 (P:PlanS) (PA:PlA) (h4:P.brs.length≤100) (hb4:P.bad.length≤100):Ct B0 O6 [.agg ⟨Gs0 P PA⟩] (D53 P PA) fun v own =>
  ∃ A,BaOk (Gj8 P) A∧v=.agg ⟨Ai4 (Gj8 P) A⟩∧own (A91 false (Gj8 P) A++D53 P PA):=by
 refine Co A31 (fun _=>H25 ..) fun h r=>?_;refine Yn fun pp h=>?_;refine Yn fun xx h=>?_;refine Jc ?_;intros;refine Yn fun bb h=>?_;refine Ja ?_;intros;refine G0 false B9 1 (by omega) ?_;refine G0 false B9 1 (by omega) ?_;refine G0 false Y4 1 (by omega) ?_;refine Ea4 (rsC false) ?_;refine G0 false O3 5 (by omega) ?_;refine Ea4 (toC false) ?_;refine Dq2 (I55 pp xx bb P PA h4 hb4 _ 0 ⟨[],[],[],P.lease,[]⟩ ⟨none,0,none,0,none,0,[],none,0,[]⟩ rfl (by omega) ⟨rfl,rfl⟩ rfl rfl rfl rfl) [8,7,6,5,4,3,2,1,0,0,0] rfl ?_;rintro _ h ⟨A',ok',rfl,o⟩;exact ⟨A',ok',rfl,o⟩
structure RSe where
 lease:Int
 who:Int
 stamp:Int
 since:Int
 last:Int
 first:Int
 held:Bool
 now:Int
 queue:List Int
abbrev J80 (t:Nat) (T:RSe) (x:Option Addr × Nat):List HP:=[pt t (.cells G01 false [int T.lease,int T.who,int T.stamp,int T.since,int T.last,int T.first,.bool T.held,int T.now,.slice x.1 T.queue.length x.2]),slC false B9 1 x.1 T.queue.length x.2 (T.queue.map int)]
def Hm2 (t:Nat) (T:RSe):HP:=hex fun x=>sl (J80 t T x)
instance {t:Nat} {T:RSe}:Chk (Hm2 t T) (J80 t T):=⟨rfl⟩
def Dp4 (lease:Int):RSe:=⟨min (max lease 1) 1000,0,0,0,0,0,false,0,[]⟩
theorem Ip2 (lease:Int):Ct B0 Bx6 [int lease] [] fun v own=>∃ t,v=P0 t∧own [Hm2 t (Dp4 lease)]:=by
 refine Co Hk7 (fun _=>Hj4 ..) fun h r=>?_;rw [Ab7,Ag3];refine Yn fun t h=>?_;refine G0 false B9 1 (by omega) ?_;refine I3 (Hm2 t (Dp4 lease)) (none,0) [1,0] rfl ?_;refine Je ?_;refine Ys fun o=>?_;exact ⟨t,rfl,o.sub⟩
theorem Jb3 (p:HP) (a:Option Addr) (ro:Bool) (c:Nat) (l:List Int) (s:Int) [ks:IsSl p a ro B9 1 l.length c (l.map int)] (hl:l.length≤B3):∀ (m i:Nat),l.length-i=m→i≤l.length →
  Ab5 H0 Bi5 Dg2 [(0,.slice a l.length c),(1,int s),(5,int i)] [p] (.bool (decide (s ∈ l.drop i))):=by
 intro m
 induction m with
 | zero =>
  intro i hm hi;refine Ab5.of Gp7 fun h r=>Tr.eq (Gh3 ..) ?_;refine Je ?_;refine Yf (by simp;omega) ?_;refine Ys fun o=>?_;rw [List.drop_eq_nil_of_le (by omega)];exact ⟨by simp,rfl⟩
 | succ m ih =>
  intro i hm hi;have hlt:i<l.length:=by omega
  have hp:l[i]?=some l[i]:=List.getElem?_eq_getElem hlt;have hd:l.drop i=l[i]::l.drop (i+1):=List.drop_eq_getElem_cons hlt;generalize l[i]=x at hp hd;have e1:IntKind.wrap .i64 ((i:Int)+1)=((i+1:Nat):Int):=by rw [B8];simp only [B3] at hl;omega
  refine Ab5.of Gp7 fun h r=>Tr.eq (Gh3 ..) ?_;refine Je ?_;refine Yt (by simp;omega) ?_;(refine Ja ?_;intros;repeat(refine Gw ?_;rintro px rfl;refine Ja ?_;intros));rw [Int.toNat_natCast];refine Tr.xIntS (v:=x) (Hj9 hp) ?_;rw [hd];by_cases hx:x=s
  ·refine Yt (by simpa using hx) ?_;refine Ys fun o=>?_;exact ⟨by simp [hx],rfl⟩
  ·refine Yf (by simpa using hx) ?_;rw [e1];refine Af1 (ih (i+1) (by omega) (by omega)) (r:=r) (by simp) fun o=>⟨?_,rfl⟩
   have:¬ s=x:=fun e=>hx e.symm;simp [this]
theorem J62 (p:HP) (a:Option Addr) (ro:Bool) (c:Nat) (l:List Int) (s:Int) [ks:IsSl p a ro B9 1 l.length c (l.map int)] (hl:l.length≤B3):CtP B0 Bi5 [.slice a l.length c,int s] [p] (.bool (decide (s ∈ l))):=by
 refine CtP.of Gp7 rfl fun h r=>Tr.eq (I82 ..) ?_;refine Je ?_;have J:=Jb3 p a ro c l s hl _ 0 rfl (by omega);rw [List.drop_zero] at J;exact Af1 J (r:=r) (by simp) fun o=>⟨rfl,rfl⟩
structure RKS where
 B:BootS
 Q:List (List Bool)
 R:RgS
 T:List RSe
 now:Int
structure RKA where
 A:BA
 q:Nat
 g:Nat
 ta:Option Addr
 tc:Nat
 ts:List Nat
abbrev rkL (K:RKS) (x:RKA):List Value:=[.slice x.A.fa K.B.frames.length x.A.fc,.slice x.A.ea K.B.envs.length x.A.ec,.slice x.A.sa K.B.sects.length x.A.sc,int K.B.lease,.slice x.A.ha K.B.shared.length x.A.hc,P0 x.q,P0 x.g,.slice x.ta K.T.length x.tc,int K.now]
abbrev rkF (w:Nat) (K:RKS) (x:RKA):List HP :=
 [pt w (.cells Gy7 false (rkL K x)),slC false B9 1 x.A.fa K.B.frames.length x.A.fc (K.B.frames.map int),slC false B9 1 x.A.ea K.B.envs.length x.A.ec (K.B.envs.map int),slC false Y4 1 x.A.sa K.B.sects.length x.A.sc (Dm0 x.A.ss K.B.sects),O0 (rsC false) x.A.ss K.B.sects,
   slC false O3 5 x.A.ha K.B.shared.length x.A.hc ((List.zip x.A.hs K.B.shared).flatMap Ae9),O0 (toC false) x.A.hs K.B.shared,
   qtC x.q K.Q,rgC x.g K.R,slC false Bo5 1 x.ta K.T.length x.tc (x.ts.map P0),O0 Hm2 x.ts K.T,pu (BaOk K.B x.A∧x.ts.length=K.T.length)]
def rkC (w:Nat) (K:RKS):HP:=hex fun x=>sl (rkF w K x)
instance {w:Nat} {K:RKS}:Chk (rkC w K) (rkF w K):=⟨rfl⟩
def Al5 (obj n:Int) (to:List Int):Nat→List Int→List NmL × List (List CapS)→List NmL × List (List CapS)
 | _,[],s=>s
 | j,e::l,s=>Al5 obj n to (j+1) l (if e ∈ to then (Ba1 s.1 s.2 j ⟨obj,3,0,n,0,0⟩).2 else s)
def Bt8 (K:RKS) (x:ShareS):RKS :=
 let a:=Bv5 K.R (64*((N6 K.Q x.session.toNat:Int)+x.frame)+x.lo) x.n
 let s:=Al5 a.1.1 x.n x.to 0 K.B.envs (a.2.N,a.2.C)
 { K with R:={ a.2 with N:=s.1,C:=s.2 } }
structure RKOk (K:RKS):Prop where
 R:RgOkS K.R
 nm:K.R.N.length=K.B.envs.length
 q:K.Q.length≤4
 qe:∀ x ∈ K.Q,x.length≤64
theorem It0 {R:RgS} (k:RgOkS R) (lo n:Int):RgOkS (Bv5 R lo n).2∧(Bv5 R lo n).2.N=R.N∧(Bv5 R lo n).2.C=R.C∧(Bv5 R lo n).2.M=R.M:=by
 unfold Bv5
 split
 ·rename_i hw
  split
  ·exact ⟨k,rfl,rfl,rfl⟩
  ·refine ⟨⟨k.sp,by simp [k.eq],by simp;omega,k.mem,fun i l z h1 h2=>?_⟩,rfl,rfl,rfl⟩;simp only at h1 h2 ⊢;by_cases hi:i<R.lo.length
   ·rw [List.getElem?_append_left hi] at h1;rw [List.getElem?_append_left (by rw [k.eq];exact hi)] at h2;exact k.each i l z h1 h2
   ·rw [List.getElem?_append_right (by omega)] at h1;rw [List.getElem?_append_right (by rw [k.eq];omega)] at h2
    have e1:i=R.lo.length:=by
     have:=(List.getElem?_eq_some_iff.1 h1).1;simp at this;omega
    subst e1;simp at h1;rw [k.eq] at h2;simp at h2;subst h1 h2;have hm:=k.mem;unfold Bf2 at hw;simp only [Bool.and_eq_true,decide_eq_true_eq,B8] at hw;omega
 ·exact ⟨k,rfl,rfl,rfl⟩
theorem Eu7 (obj n:Int) (to:List Int):∀ (l:List Int) (j:Nat) (s:List NmL × List (List CapS)),SpOk s.1 s.2→j+l.length≤s.1.length→SpOk (Al5 obj n to j l s).1 (Al5 obj n to j l s).2∧(Al5 obj n to j l s).1.length=s.1.length
 | [],j,s,k,h=>⟨k,rfl⟩
 | e::l,j,s,k,h=>by
  unfold Al5;simp only [List.length_cons] at h
  split
  ·have hs:=Hv2 k j (by omega) ⟨obj,3,0,n,0,0⟩;have:=Eu7 obj n to l (j+1) _ hs.1 (by rw [hs.2];omega);exact ⟨this.1,this.2.trans hs.2⟩
  ·exact Eu7 obj n to l (j+1) s k (by omega)
theorem Ht6 {K:RKS} (k:RKOk K) (x:ShareS):RKOk (Bt8 K x):=by
 have ha:=It0 k.R (64*((N6 K.Q x.session.toNat:Int)+x.frame)+x.lo) x.n;unfold Bt8;generalize Bv5 K.R (64*((N6 K.Q x.session.toNat:Int)+x.frame)+x.lo) x.n=a at ha;obtain ⟨a1,R'⟩:=a;obtain ⟨ha1,ha2,_,_⟩:=ha;simp only at ha1 ha2 ⊢;have hl:R'.N.length=K.B.envs.length:=by rw [ha2];exact k.nm
 have hs:=Eu7 a1.1 x.n x.to K.B.envs 0 (R'.N,R'.C) ha1.sp (by simp only;omega);exact ⟨⟨hs.1,ha1.eq,ha1.few,ha1.mem,ha1.each⟩,hs.2.trans hl,k.q,k.qe⟩
theorem Ho1 (w b i:Nat) (K:RKS) (x:RKA) (Z:ShareS) (y:Option Addr × Nat) (bx:Nat) (obj:Int) (hZ:K.B.shared[i]?=some Z) (hy:x.A.hs[i]?=some y) (hto:Z.to.length≤B3) (h40:K.B.envs.length≤40) (hx:BaOk K.B x.A∧x.ts.length=K.T.length)
  (Rq:RKS→Value→(List HP→Prop)→Prop)
  (next:∀ K':RKS,RKOk K'→K'.B=K.B→K'.Q=K.Q→K'.T=K.T→CtJ H0 J0 Aw2 [(1,P0 b),(3,P0 w),(5,int (IntKind.wrap .i64 ((i:Int)+1)))] (pt b (.cells G7 false (Ai4 K.B x.A))::rkF w K' x) (Rq K')) :
  ∀ (m j:Nat) (K':RKS),RKOk K'→K'.B=K.B→K'.Q=K.Q→K'.T=K.T→K.B.envs.length-j=m→j≤K.B.envs.length →
  CtJ H0 J0 Av9 [(1,P0 b),(3,P0 w),(5,int i),(6,P0 bx),(7,int obj),(9,int j)] (pt bx (.cells O3 false (Ae9 (y,Z)))::pt b (.cells G7 false (Ai4 K.B x.A))::rkF w K' x)
   (Rq { K' with R:={ K'.R with N:=(Al5 obj Z.n Z.to j (K.B.envs.drop j) (K'.R.N,K'.R.C)).1,C:=(Al5 obj Z.n Z.to j (K.B.envs.drop j) (K'.R.N,K'.R.C)).2 } }):=by
 intro m
 induction m with
 | zero =>
  intro j K' ok hB hQ hT hm hj;obtain ⟨⟨fa,fc,ea,ec,sa,sc,ss,ha,hc,hs⟩,q,g,ta,tc,ts⟩:=x;obtain ⟨KB,KQ,KR,KT,Kn⟩:=K';simp only at hB hQ hT;subst hB hQ hT;refine Cj Ap8 (fun _=>D41 ..) fun h r=>?_;refine Ja ?_;intros;refine Yf (by simp;omega) ?_;rw [List.drop_eq_nil_of_le (by omega)];intro o;refine (?_:Tr _ _ _ _) o.tail;refine Yr (next ⟨K.B,K.Q,KR,K.T,Kn⟩ ok rfl rfl rfl) ?_;intro v h q;exact q
 | succ m ih =>
  intro j K' ok hB hQ hT hm hj;have hlt:j<K.B.envs.length:=by omega
  have hp:K.B.envs[j]?=some K.B.envs[j]:=List.getElem?_eq_getElem hlt;have hd:K.B.envs.drop j=K.B.envs[j]::K.B.envs.drop (j+1):=List.drop_eq_getElem_cons hlt;generalize K.B.envs[j]=e at hp hd;have e1:=wN j;obtain ⟨⟨fa,fc,ea,ec,sa,sc,ss,ha,hc,hs⟩,q,g,ta,tc,ts⟩:=x;obtain ⟨KB,KQ,KR,KT,Kn⟩:=K';simp only at hB hQ hT;subst hB hQ hT;have okR:=ok.R;have hnm:=ok.nm;simp only at hnm okR;refine Cj Ap8 (fun _=>D41 ..) fun h r=>?_;refine Ja ?_;intros;refine Yt (by simp;omega) ?_;(refine Ja ?_;intros;repeat(refine Gw ?_;rintro px rfl;refine Ja ?_;intros));rw [Int.toNat_natCast];refine Tr.xIntS (v:=e) (Hj9 hp) ?_;refine Aj4 (toC false) hs K.B.shared hy hZ ?_;obtain ⟨ya,yc⟩:=y;refine Tr.pcall (J62 (toC false (ya,yc) Z) ya false yc Z.to e hto) ?_;refine Je ?_;refine Ja ?_;intros;refine Av1 (toC false) hs K.B.shared i hy hZ ?_;rw [hd,e1];by_cases he:e ∈ Z.to
  ·refine Yt (by simpa using he) ?_
   have er:Al5 obj Z.n Z.to j (e::K.B.envs.drop (j+1)) (KR.N,KR.C)=Al5 obj Z.n Z.to (j+1) (K.B.envs.drop (j+1)) (Ba1 KR.N KR.C j ⟨obj,3,0,Z.n,0,0⟩).2:=by
    show Al5 obj Z.n Z.to (j+1) _ (if e ∈ Z.to then _ else _)=_;rw [if_pos he]
   rw [er];have hs2:=Hv2 okR.sp j (by omega) ⟨obj,3,0,Z.n,0,0⟩;refine B6 (rgC g KR) fun ⟨gq,gla,glc,gza,gzc,gs⟩=>?_;refine Je ?_;refine Ja ?_;intros;dsimp only;refine Je ?_;refine Ja ?_;intros;refine Ye (I75 gs KR.N KR.C okR.sp j (by omega) ⟨obj,3,0,Z.n,0,0⟩) fun h=>?_;intros;simp only [v2];refine Ja ?_;intros;generalize hS:(Ba1 KR.N KR.C j ⟨obj,3,0,Z.n,0,0⟩).2=S2 at hs2;obtain ⟨N2,C2⟩:=S2;refine B1 (rgC g { KR with N:=N2,C:=C2 }) ⟨gq,gla,glc,gza,gzc,gs⟩ ?_;refine Je ?_;refine Yr (ih (j+1) ⟨K.B,K.Q,{ KR with N:=N2,C:=C2 },K.T,Kn⟩ ⟨⟨hs2.1,okR.eq,okR.few,okR.mem,okR.each⟩,hs2.2.trans hnm,ok.q,ok.qe⟩ rfl rfl rfl (by omega) (by omega)) ?_;intro v h q;exact q
  ·refine Yf (by simpa using he) ?_
   have er:Al5 obj Z.n Z.to j (e::K.B.envs.drop (j+1)) (KR.N,KR.C)=Al5 obj Z.n Z.to (j+1) (K.B.envs.drop (j+1)) (KR.N,KR.C):=by
    show Al5 obj Z.n Z.to (j+1) _ (if e ∈ Z.to then _ else _)=_;rw [if_neg he]
   rw [er];refine Yr (ih (j+1) ⟨K.B,K.Q,KR,K.T,Kn⟩ ok rfl rfl rfl (by omega) (by omega)) ?_;intro v h q;exact q
structure RBoot (B:BootS) (Q:List (List Bool)):Prop where
 envs:B.envs.length≤40
 few:B.shared.length≤100
 sects:B.sects.length≤100
 to:∀ x ∈ B.shared,x.to.length≤B3
 ok:∀ x ∈ B.shared,0≤x.session∧x.session≤Q.length∧0≤x.frame∧x.frame≤64∧0≤x.lo∧x.lo≤65536
theorem Hp1 (w b:Nat) (K0:RKS) (x:RKA) (bo:RBoot K0.B K0.Q) (hx:BaOk K0.B x.A∧x.ts.length=K0.T.length):∀ (m i:Nat) (K:RKS),RKOk K→K.B=K0.B→K.Q=K0.Q→K.T=K0.T→K0.B.shared.length-i=m→i≤K0.B.shared.length →
  CtJ H0 J0 Aw2 [(1,P0 b),(3,P0 w),(5,int i)] (pt b (.cells G7 false (Ai4 K0.B x.A))::rkF w K x) fun v own=>v=P0 w∧own (rkF w ((K0.B.shared.drop i).foldl Bt8 K) x):=by
 intro m
 induction m with
 | zero =>
  intro i K ok hB hQ hT hm hi;obtain ⟨⟨fa,fc,ea,ec,sa,sc,ss,ha,hc,hs⟩,q,g,ta,tc,ts⟩:=x;refine Cj Ap8 (fun _=>D44 ..) fun h r=>?_;refine Ja ?_;intros;refine Yf (by simp;omega) ?_;refine Ys fun o=>?_;rw [List.drop_eq_nil_of_le (by omega)];exact ⟨rfl,o.tail⟩
 | succ m ih =>
  intro i K ok hB hQ hT hm hi;have hlt:i<K0.B.shared.length:=by omega
  have hZ:K0.B.shared[i]?=some K0.B.shared[i]:=List.getElem?_eq_getElem hlt;have hd:K0.B.shared.drop i=K0.B.shared[i]::K0.B.shared.drop (i+1):=List.drop_eq_getElem_cons hlt;have hto:=bo.to _ (List.getElem_mem hlt);have hok:=bo.ok _ (List.getElem_mem hlt);generalize K0.B.shared[i]=Z at hZ hd hto hok;have hf:=bo.few;have e1:=wN i;obtain ⟨y,hy⟩:=Hi8 hx.1.hs hZ;obtain ⟨KB,KQ,KR,KT,Kn⟩:=K;simp only at hB hQ hT;subst hB hQ hT;have ok2:=Ht6 ok Z
  have hle:∀ j,N6 K0.Q j≤256:=by
   intro j;unfold N6
   have h1:∀ (l:List (List Bool)),(∀ x ∈ l,x.length≤64)→(l.map List.length).sum≤64*l.length:=by
    intro l
    induction l with
    | nil=>simp
    | cons x l ih2 =>
     intro h;have:=ih2 fun y hy=>h y (List.mem_cons_of_mem _ hy);have:=h x (List.mem_cons_self ..);simp only [List.map_cons,List.sum_cons,List.length_cons];omega
   have h2:=h1 (K0.Q.take j) fun x hx=>ok.qe x (List.mem_of_mem_take hx);have h3:(K0.Q.take j).length≤4:=by rw [List.length_take];have:=ok.q;simp only at this;omega
   omega
  have hq1:=hle Z.session.toNat;have eL:IntKind.wrap .i64 (IntKind.wrap .i64 (64*IntKind.wrap .i64 ((N6 K0.Q Z.session.toNat:Int)+Z.frame))+Z.lo)=64*((N6 K0.Q Z.session.toNat:Int)+Z.frame)+Z.lo:=by rw [B8,B8,B8];omega
  have ha:=It0 ok.R (64*((N6 K0.Q Z.session.toNat:Int)+Z.frame)+Z.lo) Z.n
  have L3:=fun bx obj=>Ho1 w b i ⟨K0.B,K0.Q,KR,K0.T,Kn⟩ x Z y bx obj hZ hy hto bo.envs hx (fun K v own=>v=P0 w∧own (rkF w ((K0.B.shared.drop (i+1)).foldl Bt8 K) x))
   (fun K' okK hB hQ hT=>by rw [e1];exact ih (i+1) K' okK hB hQ hT (by omega) (by omega)) _ 0 ⟨K0.B,K0.Q,(Bv5 KR (64*((N6 K0.Q Z.session.toNat:Int)+Z.frame)+Z.lo) Z.n).2,K0.T,Kn⟩ ⟨ha.1,by simp only;rw [ha.2.1];exact ok.nm,ok.q,ok.qe⟩ rfl rfl rfl rfl (by omega)
  have okR:=ok.R;simp only at okR;obtain ⟨⟨fa,fc,ea,ec,sa,sc,ss,hha,hc,hs⟩,q,g,ta,tc,ts⟩:=x;refine Cj Ap8 (fun _=>D44 ..) fun h r=>?_;refine Ja ?_;intros;refine Yt (by simp;omega) ?_;(refine Ja ?_;intros;repeat(refine Gw ?_;rintro px rfl;refine Ja ?_;intros));rw [Int.toNat_natCast];have hz:=H29 hy hZ;refine Tr.xAggS (xs:=Ae9 (y,Z)) ⟨by omega,by rw [V4 Bz8];have:=hx.1.hs;simp at this ⊢;omega,Av3 Bz8 hz⟩ ?_;refine Yn fun bx h1=>?_;refine Tr.ck rfl ?_;refine Tr.xPAgg (cs':=Ae9 (y,Z)) ⟨Nat.le_of_ble_eq_true rfl,rfl,rfl⟩ fun h=>?_;refine Ja ?_;intros;have J1:=Ha5 q K0.Q Z.session.toNat (by omega) ok.q ok.qe;rw [show ((Z.session.toNat:Nat):Int)=Z.session by omega] at J1;refine Tr.pcall (J1) ?_;refine Je ?_;refine Ja ?_;intros;rw [eL];refine Ye (Jw7 g KR okR (64*((N6 K0.Q Z.session.toNat:Int)+Z.frame)+Z.lo) Z.n) fun h=>?_;intros;simp only [v2];refine Ja ?_;intros;rw [hd];refine Yr (L3 bx (Bv5 KR (64*((N6 K0.Q Z.session.toNat:Int)+Z.frame)+Z.lo) Z.n).1.1) ?_;rintro v h ⟨rfl,o⟩;exact ⟨rfl,o⟩
theorem Hk5 (w b:Nat) (B:BootS) (Q:List (List Bool)) (R:RgS) (bo:RBoot B Q):∀ (m i:Nat) (x:RKA) (T:List RSe),RKOk ⟨B,Q,R,T,0⟩→(BaOk B x.A∧x.ts.length=T.length)→B.sects.length-i=m→i≤B.sects.length→T=List.replicate i (Dp4 B.lease) →
  CtJ H0 J0 Bd3 [(1,P0 b),(3,P0 w),(4,int i)] (pt b (.cells G7 false (Ai4 B x.A))::rkF w ⟨B,Q,R,T,0⟩ x) fun v own=>v=P0 w∧own [rkC w (B.shared.foldl Bt8 ⟨B,Q,R,List.replicate B.sects.length (Dp4 B.lease),0⟩)]:=by
 intro m
 induction m with
 | zero =>
  intro i x T ok hx hm hi hT;obtain rfl:i=B.sects.length:=by omega
  subst hT;have L2:=Hp1 w b ⟨B,Q,R,List.replicate B.sects.length (Dp4 B.lease),0⟩ x bo hx _ 0 ⟨B,Q,R,List.replicate B.sects.length (Dp4 B.lease),0⟩ ok rfl rfl rfl rfl (by omega);obtain ⟨⟨fa,fc,ea,ec,sa,sc,ss,ha,hc,hs⟩,q,g,ta,tc,ts⟩:=x;refine Cj Ap8 (fun _=>D42 ..) fun h r=>?_;refine Ja ?_;intros;refine Yf (by simp) ?_;refine Yr L2 ?_;rintro v h ⟨rfl,o⟩;exact ⟨rfl,Own.shut (f:=rkF w (B.shared.foldl Bt8 ⟨B,Q,R,List.replicate B.sects.length (Dp4 B.lease),0⟩)) _ o⟩
 | succ m ih =>
  intro i x T ok hx hm hi hT;have hlt:i<B.sects.length:=by omega
  have hl:T.length=i:=by rw [hT];simp
  have hs8:=bo.sects;have e1:=wN i;obtain ⟨⟨fa,fc,ea,ec,sa,sc,ss,ha,hc,hs⟩,q,g,ta,tc,ts⟩:=x;have hts:=hx.2;simp only at hts;refine Cj Ap8 (fun _=>D42 ..) fun h r=>?_;refine Ja ?_;intros;refine Yt (by simp;omega) ?_;refine Ja ?_;intros;refine Yc (Ip2 B.lease) ?_;rintro _ h ⟨t,rfl,o⟩<;>(refine Jf o ?_;intros);refine Tr.xApd ?_ (fun a' c' h=>?_);exact ⟨by first|rfl|simp,by first|rfl|simp,by simp only [B3];omega⟩;refine Je ?_;refine Ja ?_;intros;refine Je ?_;rw [e1,show T.length+1=(T++[Dp4 B.lease]).length by simp,show ts.map P0++[Value.pointer (some ⟨t,0,none⟩)]=(ts++[t]).map P0 by simp];refine Bk8 Hm2 ts T t (Dp4 B.lease) hts ?_;refine Ax8 (show BaOk B ⟨fa,fc,ea,ec,sa,sc,ss,ha,hc,hs⟩∧(ts++[t]).length=(T++[Dp4 B.lease]).length from ⟨hx.1,by simp [hts]⟩) ?_;refine Yr (ih (i+1) ⟨⟨fa,fc,ea,ec,sa,sc,ss,ha,hc,hs⟩,q,g,a',c',ts++[t]⟩ (T++[Dp4 B.lease]) ⟨ok.R,ok.nm,ok.q,ok.qe⟩ ⟨hx.1,by simp [hts]⟩ (by omega) (by omega) (by rw [hT];exact List.replicate_succ'.symm)) ?_;rintro v h ⟨rfl,o⟩;exact ⟨rfl,o.sub⟩
def B72 (B:BootS):RKS:=⟨B,Ap2 B.frames,⟨List.replicate (64*N6 (Ap2 B.frames) B.frames.length) 0,[],[],List.replicate B.envs.length (List.replicate 32 (1,false)),List.replicate B.envs.length (List.replicate 32 .zero)⟩,List.replicate B.sects.length (Dp4 B.lease),0⟩
def Dq0 (B:BootS):RKS:=B.shared.foldl Bt8 (B72 B)
theorem Gr3 (l:List Int):∀ x ∈ Ap2 l,x.length≤64:=by
 intro x hx;simp only [Ap2,List.mem_map] at hx;obtain ⟨n,_,rfl⟩:=hx;simp [I6];omega
theorem Ha7 {L:List (List Bool)} (hb:∀ x ∈ L,x.length≤64) (j:Nat):N6 L j≤64*L.length:=by
 have h1:∀ (l:List (List Bool)),(∀ x ∈ l,x.length≤64)→(l.map List.length).sum≤64*l.length:=by
  intro l
  induction l with
  | nil=>simp
  | cons x l ih2 =>
   intro h;have:=ih2 fun y hy=>h y (List.mem_cons_of_mem _ hy);have:=h x (List.mem_cons_self ..);simp only [List.map_cons,List.sum_cons,List.length_cons];omega
 unfold N6;have h2:=h1 (L.take j) fun x hx=>hb x (List.mem_of_mem_take hx);have h3:(L.take j).length≤L.length:=by rw [List.length_take];omega
 omega
theorem H39 {B:BootS} (h4:B.frames.length≤4) (h40:B.envs.length≤40) (T:List RSe):RKOk { B72 B with T:=T }:=by
 have hq:=Ha7 (Gr3 B.frames) B.frames.length;have hl:(Ap2 B.frames).length=B.frames.length:=by simp [Ap2]
 refine ⟨⟨⟨by simpa [B72] using h40,by simp [B72],fun L hL=>?_,fun i L l h1 h2=>?_⟩,rfl,by simp [B72],by simp [B72];omega,fun i lo n h1 h2=>by simp [B72] at h1⟩,by simp [B72],by simpa [B72,Ap2] using h4,Gr3 _⟩
 ·simp only [B72,List.mem_replicate] at hL;rw [hL.2];refine ⟨by simp,fun p hp=>?_⟩;rw [List.mem_replicate] at hp;rw [hp.2];simp
 ·simp only [B72,List.getElem?_replicate] at h1 h2;by_cases hh:i<B.envs.length
  ·rw [if_pos hh] at h1 h2
   cases h1;cases h2;simp
  ·rw [if_neg hh] at h1;cases h1
theorem Gg7:∀ (l:List ShareS) (K:RKS),RKOk K→RKOk (l.foldl Bt8 K)∧(l.foldl Bt8 K).B=K.B
 | [],K,k=>⟨k,rfl⟩
 | x::l,K,k=>by
  have:=Gg7 l (Bt8 K x) (Ht6 k x);exact ⟨this.1,this.2⟩
theorem Jx5 {B:BootS} (h4:B.frames.length≤4) (h40:B.envs.length≤40):RKOk (Dq0 B)∧(Dq0 B).B=B :=
 Gg7 B.shared (B72 B) (H39 h4 h40 _)
instance (priority:=low) {cs:List Value} {n:Nat} [k:LenC cs n]:PartC cs 0 n cs:=⟨Bu5 k.ok⟩
class OneL (cs:List Value):Prop where
 ok:cs.all Value.oneCell=true
instance:OneL []:=⟨rfl⟩
instance {a:Option Addr} {n c:Nat} {cs:List Value} [k:OneL cs]:OneL (.slice a n c::cs):=⟨k.ok⟩
instance {a:Option Addr} {cs:List Value} [k:OneL cs]:OneL (.pointer a::cs):=⟨k.ok⟩
instance {q:IntKind} {n:Int} {cs:List Value} [k:OneL cs]:OneL (.int q n::cs):=⟨k.ok⟩
instance {b:Bool} {cs:List Value} [k:OneL cs]:OneL (.bool b::cs):=⟨k.ok⟩
class LenO (cs:List Value) (n:outParam Nat):Prop where
 ok:cs.length=n
instance:LenO [] 0:=⟨rfl⟩
instance {v:Value} {cs:List Value} {n:Nat} [k:LenO cs n]:LenO (v::cs) (n+1):=⟨by simp [k.ok]⟩
instance (priority:=low) {cs vs:List Value} {n:Nat} [g:LenO vs n] [k:LenC cs n] [o:OneL vs]:SetsC cs 0 vs vs:=⟨Bx3 k.ok g.ok o.ok⟩
class Sm1 (v:Value):Prop where
 ok:Bd7 v v=true
instance {a:Option Addr} {n c:Nat}:Sm1 (.slice a n c):=⟨by simp [Bd7,D77]⟩
instance {a:Option Addr}:Sm1 (.pointer a):=⟨by simp [Bd7,D77]⟩
instance {k:IntKind} {n:Int}:Sm1 (.int k n):=⟨by simp [Bd7]⟩
instance {b:Bool}:Sm1 (.bool b):=⟨by simp [Bd7]⟩
class SmL (cs:List Value):Prop where
 ok:B69 cs cs=true
instance:SmL []:=⟨rfl⟩
instance {v:Value} {cs:List Value} [a:Sm1 v] [b:SmL cs]:SmL (v::cs):=⟨by simp [B69,a.ok,b.ok]⟩
instance {cs:List Value} [k:SmL cs]:SameC (.agg ⟨cs⟩):=⟨k.ok⟩
theorem Ii4 (B:BootS) (A:BA) (ka:BaOk B A) (h4:B.frames.length≤4) (bo:RBoot B (Ap2 B.frames)):Ct B0 J0 [.agg ⟨Ai4 B A⟩] (A91 false B A) fun v own=>∃ w,v=P0 w∧own [rkC w (Dq0 B)]:=by
 have hq:=Ha7 (Gr3 B.frames) B.frames.length;have hl:(Ap2 B.frames).length=B.frames.length:=by simp [Ap2]
 have he:=bo.envs;have e64:IntKind.wrap .i64 (64*(N6 (Ap2 B.frames) B.frames.length:Int))=((64*N6 (Ap2 B.frames) B.frames.length:Nat):Int):=by rw [B8];omega
 have okb:=H39 h4 he [];obtain ⟨fa,fc,ea,ec,sa,sc,ss,ha,hc,hs⟩:=A;refine Co Ap8 (fun _=>Hl8 ..) fun h r=>?_;refine Yn fun b h=>?_;refine Ja ?_;intros;refine Yc (Il9 (slC false B9 1 fa B.frames.length fc (B.frames.map int)) fa fc false B.frames h4) ?_;rintro _ h ⟨q,rfl,o⟩<;>refine Jh o ?_;refine Jc ?_;intros;refine Yn fun w h=>?_;refine Je ?_;refine Ja ?_;intros;refine Tr.pcall (Ha5 q (Ap2 B.frames) B.frames.length (by omega) (by omega) (Gr3 _)) ?_;refine Je ?_;refine Ja ?_;intros;rw [e64];refine Tr.ck ⟨by omega,by omega,by simp only [B3];omega⟩ ?_;rw [Int.toNat_natCast,It9];refine Yn fun bq h=>?_;refine Ja ?_;intros;refine Yc (In8 B.envs.length he) ?_;rintro _ h ⟨s,rfl,o⟩<;>refine Jh o ?_;refine Jc ?_;intros;refine Yn fun g h=>?_;refine Ja ?_;intros;refine G0 false B9 1 (by omega) ?_;refine G0 false B9 1 (by omega) ?_;have eN:Dq0 B=B.shared.foldl Bt8 ⟨B,Ap2 B.frames,⟨List.replicate (64*N6 (Ap2 B.frames) B.frames.length) 0,[],[],List.replicate B.envs.length (List.replicate 32 (1,false)),List.replicate B.envs.length (List.replicate 32 .zero)⟩,List.replicate B.sects.length (Dp4 B.lease),0⟩:=rfl;have okb2:RKOk ⟨B,Ap2 B.frames,⟨List.replicate (64*N6 (Ap2 B.frames) B.frames.length) 0,[],[],List.replicate B.envs.length (List.replicate 32 (1,false)),List.replicate B.envs.length (List.replicate 32 .zero)⟩,[],0⟩:=okb;rw [eN];obtain ⟨M,hM⟩:∃ M:List UInt8,M=List.replicate (64*N6 (Ap2 B.frames) B.frames.length) 0:=⟨_,rfl⟩
 have hl2:64*N6 (Ap2 B.frames) B.frames.length=M.length:=by rw [hM];simp
 rw [← hM] at okb2 ⊢;rw [hl2];refine I3 (rgC g ⟨M,[],[],List.replicate B.envs.length (List.replicate 32 (1,false)),List.replicate B.envs.length (List.replicate 32 .zero)⟩) ⟨bq,none,0,none,0,s⟩ [2,3,0,0,0] rfl ?_;refine Je ?_;refine G0 false Bo5 1 (by omega) ?_;refine Ea4 Hm2 ?_;refine Ax8 (show BaOk B ⟨fa,fc,ea,ec,sa,sc,ss,ha,hc,hs⟩∧([]:List Nat).length=([]:List RSe).length from ⟨ka,rfl⟩) ?_;refine Dq2 (Hk5 w b B (Ap2 B.frames) ⟨M,[],[],List.replicate B.envs.length (List.replicate 32 (1,false)),List.replicate B.envs.length (List.replicate 32 .zero)⟩ bo _ 0 ⟨⟨fa,fc,ea,ec,sa,sc,ss,ha,hc,hs⟩,q,g,none,0,[]⟩ [] okb2 ⟨ka,rfl⟩ rfl (by omega) rfl) [7,4,5,5,5,5,5,5,4,3,2,1,0] rfl ?_;rintro v h ⟨rfl,o⟩;exact ⟨w,rfl,o⟩
theorem Gs3 (w:Nat) (K:RKS) (k:RKOk K) (e:Nat) (he:e<K.B.envs.length) (c:CallS) (h2:c.op=2) (hl:c.b.length≤B3) (p:HP) (ba:Option Addr) (bc:Nat) (ro:Bool) [ks:IsSl p ba ro A9 1 c.b.length bc (A0 c.b)] :
  Ct B0 A13 [P0 w,int e,.agg ⟨Bx7 c ba bc⟩] [rkC w K,p] fun v own=>v=.tuple ⟨[int (Ao9 K.R e c.cap c.at_ c.b).1,int 0,.string (bs [])]⟩∧own [rkC w { K with R:=(Ao9 K.R e c.cap c.at_ c.b).2 },p]:=by
 refine Co Hm5 (fun _=>Hm1 ..) fun h r=>?_;refine Yn fun b1 h=>?_;refine B6 (rkC w K) fun ⟨⟨fa,fc,ea,ec,sa,sc,ss,ha,hc,hs⟩,q,g,ta,tc,ts⟩=>?_;refine Je ?_;refine Ja ?_;intros;refine Yf (by simp;omega) ?_;refine Ja ?_;intros;rw [h2];refine Jd ?_;intros;refine Ye (Ja6 g K.R k.R e c.cap c.at_ c.b) fun h=>?_;intros;refine I3 (rkC w { K with R:=(Ao9 K.R e c.cap c.at_ c.b).2 }) ⟨⟨fa,fc,ea,ec,sa,sc,ss,ha,hc,hs⟩,q,g,ta,tc,ts⟩ [1,1,1,1,1,1,1,1,0,0,0,0] rfl ?_;refine Je ?_;exact Yz
theorem Jx3 {K:RKS} (k:RKOk K) (e cap a:Int) (b:List UInt8):RKOk { K with R:=(Ao9 K.R e cap a b).2 }:=by
 refine ⟨Ja0 k.R e cap a b,?_,k.q,k.qe⟩;simp only;unfold Ao9;split
 ·exact k.nm
 ·exact k.nm
abbrev rcF (m w:Nat) (env:Int) (caps:List Int) (recs:List (Int × Int)) (x:Option Addr × Nat × Option Addr × Nat):List HP :=
 [pt m (.cells Eo2 false [P0 w,int env,.slice x.1 caps.length x.2.1,.slice x.2.2.1 recs.length x.2.2.2]),slC false B9 1 x.1 caps.length x.2.1 (caps.map int),slC false E9 2 x.2.2.1 recs.length x.2.2.2 (recs.flatMap brL)]
def rcC (m w:Nat) (env:Int) (caps:List Int) (recs:List (Int × Int)):HP:=hex fun x=>sl (rcF m w env caps recs x)
instance {m w:Nat} {env:Int} {caps:List Int} {recs:List (Int × Int)}:Chk (rcC m w env caps recs) (rcF m w env caps recs):=⟨rfl⟩
def Dl7 (K:RKS) (e:Nat):List Int:=Bd4 0 (K.R.N.getD e [])
theorem Ex6 (w:Nat) (K:RKS) (k:RKOk K) (e:Nat) (he:e<K.B.envs.length):Ct B0 At1 [P0 w,int e] [rkC w K] fun v own =>
  (Dl7 K e≠[]∧∃ m,v=P0 m∧own [rcC m w e (Dl7 K e) [],rkC w K])∨(Dl7 K e=[]∧v=.pointer none∧own [rkC w K]):=by
 have hn:=k.nm;refine Co Gh0 (fun _=>Gp1 ..) fun h r=>?_;refine B6 (rkC w K) fun ⟨⟨fa,fc,ea,ec,sa,sc,ss,ha,hc,hs⟩,q,g,ta,tc,ts⟩=>?_;refine Je ?_;refine B6 (rgC g K.R) fun ⟨gq,gla,glc,gza,gzc,gs⟩=>?_;refine Je ?_;refine Ja ?_;intros;dsimp only;refine Je ?_;refine Ja ?_;intros;refine Yc (Jb6 gs K.R.N K.R.C k.R.sp e (by omega)) ?_;rintro _ h ⟨a,c,rfl,o⟩<;>(refine Jf o ?_;intros);refine B1 (rgC g K.R) ⟨gq,gla,glc,gza,gzc,gs⟩ ?_;refine Je ?_;have hrc:Dl7 K e=Bd4 0 (K.R.N.getD e []):=rfl;rw [← hrc];by_cases hz:Dl7 K e=[]
 ·refine Yt (by simp [hz]) ?_;refine B1 (rkC w K) ⟨⟨fa,fc,ea,ec,sa,sc,ss,ha,hc,hs⟩,q,g,ta,tc,ts⟩ ?_;refine Je ?_;refine Ys fun o=>?_;exact .inr ⟨hz,rfl,o.sub⟩
 ·refine Yf ?_ ?_
  ·rw [beq_eq_false_iff_ne];intro h0;exact hz (List.eq_nil_of_length_eq_zero (by omega))
  refine Yn fun m h=>?_;refine B1 (rkC w K) ⟨⟨fa,fc,ea,ec,sa,sc,ss,ha,hc,hs⟩,q,g,ta,tc,ts⟩ ?_;refine Je ?_;refine G0 false E9 2 (by omega) ?_;refine I3 (rcC m w e (Dl7 K e) []) (a,c,none,0) [2,2,0] rfl ?_;refine Je ?_;refine Ys fun o=>?_;exact .inl ⟨hz,m,rfl,o.sub⟩
end Go.EQ
