/- A read that found nothing is woken by bytes, and by the end, and by nothing else: till then its picks do nothing. -/
import Derived.Test.YtonlefldpebcpaaGreatDoorMg
set_option linter.all false
set_option maxRecDepth 10000
namespace Go.EQ
open Go Go.NN
abbrev NmL:=List (Int × Bool)
def nmL (p:Int × Bool):List Value:=[int p.1,.bool p.2]
theorem Bv4 (p:Int × Bool):(nmL p).length=2:=rfl
abbrev nmF (n:Nat) (L:NmL) (x:Option Addr × Nat):List HP:=[pt n (.cells E82 false [.slice x.1 L.length x.2]),slC false Br3 2 x.1 L.length x.2 (L.flatMap nmL)]
def nmC (n:Nat) (L:NmL):HP:=hex fun x=>sl (nmF n L x)
instance {n:Nat} {L:NmL}:Chk (nmC n L) (nmF n L):=⟨rfl⟩
def Dj9 (L:NmL):Prop:=L.length≤256∧∀ p ∈ L,0≤p.1∧p.1≤1000001
theorem Dj9.at {L:NmL} (k:Dj9 L) {i:Nat} {p:Int × Bool} (h:L[i]?=some p):0≤p.1∧p.1≤1000001:=k.2 p (List.mem_of_getElem? h)
theorem Dj9.set {L:NmL} (k:Dj9 L) {i:Nat} {p:Int × Bool} (h:0≤p.1∧p.1≤1000001):Dj9 (L.set i p):=⟨by simpa using k.1,fun x hx=>by
 rcases List.mem_or_eq_of_mem_set hx with h1|rfl
 ·exact k.2 x h1
 ·exact h⟩
theorem Hd1 (n size:Nat) (hs:size≤256):∀ (m i:Nat) (L:NmL),size-i=m→i≤size→L=List.replicate i (1,false) →
  CtJ I1 Ae2 A52 [(0,int size),(3,P0 n),(4,int i)] [nmC n L] fun v own=>v=P0 n∧own [nmC n (List.replicate size (1,false))]:=by
 intro m
 induction m with
 | zero =>
  intro i L hm hi hL
  obtain rfl:i=size:=by omega
  subst hL
  refine CtJ.of Db7 fun h r=>Tr.eq (Do7 ..) ?_;refine Je ?_
  (refine Ja ?_;intros)
  refine Yf (by simp) ?_
  refine Ys fun o=>?_
  exact ⟨by first|rfl|trivial,o.sub⟩
 | succ m ih =>
  intro i L hm hi hL
  have hl:L.length=i:=by rw [hL];simp
  have e1:=wN i
  have ea:L.length+1=(L++[((1:Int),false)]).length:=by simp
  have eb:L.flatMap nmL++[Value.int IntKind.i64 1,Value.bool false]=(L++[((1:Int),false)]).flatMap nmL:=by simp [nmL]
  refine CtJ.of Db7 fun h r=>Tr.eq (Do7 ..) ?_;refine Je ?_
  (refine Ja ?_;intros)
  refine Yt (by simp;omega) ?_
  refine B1 (nmC n L) fun ⟨a,c⟩=>?_;refine Je ?_
  (refine Ja ?_;intros)
  refine Tr.xApd ?_ (fun a' c' h=>?_);exact ⟨by first|rfl|simp,by first|rfl|simp,by simp only [A8];omega⟩;refine Je ?_
  (refine Ja ?_;intros)
  refine Je ?_
  rw [e1,ea,eb]
  refine G0 (nmC n (L++[((1:Int),false)])) (a',c') [1,1] rfl ?_;refine Je ?_
  refine Yr (ih (i+1) (L++[((1:Int),false)]) (by omega) (by omega) (by rw [hL,List.replicate_succ'])) ?_
  rintro _ h ⟨rfl,o⟩
  exact ⟨rfl,o.sub⟩
theorem Ie0 (size:Nat) (hs:size≤256):Ct A7 Ae2 [int size] [] fun v own=>∃ n,v=P0 n∧own [nmC n (List.replicate size (1,false))]:=by
 refine Ct.of Db7 rfl fun h r=>Tr.eq (G68 ..) ?_;refine Je ?_
 refine Yn fun n h=>?_
 refine G6 false Br3 2 (by omega) ?_
 refine G0 (nmC n []) (none,0) [1,0] rfl ?_;refine Je ?_
 refine Yr (Hd1 n size hs _ 0 [] rfl (by omega) rfl) ?_
 rintro _ h ⟨rfl,o⟩
 exact ⟨n,rfl,o.sub⟩
def Bp7:Nat→NmL→Option (Nat × Int)
 | _,[]=>none
 | i,p::L=>if p.2=false∧p.1≤1000000 then some (i,p.1) else Bp7 (i+1) L
theorem Gn9:∀ (i j:Nat) (L:NmL) (g:Int),Bp7 i L=some (j,g)→i≤j∧L[j-i]?=some (g,false)∧g≤1000000
 | _,_,[],_,h=>by simp [Bp7] at h
 | i,j,p::L,g,h=>by
  unfold Bp7 at h
  split at h
  ·rename_i hp
   cases h
   obtain ⟨g,b⟩:=p
   obtain ⟨rfl,h2⟩:=hp
   exact ⟨Nat.le_refl _,by simp,h2⟩
  ·obtain ⟨h1,h2,h3⟩:=Gn9 (i+1) j L g h
   refine ⟨by omega,?_,h3⟩
   rw [show j-i=(j-(i+1))+1 by omega];simpa using h2
def Ed2 (L:NmL):Option (Int × NmL):=match Bp7 0 L with
 | some (i,g)=>some (i+256*g,L.set i (g,true))
 | none=>none
theorem Hr7 {L L':NmL} {x:Int} (k:Dj9 L) (h:Ed2 L=some (x,L')):Dj9 L'∧L'.length=L.length∧0≤x∧(x%256).toNat<L.length:=by
 unfold Ed2 at h
 cases hf:Bp7 0 L with
 | none=>rw [hf] at h;cases h
 | some p =>
  obtain ⟨i,g⟩:=p
  rw [hf] at h;cases h
  obtain ⟨_,h2,h3⟩:=Gn9 0 i L g hf
  have h4:=k.at h2
  have h5:=(List.getElem?_eq_some_iff.1 h2).1
  have h6:=k.1
  exact ⟨k.set (by simp only at h4 ⊢;omega),by simp,by simp only at h4;omega,by simp only at h4;omega⟩
theorem Ib7 (n:Nat) (L:NmL) (k:Dj9 L):∀ (m i:Nat),L.length-i=m→i≤L.length →
  CtJ I1 Ab0 A15 [(0,P0 n),(4,int i)] [nmC n L] fun v own=>match Bp7 i (L.drop i) with
   | some (j,g)=>v=.tuple ⟨[int (j+256*g),.bool true]⟩∧own [nmC n (L.set j (g,true))]
   | none=>v=.tuple ⟨[int 0,.bool false]⟩∧own [nmC n L]:=by
 have h256:=k.1
 intro m
 induction m with
 | zero =>
  intro i hm hi
  refine CtJ.of B41 fun h r=>Tr.eq (Dh3 ..) ?_;refine Je ?_
  refine B1 (nmC n L) fun ⟨a,c⟩=>?_;refine Je ?_
  (refine Ja ?_;intros)
  refine Yf (by simp;omega) ?_
  refine A9 (nmC n L) (a,c) ?_;refine Je ?_
  refine Ys fun o=>?_
  rw [List.drop_eq_nil_of_le (by omega)]
  exact ⟨rfl,o.sub⟩
 | succ m ih =>
  intro i hm hi
  have hlt:i<L.length:=by omega
  have hp:L[i]?=some L[i]:=List.getElem?_eq_getElem hlt
  have hd:L.drop i=L[i]::L.drop (i+1):=List.drop_eq_getElem_cons hlt
  generalize L[i]=p at hp hd
  have hk:=k.at hp
  have e1:=wN i
  have e2:IntKind.wrap .i64 ((i:Int)+IntKind.wrap .i64 (256*p.1))=i+256*p.1:=by rw [B4,B4];omega
  refine CtJ.of B41 fun h r=>Tr.eq (Dh3 ..) ?_;refine Je ?_
  refine B1 (nmC n L) fun ⟨a,c⟩=>?_;refine Je ?_
  (refine Ja ?_;intros)
  refine Yt (by simp;omega) ?_
  (refine Ja ?_;intros;repeat(refine Gw ?_;rintro px rfl;refine Ja ?_;intros))
  refine Je ?_
  rw [Int.toNat_natCast]
  refine Tr.xBoolS (v:=p.2) (Bg7 Bv4 hp (j:=1) (by omega)) ?_
  (refine Jb ?_;intros)
  refine Tr.andG (c:=decide (p.1≤1000000)) (fun _=>?_) ?_
  ·(refine Ja ?_;intros)
   refine Je ?_
   refine Tr.xIntS (v:=p.1) (Bg7 Bv4 hp (j:=0) (by omega)) ?_
   exact Jz
  rw [hd]
  by_cases hc:p.2=false∧p.1≤1000000
  ·refine Yt (by simp [hc.1,hc.2]) ?_
   rw [Bp7,if_pos hc]
   (refine Ja ?_;intros)
   refine Je ?_
   refine Tr.xVS (cs':=(L.set i (p.1,true)).flatMap nmL) ⟨by rw [Y6 Bv4];omega,rfl,Gd4 (f:=nmL) (y:=(p.1,true)) Bv4 hp (j:=1) (by omega) rfl⟩ fun h=>?_
   (refine Ja ?_;intros)
   refine Je ?_
   refine Tr.xIntS (v:=p.1) (Bg7 Bv4 (l:=L.set i (p.1,true)) (x:=(p.1,true)) (by simp [hlt]) (j:=0) (by omega)) ?_
   rw [e2]
   have el:L.length=(L.set i (p.1,true)).length:=by simp
   rw [el]
   refine A9 (nmC n (L.set i (p.1,true))) (some px,c) ?_;refine Je ?_
   refine Ys fun o=>?_
   exact ⟨rfl,o.sub⟩
  ·refine Yf (by
    rw [Bool.and_eq_false_iff]
    by_cases h1:p.2=false
    ·right;simp;have:¬ p.1≤1000000:=fun h=>hc ⟨h1,h⟩
     omega
    ·left;simpa using h1) ?_
   rw [Bp7,if_neg hc,e1]
   refine A9 (nmC n L) (some px,c) ?_;refine Je ?_
   refine Yr (ih (i+1) (by omega) (by omega)) ?_
   intro v h q
   cases hf:Bp7 (i+1) (L.drop (i+1)) with
   | none=>rw [hf] at q;exact q
   | some y=>rw [hf] at q;exact q
theorem I59 (n:Nat) (L:NmL) (k:Dj9 L):Ct A7 Ab0 [P0 n] [nmC n L] fun v own=>match Ed2 L with
   | some (x,L')=>v=.tuple ⟨[int x,.bool true]⟩∧own [nmC n L']
   | none=>v=.tuple ⟨[int 0,.bool false]⟩∧own [nmC n L]:=by
 refine Ct.of B41 rfl fun h r=>Tr.eq (Gt1 ..) ?_;refine Je ?_
 refine Yr (Ib7 n L k _ 0 rfl (by omega)) ?_
 intro v h q
 rw [List.drop_zero] at q
 unfold Ed2
 cases hf:Bp7 0 L with
 | none=>rw [hf] at q;exact q
 | some y=>rw [hf] at q;exact q
def Ba5:Nat→NmL→List Int
 | _,[]=>[]
 | i,p::L=>if p.2=true then (i+256*p.1)::Ba5 (i+1) L else Ba5 (i+1) L
theorem Ic8 (n:Nat) (L:NmL) (k:Dj9 L):∀ (m i:Nat) (acc:List Int) (a:Option Addr) (c:Nat),L.length-i=m→i≤L.length→acc.length≤i →
  CtJ I1 V9 An2 [(0,P0 n),(3,.slice a acc.length c),(4,int i)] [slC false B5 1 a acc.length c (acc.map int),nmC n L] fun v own =>
   ∃ a' c',v=.slice a' (acc++Ba5 i (L.drop i)).length c'∧own [slC false B5 1 a' (acc++Ba5 i (L.drop i)).length c' ((acc++Ba5 i (L.drop i)).map int),nmC n L]:=by
 have h256:=k.1
 intro m
 induction m with
 | zero =>
  intro i acc a c hm hi ha
  refine CtJ.of B32 fun h r=>Tr.eq (Di0 ..) ?_;refine Je ?_
  refine B1 (nmC n L) fun ⟨na,nc⟩=>?_;refine Je ?_
  (refine Ja ?_;intros)
  refine Yf (by simp;omega) ?_
  refine A9 (nmC n L) (na,nc) ?_;refine Je ?_
  refine Ys fun o=>?_
  rw [List.drop_eq_nil_of_le (by omega)]
  simp only [Ba5,List.append_nil]
  exact ⟨a,c,rfl,o.sub⟩
 | succ m ih =>
  intro i acc a c hm hi ha
  have hlt:i<L.length:=by omega
  have hp:L[i]?=some L[i]:=List.getElem?_eq_getElem hlt
  have hd:L.drop i=L[i]::L.drop (i+1):=List.drop_eq_getElem_cons hlt
  generalize L[i]=p at hp hd
  have hk:=k.at hp
  have e1:=wN i
  have e2:IntKind.wrap .i64 ((i:Int)+IntKind.wrap .i64 (256*p.1))=i+256*p.1:=by rw [B4,B4];omega
  refine CtJ.of B32 fun h r=>Tr.eq (Di0 ..) ?_;refine Je ?_
  refine B1 (nmC n L) fun ⟨na,nc⟩=>?_;refine Je ?_
  (refine Ja ?_;intros)
  refine Yt (by simp;omega) ?_
  (refine Ja ?_;intros;repeat(refine Gw ?_;rintro px rfl;refine Ja ?_;intros))
  refine Je ?_
  rw [Int.toNat_natCast]
  refine Tr.xBoolS (v:=p.2) (Bg7 Bv4 hp (j:=1) (by omega)) ?_
  rw [hd]
  cases hb:p.2 with
  | true =>
   rw [Ba5,if_pos hb]
   (refine Ja ?_;intros)
   refine Je ?_
   refine Tr.xIntS (v:=p.1) (Bg7 Bv4 hp (j:=0) (by omega)) ?_
   rw [e2]
   (refine Ja ?_;intros)
   refine A9 (nmC n L) (some px,nc) ?_;refine Je ?_
   (refine Ja ?_;intros)
   refine Tr.xApd ?_ (fun a' c' h=>?_);exact ⟨by first|rfl|simp,by first|rfl|simp,by simp only [A8];omega⟩;refine Je ?_
   rw [e1]
   have ih1:=ih (i+1) (acc++[(i:Int)+256*p.1]) a' c' (by omega) (by omega) (by simp;omega)
   simp only [List.append_assoc,List.singleton_append,List.length_append,List.length_cons,List.length_nil,Nat.zero_add,List.map_append,List.map_cons,List.map_nil] at ih1 ⊢
   refine Yr ih1 ?_
   rintro _ h ⟨a2,c2,rfl,o⟩
   exact ⟨a2,c2,rfl,o.sub⟩
  | false =>
   rw [Ba5,if_neg (by simp [hb]),e1]
   (refine Ja ?_;intros)
   refine A9 (nmC n L) (some px,nc) ?_;refine Je ?_
   refine Yr (ih (i+1) acc a c (by omega) (by omega) (by omega)) ?_
   rintro _ h ⟨a2,c2,rfl,o⟩
   exact ⟨a2,c2,rfl,o.sub⟩
theorem I57 (n:Nat) (L:NmL) (k:Dj9 L):Ct A7 V9 [P0 n] [nmC n L] fun v own =>
   ∃ a' c',v=.slice a' (Ba5 0 L).length c'∧own [slC false B5 1 a' (Ba5 0 L).length c' ((Ba5 0 L).map int),nmC n L]:=by
 refine Ct.of B32 rfl fun h r=>Tr.eq (Gv5 ..) ?_;refine Je ?_
 refine G6 false B5 1 (by omega) ?_
 have J:=Ic8 n L k _ 0 [] none 0 rfl (by omega) (by simp)
 simp only [List.drop_zero,List.nil_append,List.length_nil,List.map_nil] at J
 refine Yr J ?_
 rintro _ h ⟨a2,c2,rfl,o⟩
 exact ⟨a2,c2,rfl,o.sub⟩
structure SpA where
 na:Option Addr
 nc:Nat
 ns:List Nat
 ca:Option Addr
 cc:Nat
 cs:List (Option Addr × Nat)
abbrev Do0 (y:Option Addr × Nat) (l:List CapS):HP:=slC false U3 6 y.1 l.length y.2 (l.flatMap A83)
def Bw5 {α:Type} (ys:List (Option Addr × Nat)) (ls:List (List α)):List Value:=List.zipWith (fun y l=>Value.slice y.1 l.length y.2) ys ls
theorem Gs9 {α:Type} {ys:List (Option Addr × Nat)} {ls:List (List α)} {i:Nat} {y:Option Addr × Nat} {l:List α} (hy:ys[i]?=some y) (hl:ls[i]?=some l):(Bw5 ys ls)[i]?=some (.slice y.1 l.length y.2):=by
 rw [Bw5,List.getElem?_zipWith,hy,hl]
theorem Gw8 {α:Type} {ys:List (Option Addr × Nat)} {ls:List (List α)} (y:Option Addr × Nat) (l:List α) (h:ys.length=ls.length):Bw5 (ys++[y]) (ls++[l])=Bw5 ys ls++[.slice y.1 l.length y.2]:=by
 unfold Bw5;rw [List.zipWith_append h];rfl
theorem I64 {α:Type} {ys:List (Option Addr × Nat)} {ls:List (List α)} {i:Nat} {l l':List α} (hl:ls[i]?=some l) (he:l'.length=l.length):Bw5 ys (ls.set i l')=Bw5 ys ls:=by
 refine List.ext_getElem? fun j=>?_
 unfold Bw5
 rw [List.getElem?_zipWith,List.getElem?_zipWith]
 by_cases hij:i=j
 ·subst hij
  rw [List.getElem?_set_self (List.getElem?_eq_some_iff.1 hl).1,hl]
  cases ys[i]?<;>simp [he]
 ·rw [List.getElem?_set_ne hij]
theorem G96 {α β:Type} {ts:List α} {i:Nat} {xs:List β} {x:β} (hl:ts.length=xs.length) (hx:xs[i]?=some x):∃ t,ts[i]?=some t:=by
 have:=(List.getElem?_eq_some_iff.1 hx).1
 exact ⟨ts[i],List.getElem?_eq_getElem (by omega)⟩
abbrev Jr6 (s:Nat) (N:List NmL) (C:List (List CapS)) (x:SpA):List HP :=
 [pt s (.cells E73 false [.slice x.na N.length x.nc,.slice x.ca C.length x.cc]),slC false Bd9 1 x.na N.length x.nc (x.ns.map P0),N0 nmC x.ns N,
   slC false By7 1 x.ca C.length x.cc (Bw5 x.cs C),N0 Do0 x.cs C,pu (x.ns.length=N.length∧x.cs.length=C.length)]
def Ap7 (s:Nat) (N:List NmL) (C:List (List CapS)):HP:=hex fun x=>sl (Jr6 s N C x)
instance {s:Nat} {N:List NmL} {C:List (List CapS)}:Chk (Ap7 s N C) (Jr6 s N C):=⟨rfl⟩
structure SpOk (N:List NmL) (C:List (List CapS)):Prop where
 len:N.length≤40
 eq:C.length=N.length
 nm:∀ L ∈ N,Dj9 L
 same:∀ (i:Nat) (L:NmL) (l:List CapS),N[i]?=some L→C[i]?=some l→l.length=L.length
theorem Es0 (c:CapS):(A83 c).length=6:=rfl
theorem SpOk.at {N:List NmL} {C:List (List CapS)} (k:SpOk N C) {i:Nat} {L:NmL} (h:N[i]?=some L):Dj9 L:=k.nm L (List.mem_of_getElem? h)
theorem Hc0 (s envs:Nat) (he:envs≤40):∀ (m i:Nat) (N:List NmL) (C:List (List CapS)),envs-i=m→i≤envs→N=List.replicate i (List.replicate 32 (1,false))→C=List.replicate i (List.replicate 32 .zero) →
  CtJ I1 Ad6 A43 [(0,int envs),(3,P0 s),(4,int i)] [Ap7 s N C] fun v own=>v=P0 s∧own [Ap7 s (List.replicate envs (List.replicate 32 (1,false))) (List.replicate envs (List.replicate 32 .zero))]:=by
 intro m
 induction m with
 | zero =>
  intro i N C hm hi hN hC
  obtain rfl:i=envs:=by omega
  subst hN hC
  refine CtJ.of Db2 fun h r=>Tr.eq (Dq1 ..) ?_;refine Je ?_
  (refine Ja ?_;intros)
  refine Yf (by simp) ?_
  refine Ys fun o=>?_
  exact ⟨by first|rfl|trivial,o.sub⟩
 | succ m ih =>
  intro i N C hm hi hN hC
  have hl:N.length=i:=by rw [hN];simp
  have hl2:C.length=i:=by rw [hC];simp
  have e1:=wN i
  have ea:N.length+1=(N++[List.replicate 32 ((1:Int),false)]).length:=by simp
  have eb:C.length+1=(C++[List.replicate 32 CapS.zero]).length:=by simp
  refine CtJ.of Db2 fun h r=>Tr.eq (Dq1 ..) ?_;refine Je ?_
  (refine Ja ?_;intros)
  refine Yt (by simp;omega) ?_
  refine B1 (Ap7 s N C) fun ⟨na,nc,ns,ca,cc,cs⟩=>?_;refine Je ?_
  refine O5 5 rfl fun hp=>?_
  (refine Ja ?_;intros)
  refine Yc (Ie0 32 (by omega)) ?_;rintro _ h ⟨n,rfl,o⟩<;>(refine Jf o ?_;intros)
  refine Tr.xApd (new:=[P0 n]) ⟨rfl,rfl,by simp only [A8];omega⟩ fun a' c' h'=>?_
  refine Je ?_
  (refine Ja ?_;intros)
  refine Tr.ck ⟨by omega,by omega,by simp [A8]⟩ ?_
  refine Yn fun bc h=>?_
  rw [show E7 32 [.int .i64 0,.int .i64 0,.int .i64 0,.int .i64 0,.int .i64 0,.int .i64 0]=(List.replicate 32 CapS.zero).flatMap A83 by rfl]
  refine Ah3 0 rfl 6 32 rfl (by omega) ?_
  refine Je ?_
  (refine Ja ?_;intros)
  refine Tr.xApd (new:=[.slice (some ⟨bc,0,none⟩) 32 32]) ⟨rfl,rfl,by simp only [A8];omega⟩ fun a2 c2 h2=>?_
  refine Je ?_
  (refine Ja ?_;intros)
  rw [e1]
  rw [ea,eb,show ns.map P0++[P0 n]=(ns++[n]).map P0 by simp,show Bw5 cs C++[.slice (some ⟨bc,0,none⟩) 32 32]=Bw5 (cs++[(some ⟨bc,0,none⟩,32)]) (C++[List.replicate 32 CapS.zero]) from (Gw8 (some ⟨bc,0,none⟩,32) (List.replicate 32 CapS.zero) hp.2).symm]
  refine Bf2 nmC ns N n (List.replicate 32 ((1:Int),false)) hp.1 ?_
  refine G51 (slC false U3 6 (some ⟨bc,0,none⟩) 32 32 ((List.replicate 32 CapS.zero).flatMap A83)) (Do0 (some ⟨bc,0,none⟩,32) (List.replicate 32 CapS.zero)) rfl ?_
  refine Bf2 Do0 cs C (some ⟨bc,0,none⟩,32) (List.replicate 32 CapS.zero) hp.2 ?_
  refine Aw3 (show (ns++[n]).length=(N++[List.replicate 32 ((1:Int),false)]).length∧(cs++[((some ⟨bc,0,none⟩:Option Addr),32)]).length=(C++[List.replicate 32 CapS.zero]).length by simp [hp.1,hp.2]) ?_
  refine Je ?_
  refine A9 (Ap7 s (N++[List.replicate 32 ((1:Int),false)]) (C++[List.replicate 32 CapS.zero])) ⟨a',c',ns++[n],a2,c2,cs++[(some ⟨bc,0,none⟩,32)]⟩ ?_;refine Je ?_
  refine Yr (ih (i+1) (N++[List.replicate 32 ((1:Int),false)]) (C++[List.replicate 32 CapS.zero]) (by omega) (by omega) (by rw [hN];exact List.replicate_succ'.symm) (by rw [hC];exact List.replicate_succ'.symm)) ?_
  rintro _ h ⟨rfl,o⟩
  exact ⟨rfl,o.sub⟩
theorem H67 (envs:Nat) (he:envs≤40):Ct A7 Ad6 [int envs] [] fun v own=>∃ s,v=P0 s∧own [Ap7 s (List.replicate envs (List.replicate 32 (1,false))) (List.replicate envs (List.replicate 32 .zero))]:=by
 refine Ct.of Db2 rfl fun h r=>Tr.eq (G21 ..) ?_;refine Je ?_
 refine Yn fun s h=>?_
 refine G6 false Bd9 1 (by omega) ?_
 refine G6 false By7 1 (by omega) ?_
 refine D20 nmC ?_
 refine D20 Do0 ?_
 refine Aw3 (show ([]:List Nat).length=([]:List NmL).length∧([]:List (Option Addr × Nat)).length=([]:List (List CapS)).length from ⟨rfl,rfl⟩) ?_
 refine G0 (Ap7 s [] []) ⟨none,0,[],none,0,[]⟩ [5,4,2,2,1,0] rfl ?_;refine Je ?_
 refine Yr (Hc0 s envs he _ 0 [] [] rfl (by omega) rfl rfl) ?_
 rintro _ h ⟨rfl,o⟩
 exact ⟨s,rfl,o.sub⟩
theorem Gr4 (s:Nat) (N:List NmL) (C:List (List CapS)) (e:Int):CtP A7 Ao4 [P0 s,int e] [Ap7 s N C] (.bool (decide (0≤e∧e<N.length))):=by
 refine CtP.of Gr7 rfl fun h r=>Tr.eq (Gw0 ..) ?_;refine Je ?_
 refine B1 (Ap7 s N C) fun ⟨na,nc,ns,ca,cc,cs⟩=>?_;refine Je ?_
 (refine Ja ?_;intros)
 refine Ys fun o=>?_
 refine ⟨?_,rfl⟩
 refine congrArg Value.bool ?_;rw [Bool.eq_iff_iff];simp only [Bool.and_eq_true,Bool.or_eq_true,Bool.not_eq_true',Bool.not_eq_false',decide_eq_true_eq,decide_eq_false_iff_not,bne_iff_ne,beq_iff_eq,ne_eq,B4,Z9,Ae3,ge_iff_le,gt_iff_lt];first|done|omega
def Bz7 (N:List NmL) (C:List (List CapS)) (e:Nat) (c:CapS):(Int × Int) × (List NmL × List (List CapS)) :=
 match Ed2 (N.getD e []) with
 | some (x,L)=>((x,0),(N.set e L,C.set e ((C.getD e []).set (x%256).toNat c)))
 | none=>((0,4),(N,C))
theorem Iz8 {N:List NmL} {C:List (List CapS)} (k:SpOk N C) (e:Nat) (he:e<N.length) (c:CapS):SpOk (Bz7 N C e c).2.1 (Bz7 N C e c).2.2∧(Bz7 N C e c).2.1.length=N.length:=by
 unfold Bz7
 have hN:=Q6 [] he
 cases ha:Ed2 (N.getD e []) with
 | none=>exact ⟨k,rfl⟩
 | some y =>
  obtain ⟨x,L⟩:=y
  obtain ⟨h1,h2,h3,h4⟩:=Hr7 (k.at hN) ha
  refine ⟨⟨by simpa using k.len,by simpa using k.eq,fun L' hL=>?_,fun i L' l' hi hl=>?_⟩,by simp⟩
  ·rcases List.mem_or_eq_of_mem_set hL with h|rfl
   ·exact k.nm _ h
   ·exact h1
  ·by_cases hei:e=i
   ·subst hei
    have hC:=Q6 [] (show e<C.length by rw [k.eq];exact he)
    simp only [List.getElem?_set_self he,List.getElem?_set_self (show e<C.length by rw [k.eq];exact he),Option.some.injEq] at hi hl
    subst hi hl
    rw [List.length_set,h2];exact k.same e _ _ hN hC
   ·simp only [List.getElem?_set_ne hei] at hi hl
    exact k.same i _ _ hi hl
theorem I16 (s:Nat) (N:List NmL) (C:List (List CapS)) (k:SpOk N C) (e:Nat) (he:e<N.length) (c:CapS):Ct A7 Bf3 [P0 s,int e,.agg ⟨A83 c⟩] [Ap7 s N C] fun v own =>
  v=v2 (Bz7 N C e c).1∧own [Ap7 s (Bz7 N C e c).2.1 (Bz7 N C e c).2.2]:=by
 have hN:=Q6 [] he
 have he2:e<C.length:=by rw [k.eq];exact he
 have hC:=Q6 [] he2
 have hsame:=k.same e _ _ hN hC
 refine Ct.of Gr9 rfl fun h r=>Tr.eq (Gx8 ..) ?_;refine Je ?_
 refine B1 (Ap7 s N C) fun ⟨na,nc,ns,ca,cc,cs⟩=>?_;refine Je ?_
 refine O5 5 rfl fun hp=>?_
 obtain ⟨n,hn⟩:=Dp8 hp.1 hN
 obtain ⟨y,hy⟩:=G96 hp.2 hC
 (refine Ja ?_;intros;repeat(refine Gw ?_;rintro px rfl;refine Ja ?_;intros))
 rw [Int.toNat_natCast]
 refine Je ?_
 refine Tr.xPtrS (v:=some ⟨n,0,none⟩) (by simp [hn]) ?_
 refine Ah8 nmC ns N hn hN ?_
 refine Yc (I59 n (N.getD e []) (k.at hN)) ?_
 intro v h q
 have hs:Bz7 N C e c=match Ed2 (N.getD e []) with
   | some (x,L)=>((x,0),(N.set e L,C.set e ((C.getD e []).set (x%256).toNat c)))
   | none=>((0,4),(N,C)):=rfl
 cases ha:Ed2 (N.getD e []) with
 | none =>
  rw [ha] at q hs
  obtain ⟨rfl,o⟩:=q
  refine (?_:Tr _ _ _ _) o
  refine Je ?_
  (refine Ja ?_;intros)
  refine As7 nmC ns N e hn hN ?_
  refine A9 (Ap7 s N C) ⟨some px,nc,ns,ca,cc,cs⟩ ?_;refine Je ?_
  refine Ys fun o=>?_
  rw [hs];exact ⟨rfl,o.sub⟩
 | some z =>
  obtain ⟨x,L⟩:=z
  rw [ha] at q hs
  obtain ⟨rfl,o⟩:=q
  obtain ⟨h1,h2,h3,h4⟩:=Hr7 (k.at hN) ha
  refine (?_:Tr _ _ _ _) o
  refine Je ?_
  (refine Ja ?_;intros;repeat(refine Gw ?_;rintro px rfl;refine Ja ?_;intros))
  refine Je ?_
  refine Tr.xSlS (x:=y.1) (y:=(C.getD e []).length) (z:=y.2) (Gs9 hy hC) ?_
  refine Dj3 nmC ns N e L hn hN ?_
  refine Ah8 Do0 cs C hy hC ?_
  rw [D56]
  obtain ⟨ya,yc⟩:=y
  (refine Ja ?_;intros;repeat(refine Gw ?_;rintro px rfl;refine Ja ?_;intros))
  have hlt:(x%256).toNat<(C.getD e []).length:=by omega
  refine Tr.xPAggS (cs':=((C.getD e []).set (x%256).toNat c).flatMap A83) ⟨by simp,?_,rfl,H97 (f:=A83) (y:=c) Es0 hlt⟩ fun h=>?_
  ·rw [Y6 Es0]
   show (x%256).toNat*6+6≤_
   omega
  refine G51 (slC false U3 6 (some px) (C.getD e []).length yc (((C.getD e []).set (x%256).toNat c).flatMap A83)) (Do0 (some px,yc) ((C.getD e []).set (x%256).toNat c)) (by simp only [Do0,List.length_set]) ?_
  refine Dj3 Do0 cs C e ((C.getD e []).set (x%256).toNat c) hy hC ?_
  have e1:N.length=(N.set e L).length:=by simp
  have e2:C.length=(C.set e ((C.getD e []).set (x%256).toNat c)).length:=by simp
  have e3:Bw5 cs C=Bw5 cs (C.set e ((C.getD e []).set (x%256).toNat c)):=(I64 hC (by simp)).symm
  refine Aw3 (show ns.length=(N.set e L).length∧cs.length=(C.set e ((C.getD e []).set (x%256).toNat c)).length by rw [← e1,← e2];exact hp) ?_
  rw [e3,e1,e2]
  refine G0 (Ap7 s (N.set e L) (C.set e ((C.getD e []).set (x%256).toNat c))) ⟨some _,nc,ns,some _,cc,cs⟩ [4,4,2,3,1,0] rfl ?_;refine Je ?_
  refine Ys fun o=>?_
  rw [hs];exact ⟨rfl,o.sub⟩
def Ho9 (c:CapS):Bool:=!(decide (c.rights<0) || decide (c.rights>7) || decide (c.lo<0) || decide (c.lo>65536) || decide (c.n<0) || decide (c.n>65536))
def A55 (N:List NmL) (C:List (List CapS)) (e:Nat) (c:CapS):(Int × Int) × (List NmL × List (List CapS)) :=
 if Ho9 c=true then Bz7 N C e { c with rEnv:=0,rName:=0 } else ((0,1),(N,C))
theorem I53 (s:Nat) (N:List NmL) (C:List (List CapS)) (k:SpOk N C) (e:Nat) (he:e<N.length) (c:CapS):Ct A7 Bi2 [P0 s,int e,.agg ⟨A83 c⟩] [Ap7 s N C] fun v own =>
  v=v2 (A55 N C e c).1∧own [Ap7 s (A55 N C e c).2.1 (A55 N C e c).2.2]:=by
 refine Ct.of Gw1 rfl fun h r=>Tr.eq (Gu8 ..) ?_;refine Je ?_
 refine Yn fun b h=>?_
 refine Tr.pcall (Gr4 s N C e) ?_;refine Je ?_;(refine Jb ?_;intros)
 rw [show decide (0≤(e:Int)∧(e:Int)<N.length)=true by simp;omega]
 (refine Ja ?_;intros)
 cases hk:Ho9 c with
 | false =>
  have e1:A55 N C e c=((0,1),(N,C)):=by unfold A55;rw [if_neg (by simp [hk])]
  refine Yt ?_ ?_
  ·unfold Ho9 at hk;rw [Bool.not_eq_false'] at hk;simp only [Bool.not_true,Bool.false_or];exact hk
  refine Ys fun o=>?_
  rw [e1];exact ⟨rfl,o.sub⟩
 | true =>
  have e1:A55 N C e c=Bz7 N C e { c with rEnv:=0,rName:=0 }:=by unfold A55;rw [if_pos hk]
  refine Yf ?_ ?_
  ·unfold Ho9 at hk;rw [Bool.not_eq_true'] at hk;simp only [Bool.not_true,Bool.false_or];exact hk
  rw [e1]
  (refine Ja ?_;intros)
  refine Yc (I16 s N C k e he { c with rEnv:=0,rName:=0 }) ?_;rintro _ h ⟨rfl,o⟩<;>(refine Jf o ?_;intros)
  refine Ys fun o=>?_
  exact ⟨rfl,o.sub⟩
theorem Hh0 {N:List NmL} {C:List (List CapS)} (k:SpOk N C) (e:Nat) (he:e<N.length) (c:CapS):SpOk (A55 N C e c).2.1 (A55 N C e c).2.2∧(A55 N C e c).2.1.length=N.length:=by
 unfold A55;split
 ·exact Iz8 k e he _
 ·exact ⟨k,rfl⟩
def Df3 (L:NmL) (name:Int):Bool:=decide (0≤name) && (match L[(name%256).toNat]? with
 | some p=>p.2 && p.1==name / 256
 | none=>false)
theorem I75 (n:Nat) (L:NmL) (name:Int):CtP A7 Bg9 [P0 n,int name] [nmC n L] (.bool (Df3 L name)):=by
 refine CtP.of Gu5 rfl fun h r=>Tr.eq (Gx2 ..) ?_;refine Je ?_
 rw [D56]
 refine B1 (nmC n L) fun ⟨a,c⟩=>?_;refine Je ?_
 refine Tr.andG (c:=decide (name%256<L.length)) (fun hb=>?_) ?_
 ·exact Jz
 by_cases h0:0≤name
 ·have e0:decide (name≥0)=true:=by simpa using h0
  rw [e0,Bool.true_and]
  by_cases h1:name%256<L.length
  ·rw [decide_eq_true h1]
   have hlt:(name%256).toNat<L.length:=by omega
   have hp:L[(name%256).toNat]?=some L[(name%256).toNat]:=List.getElem?_eq_getElem hlt
   generalize L[(name%256).toNat]=p at hp
   have e1:Df3 L name=(p.2 && p.1==name / 256):=by unfold Df3;rw [hp,decide_eq_true h0,Bool.true_and]
   refine Tr.andG (c:=p.2) (fun hb=>?_) ?_
   ·(refine Ja ?_;intros;repeat(refine Gw ?_;rintro px rfl;refine Ja ?_;intros))
    refine Je ?_
    refine Tr.xBoolS (v:=p.2) (Bg7 Bv4 hp (j:=1) (by omega)) ?_
    exact Jz
   refine Tr.andG (c:=p.1==name / 256) (fun hb=>?_) ?_
   ·(refine Ja ?_;intros;repeat(refine Gw ?_;rintro px rfl;refine Ja ?_;intros))
    refine Je ?_
    refine Tr.xIntS (v:=p.1) (Bg7 Bv4 hp (j:=0) (by omega)) ?_
    refine Ys fun o=>?_
    rw [show Int.fdiv name (2 ^ 8)=name / 256 by rw [Int.fdiv_eq_ediv_of_nonneg _ (by omega)];rfl]
    exact ⟨rfl,rfl⟩
   refine Ys fun o=>?_
   rw [e1,Bool.true_and];exact ⟨rfl,rfl⟩
  ·rw [decide_eq_false h1]
   refine Yb (Yf rfl ?_)
   refine Ys fun o=>(?_:Tr _ _ _ _) o;refine Je ?_
   refine Yb (Yf rfl ?_)
   refine Ys fun o=>(?_:Tr _ _ _ _) o;refine Je ?_
   refine Ys fun o=>?_
   have:Df3 L name=false:=by unfold Df3;rw [List.getElem?_eq_none (by omega)];simp
   rw [this];exact ⟨rfl,rfl⟩
 ·have e0:decide (name≥0)=false:=by simp;omega
  rw [e0]
  refine Yb (Yf rfl ?_)
  refine Ys fun o=>(?_:Tr _ _ _ _) o;refine Je ?_
  refine Yb (Yf rfl ?_)
  refine Ys fun o=>(?_:Tr _ _ _ _) o;refine Je ?_
  refine Ys fun o=>?_
  have:Df3 L name=false:=by unfold Df3;rw [decide_eq_false h0];rfl
  rw [this];exact ⟨rfl,rfl⟩
def Da1 (N:List NmL) (C:List (List CapS)) (e name:Int):Option CapS:=match idx N e with
 | some L=>if Df3 L name=true then (C.getD e.toNat [])[(name%256).toNat]? else none
 | none=>none
def Je4 (c:Option CapS):Value:=.tuple ⟨[.agg ⟨A83 (c.getD .zero)⟩,int (if c.isSome then 0 else 2)]⟩
theorem I94 {L:NmL} {name:Int} (h:Df3 L name=true):0≤name∧(name%256).toNat<L.length:=by
 unfold Df3 at h
 rw [Bool.and_eq_true] at h
 obtain ⟨h1,h2⟩:=h
 refine ⟨by simpa using h1,?_⟩
 cases hl:L[(name%256).toNat]? with
 | none=>rw [hl] at h2;cases h2
 | some p=>exact (List.getElem?_eq_some_iff.1 hl).1
theorem Iy2 (s:Nat) (N:List NmL) (C:List (List CapS)) (k:SpOk N C) (e name:Int):Ct A7 Bf5 [P0 s,int e,int name] [Ap7 s N C] fun v own=>v=Je4 (Da1 N C e name)∧own [Ap7 s N C]:=by
 refine Ct.of Gt5 rfl fun h r=>Tr.eq (Gu6 ..) ?_;refine Je ?_
 refine Yn fun b0 h=>?_
 refine Tr.pcall (Gr4 s N C e) ?_;refine Je ?_;(refine Jb ?_;intros)
 cases hi:idx N e with
 | none =>
  have hn:=B36 hi
  have e1:Da1 N C e name=none:=by unfold Da1;rw [hi]
  rw [decide_eq_false hn]
  refine Yb (Yt rfl ?_)
  refine Ys fun o=>(?_:Tr _ _ _ _) o;refine Je ?_
  (refine Ja ?_;intros)
  refine Ys fun o=>?_
  rw [e1];exact ⟨rfl,o.sub⟩
 | some L =>
  obtain ⟨h1,h2,h3⟩:=A86 hi
  rw [decide_eq_true ⟨h1,h2⟩]
  have he2:e.toNat<C.length:=by rw [k.eq];omega
  have hC:=Q6 [] he2
  have hsame:=k.same e.toNat _ _ h3 hC
  refine B1 (Ap7 s N C) fun ⟨na,nc,ns,ca,cc,cs⟩=>?_;refine Je ?_
  refine O5 5 rfl fun hp=>?_
  obtain ⟨n,hn⟩:=G96 hp.1 h3
  obtain ⟨⟨ya,yc⟩,hy⟩:=G96 hp.2 hC
  refine Yb (Yf rfl ?_)
  (refine Ja ?_;intros;repeat(refine Gw ?_;rintro px rfl;refine Ja ?_;intros))
  refine Tr.xPtrS (v:=some ⟨n,0,none⟩) (by simp [hn]) ?_
  refine Ah8 nmC ns N hn h3 ?_
  refine Tr.pcall (I75 n L name) ?_;refine Je ?_;(refine Ja ?_;intros)
  refine As7 nmC ns N e.toNat hn h3 ?_
  refine Ys fun o=>(?_:Tr _ _ _ _) o;refine Je ?_
  cases hh:Df3 L name with
  | false =>
   have e1:Da1 N C e name=none:=by unfold Da1;rw [hi];exact if_neg (by simp [hh])
   (refine Ja ?_;intros)
   refine G0 (Ap7 s N C) ⟨some px,nc,ns,ca,cc,cs⟩ [1,1,0,0,0,0] rfl ?_;refine Je ?_
   refine Ys fun o=>?_
   rw [e1];exact ⟨rfl,o.sub⟩
  | true =>
   obtain ⟨hl1,hl2⟩:=I94 hh
   have hlt:(name%256).toNat<(C.getD e.toNat []).length:=by omega
   have hc:(C.getD e.toNat [])[(name%256).toNat]?=some (C.getD e.toNat [])[(name%256).toNat]:=List.getElem?_eq_getElem hlt
   have e1:Da1 N C e name=some (C.getD e.toNat [])[(name%256).toNat]:=by unfold Da1;rw [hi];exact (if_pos hh).trans hc
   generalize (C.getD e.toNat [])[(name%256).toNat]=c at hc e1
   (refine Ja ?_;intros;repeat(refine Gw ?_;rintro px rfl;refine Ja ?_;intros))
   refine Tr.xSlS (x:=ya) (y:=(C.getD e.toNat []).length) (z:=yc) (Gs9 hy hC) ?_
   refine Ah8 Do0 cs C hy hC ?_
   rw [D56]
   (refine Ja ?_;intros;repeat(refine Gw ?_;rintro px rfl;refine Ja ?_;intros))
   refine Tr.xAggS (xs:=A83 c) ⟨by omega,?_,Bi8 Es0 hc⟩ ?_
   ·rw [Y6 Es0];omega
   (refine Ja ?_;intros)
   refine As7 Do0 cs C e.toNat hy hC ?_
   refine G0 (Ap7 s N C) ⟨some _,nc,ns,some _,cc,cs⟩ [2,2,1,1,0,0] rfl ?_;refine Je ?_
   refine Ys fun o=>?_
   rw [e1];exact ⟨rfl,o.sub⟩
theorem Iz7 (s:Nat) (N:List NmL) (C:List (List CapS)) (k:SpOk N C) (e:Nat) (he:e<N.length):Ct A7 Bh5 [P0 s,int e] [Ap7 s N C] fun v own =>
  ∃ a c,v=.slice a (Ba5 0 (N.getD e [])).length c∧own [slC false B5 1 a (Ba5 0 (N.getD e [])).length c ((Ba5 0 (N.getD e [])).map int),Ap7 s N C]:=by
 have hN:=Q6 [] he
 refine Ct.of Gu7 rfl fun h r=>Tr.eq (Gx0 ..) ?_;refine Je ?_
 refine Tr.pcall (Gr4 s N C e) ?_;refine Je ?_;(refine Jb ?_;intros)
 refine Yf (by simp;omega) ?_
 refine B1 (Ap7 s N C) fun ⟨na,nc,ns,ca,cc,cs⟩=>?_;refine Je ?_
 refine O5 5 rfl fun hp=>?_
 obtain ⟨n,hn⟩:=G96 hp.1 hN
 (refine Ja ?_;intros;repeat(refine Gw ?_;rintro px rfl;refine Ja ?_;intros))
 rw [Int.toNat_natCast]
 refine Je ?_
 refine Tr.xPtrS (v:=some ⟨n,0,none⟩) (by simp [hn]) ?_
 refine Ah8 nmC ns N hn hN ?_
 refine Yc (I57 n (N.getD e []) (k.at hN)) ?_;rintro _ h ⟨a,c,rfl,o⟩<;>(refine Jf o ?_;intros)
 refine As7 nmC ns N e hn hN ?_
 refine G0 (Ap7 s N C) ⟨some px,nc,ns,ca,cc,cs⟩ [2,2,0,1,1,1] rfl ?_;refine Je ?_
 refine Ys fun o=>?_
 exact ⟨a,c,rfl,o.sub⟩
def Bc8 (a n size:Int):Bool:=decide (a≥0) && decide (n≥0) && decide (a≤size) && decide (n≤IntKind.wrap .i64 (size-a))
theorem I01 (a n size:Int):CtP A7 Al6 [int a,int n,int size] [] (.bool (Bc8 a n size)):=by
 refine CtP.of Hn6 rfl fun h r=>Tr.eq (Hm9 ..) ?_;refine Je ?_
 exact Jz
instance {a n size:Int} {l:List HP}:PCi A7 Al6 [.int .i64 a,.int .i64 n,.int .i64 size] l (.bool (Bc8 a n size)):=PCi.of (I01 a n size)
structure RgS where
 M:List UInt8
 lo:List Int
 n:List Int
 N:List NmL
 C:List (List CapS)
structure RgA where
 q:Nat
 la:Option Addr
 lc:Nat
 za:Option Addr
 zc:Nat
 s:Nat
abbrev rgF (g:Nat) (R:RgS) (x:RgA):List HP :=
 [pt g (.cells El8 false [.slice (some ⟨x.q,0,none⟩) R.M.length R.M.length,.slice x.la R.lo.length x.lc,.slice x.za R.n.length x.zc,P0 x.s]),pt x.q (.cells A5 false (A0 R.M)),
   slC false B5 1 x.la R.lo.length x.lc (R.lo.map int),slC false B5 1 x.za R.n.length x.zc (R.n.map int),Ap7 x.s R.N R.C]
def rgC (g:Nat) (R:RgS):HP:=hex fun x=>sl (rgF g R x)
instance {g:Nat} {R:RgS}:Chk (rgC g R) (rgF g R):=⟨rfl⟩
structure RgOkS (R:RgS):Prop where
 sp:SpOk R.N R.C
 eq:R.n.length=R.lo.length
 few:R.lo.length≤32
 mem:R.M.length≤65536
 each:∀ (i:Nat) (lo n:Int),R.lo[i]?=some lo→R.n[i]?=some n→0≤lo∧0≤n∧lo+n≤R.M.length
def Br0 (R:RgS) (lo n:Int):(Int × Int) × RgS :=
 if Bc8 lo n R.M.length=true then if R.lo.length≥32 then ((0,4),R) else (((R.lo.length:Int),0),{ R with lo:=R.lo++[lo],n:=R.n++[n] }) else ((0,1),R)
theorem Jh5 (g:Nat) (R:RgS) (k:RgOkS R) (lo n:Int):Ct A7 A50 [P0 g,int lo,int n] [rgC g R] fun v own=>v=v2 (Br0 R lo n).1∧own [rgC g (Br0 R lo n).2]:=by
 refine Ct.of E71 rfl fun h r=>Tr.eq (Gf4 ..) ?_;refine Je ?_
 refine B1 (rgC g R) fun ⟨q,la,lc,za,zc,s⟩=>?_;refine Je ?_
 (refine Ja ?_;intros)
 cases hw:Bc8 lo n R.M.length with
 | false =>
  have e:Br0 R lo n=((0,1),R):=by unfold Br0;rw [if_neg (by simp [hw])]
  (refine Ja ?_;intros)
  refine A9 (rgC g R) ⟨q,la,lc,za,zc,s⟩ ?_;refine Je ?_
  refine Ys fun o=>?_
  rw [e];exact ⟨rfl,o.sub⟩
 | true =>
  (refine Ja ?_;intros)
  by_cases h32:R.lo.length≥32
  ·have e:Br0 R lo n=((0,4),R):=by unfold Br0;rw [if_pos hw,if_pos h32]
   refine Yt (by simp;omega) ?_
   refine A9 (rgC g R) ⟨q,la,lc,za,zc,s⟩ ?_;refine Je ?_
   refine Ys fun o=>?_
   rw [e];exact ⟨rfl,o.sub⟩
  ·have e:Br0 R lo n=(((R.lo.length:Int),0),{ R with lo:=R.lo++[lo],n:=R.n++[n] }):=by unfold Br0;rw [if_pos hw,if_neg h32]
   have hf:=k.few;have hq:=k.eq
   refine Yf (by simp;omega) ?_
   (refine Ja ?_;intros)
   refine Tr.xApd ?_ (fun a1 c1 h=>?_);exact ⟨by first|rfl|simp,by first|rfl|simp,by simp only [A8];omega⟩;refine Je ?_
   (refine Ja ?_;intros)
   refine Tr.xApd ?_ (fun a2 c2 h=>?_);exact ⟨by first|rfl|simp,by first|rfl|simp,by simp only [A8];omega⟩;refine Je ?_
   (refine Ja ?_;intros)
   have e1:IntKind.wrap .i64 (((R.lo.length+1:Nat):Int)-1)=R.lo.length:=by rw [B4];omega
   have ea:R.lo.length+1=(R.lo++[lo]).length:=by simp
   have eb:R.n.length+1=(R.n++[n]).length:=by simp
   refine Je ?_
   rw [e1,ea,eb,show R.lo.map int++[Value.int IntKind.i64 lo]=(R.lo++[lo]).map int by simp,show R.n.map int++[Value.int IntKind.i64 n]=(R.n++[n]).map int by simp]
   refine A9 (rgC g { R with lo:=R.lo++[lo],n:=R.n++[n] }) ⟨q,a1,c1,a2,c2,s⟩ ?_;refine Je ?_
   refine Ys fun o=>?_
   rw [e];exact ⟨rfl,o.sub⟩
def S7 (R:RgS) (e name right a n:Int):Int × Int :=
 match Da1 R.N R.C e name with
 | none=>(0,2)
 | some c =>
  if (J8 .i64 c.rights right==0)=true then (0,3)
  else if (!Bc8 a n c.n || decide (c.obj<0) || decide (c.obj≥R.lo.length))=true then (0,1)
  else if (!Bc8 c.lo a (R.n.getD c.obj.toNat 0) || !Bc8 (IntKind.wrap .i64 (c.lo+a)) n (R.n.getD c.obj.toNat 0))=true then (0,1)
  else (IntKind.wrap .i64 (IntKind.wrap .i64 (R.lo.getD c.obj.toNat 0+c.lo)+a),0)
theorem Hb5 {l:List Int} {i:Nat} (h:i<l.length):(l.map int)[i]?=some (int (l.getD i 0)):=by rw [List.getElem?_map,Q6 0 h];rfl
theorem Iv4 (g:Nat) (R:RgS) (k:RgOkS R) (e name right a n:Int):Ct A7 Au2 [P0 g,int e,int name,int right,int a,int n] [rgC g R] fun v own=>v=v2 (S7 R e name right a n)∧own [rgC g R]:=by
 refine Ct.of Ey0 rfl fun h r=>Tr.eq (Ev3 ..) ?_;refine Je ?_
 refine B1 (rgC g R) fun ⟨q,la,lc,za,zc,s⟩=>?_;refine Je ?_
 (refine Ja ?_;intros)
 refine Yc (Iy2 s R.N R.C k.sp e name) ?_;rintro _ h ⟨rfl,o⟩<;>(refine Jf o ?_;intros)
 simp only [Je4]
 (refine Ja ?_;intros)
 cases hg:Da1 R.N R.C e name with
 | none =>
  have e1:S7 R e name right a n=(0,2):=by unfold S7;rw [hg]
  refine Yt rfl ?_
  refine A9 (rgC g R) ⟨q,la,lc,za,zc,s⟩ ?_;refine Je ?_
  refine Ys fun o=>?_
  rw [e1];exact ⟨rfl,o.sub⟩
 | some c =>
  simp only [Option.getD_some]
  refine Yf rfl ?_
  (refine Ja ?_;intros)
  by_cases h1:(J8 .i64 c.rights right==0)=true
  ·have e1:S7 R e name right a n=(0,3):=by unfold S7;rw [hg];exact if_pos h1
   refine Yt h1 ?_
   refine A9 (rgC g R) ⟨q,la,lc,za,zc,s⟩ ?_;refine Je ?_
   refine Ys fun o=>?_
   rw [e1];exact ⟨rfl,o.sub⟩
  refine Yf (by simpa using h1) ?_
  (refine Ja ?_;intros)
  by_cases h2:(!Bc8 a n c.n || decide (c.obj<0) || decide (c.obj≥R.lo.length))=true
  ·have e1:S7 R e name right a n=(0,1):=by unfold S7;rw [hg];exact (if_neg h1).trans (if_pos h2)
   refine Yt h2 ?_
   refine A9 (rgC g R) ⟨q,la,lc,za,zc,s⟩ ?_;refine Je ?_
   refine Ys fun o=>?_
   rw [e1];exact ⟨rfl,o.sub⟩
  refine Yf (by simpa using h2) ?_
  have h2':=h2
  simp only [Bool.or_eq_true,decide_eq_true_eq,not_or] at h2'
  have hq:=k.eq
  obtain ⟨⟨_,h2a⟩,h2b⟩:=h2'
  (refine Ja ?_;intros;repeat(refine Gw ?_;rintro px rfl;refine Ja ?_;intros))
  refine Tr.xIntS (v:=R.n.getD c.obj.toNat 0) (Hb5 (by omega)) ?_
  (refine Jb ?_;intros)
  refine Tr.orG (c:=!Bc8 (IntKind.wrap .i64 (c.lo+a)) n (R.n.getD c.obj.toNat 0)) (fun _=>?_) ?_
  ·(refine Ja ?_;intros)
   refine Tr.xIntS (v:=R.n.getD c.obj.toNat 0) (Hb5 (by omega)) ?_
   exact Jz
  by_cases h3:(!Bc8 c.lo a (R.n.getD c.obj.toNat 0) || !Bc8 (IntKind.wrap .i64 (c.lo+a)) n (R.n.getD c.obj.toNat 0))=true
  ·have e1:S7 R e name right a n=(0,1):=by unfold S7;rw [hg];exact (if_neg h1).trans ((if_neg h2).trans (if_pos h3))
   refine Yt h3 ?_
   refine A9 (rgC g R) ⟨q,la,lc,some px,zc,s⟩ ?_;refine Je ?_
   refine Ys fun o=>?_
   rw [e1];exact ⟨rfl,o.sub⟩
  have e1:S7 R e name right a n=(IntKind.wrap .i64 (IntKind.wrap .i64 (R.lo.getD c.obj.toNat 0+c.lo)+a),0):=by unfold S7;rw [hg];exact (if_neg h1).trans ((if_neg h2).trans (if_neg h3))
  refine Yf (by simpa using h3) ?_
  (refine Ja ?_;intros;repeat(refine Gw ?_;rintro px rfl;refine Ja ?_;intros))
  refine Tr.xIntS (v:=R.lo.getD c.obj.toNat 0) (Hb5 (by omega)) ?_
  (refine Ja ?_;intros)
  refine G0 (rgC g R) ⟨q,some _,lc,some _,zc,s⟩ [2,2,2,2,1] rfl ?_;refine Je ?_
  refine Ys fun o=>?_
  rw [e1];exact ⟨rfl,o.sub⟩
theorem Hf1 {R:RgS} (k:RgOkS R) {e name right a n p:Int} (h:S7 R e name right a n=(p,0)):0≤p∧0≤n∧p+n≤R.M.length:=by
 unfold S7 at h
 split at h;· cases h
 rename_i c hc
 split at h;· cases h
 split at h;· cases h
 rename_i h1
 split at h;· cases h
 rename_i h2
 have hq:=k.eq;have hm:=k.mem
 simp only [Bool.or_eq_true,decide_eq_true_eq,not_or,Bool.not_eq_true',Bool.not_eq_false] at h1 h2
 have h3:=h2.1;have h4:=h2.2
 unfold Bc8 at h3 h4
 simp only [Bool.and_eq_true,decide_eq_true_eq] at h3 h4
 have hi:c.obj.toNat<R.lo.length:=by omega
 have he:=k.each c.obj.toNat _ _ (Q6 0 hi) (Q6 0 (show c.obj.toNat<R.n.length by omega))
 rw [B4] at h3 h4
 rw [B4] at h4
 cases h
 rw [B4,B4]
 omega
def An3 (R:RgS) (e name a:Int) (b:List UInt8):Int × RgS :=
 if (S7 R e name 2 a b.length).2=0 then (0,{ R with M:=R.M.take (S7 R e name 2 a b.length).1.toNat++b++R.M.drop ((S7 R e name 2 a b.length).1.toNat+b.length) }) else ((S7 R e name 2 a b.length).2,R)
theorem I08 (g:Nat) (R:RgS) (k:RgOkS R) (e name a:Int) (b:List UInt8):Ct A7 Aw9 [P0 g,int e,int name,int a,.string ⟨⟨b⟩⟩] [rgC g R] fun v own=>v=int (An3 R e name a b).1∧own [rgC g (An3 R e name a b).2]:=by
 have hsz:ByteArray.size ⟨⟨b⟩⟩=b.length:=rfl
 refine Ct.of Et5 rfl fun h r=>Tr.eq (Eq0 ..) ?_;refine Je ?_
 rw [hsz]
 refine Yc (Iv4 g R k e name 2 a b.length) ?_;rintro _ h ⟨rfl,o⟩<;>(refine Jf o ?_;intros)
 simp only [v2]
 (refine Ja ?_;intros)
 by_cases h0:(S7 R e name 2 a b.length).2=0
 ·have e1:An3 R e name a b=(0,{ R with M:=R.M.take (S7 R e name 2 a b.length).1.toNat++b++R.M.drop ((S7 R e name 2 a b.length).1.toNat+b.length) }):=by unfold An3;rw [if_pos h0]
  obtain ⟨c1,c2,c3⟩:=Hf1 k (show S7 R e name 2 a b.length=((S7 R e name 2 a b.length).1,0) by rw [← h0])
  rw [e1]
  generalize (S7 R e name 2 a b.length).1=p at c1 c3
  refine Yf (by simpa using h0) ?_
  refine B1 (rgC g R) fun ⟨q,la,lc,za,zc,s⟩=>?_;refine Je ?_
  (refine Ja ?_;intros)
  refine Je ?_
  rw [show min b.length (R.M.length-p.toNat)=b.length by omega,List.take_of_length_le (Nat.le_refl _)]
  rw [show pCells (some (⟨q,bif decide (p.toNat<R.M.length) then p.toNat else 0,none⟩:Addr))=pAgg ⟨q,bif decide (p.toNat<R.M.length) then p.toNat else 0,none⟩ from rfl]
  have hoff:(bif decide (p.toNat<R.M.length) then p.toNat else 0)=p.toNat∨(b=[]∧(bif decide (p.toNat<R.M.length) then p.toNat else 0)=0∧p.toNat=R.M.length):=by
   by_cases hlt:p.toNat<R.M.length
   ·left;simp [hlt]
   ·right;refine ⟨List.eq_nil_of_length_eq_zero (by omega),by simp [hlt],by omega⟩
  refine Tr.xPAgg (cs':=A0 (R.M.take p.toNat++b++R.M.drop (p.toNat+b.length))) ⟨?_,Al7 _,?_⟩ fun h=>?_
  ·simp only [A12];rcases hoff with e|⟨rfl,e,_⟩<;>rw [e]<;>(try simp)<;>omega
  ·rw [A12]
   rcases hoff with e|⟨rfl,e,e4⟩<;>rw [e]
   ·rw [Em3,Di7,Ab5,Ab5]
   ·simp [e4,A0]
  have el:R.M.length=(R.M.take p.toNat++b++R.M.drop (p.toNat+b.length)).length:=by simp;omega
  rw [el]
  refine A9 (rgC g { R with M:=R.M.take p.toNat++b++R.M.drop (p.toNat+b.length) }) ⟨q,la,lc,za,zc,s⟩ ?_;refine Je ?_
  refine Ys fun o=>?_
  exact ⟨rfl,o.sub⟩
 ·have e1:An3 R e name a b=((S7 R e name 2 a b.length).2,R):=by unfold An3;rw [if_neg h0]
  refine Yt (by simpa using h0) ?_
  refine Ys fun o=>?_
  rw [e1];exact ⟨rfl,o.sub⟩
theorem I32 {R:RgS} (k:RgOkS R) (e name a:Int) (b:List UInt8):RgOkS (An3 R e name a b).2:=by
 unfold An3
 split
 ·rename_i h0
  obtain ⟨c1,c2,c3⟩:=Hf1 k (show S7 R e name 2 a b.length=((S7 R e name 2 a b.length).1,0) by rw [← h0])
  have el:(R.M.take (S7 R e name 2 a b.length).1.toNat++b++R.M.drop ((S7 R e name 2 a b.length).1.toNat+b.length)).length=R.M.length:=by simp;omega
  exact ⟨k.sp,k.eq,k.few,by simp only [el];exact k.mem,fun i lo n h1 h2=>by simp only [el];exact k.each i lo n h1 h2⟩
 ·exact k
abbrev qtF (q:Nat) (L:List (List Bool)) (x:Option Addr × Nat × List (Option Addr × Nat)):List HP :=
 [pt q (.cells E96 false [.slice x.1 L.length x.2.1]),slC false D49 1 x.1 L.length x.2.1 (Bw5 x.2.2 L),pu (x.2.2.length=L.length)]
def qtC (q:Nat) (L:List (List Bool)):HP:=hex fun x=>sl (qtF q L x)
instance {q:Nat} {L:List (List Bool)}:Chk (qtC q L) (qtF q L):=⟨rfl⟩
def Ao5 (l:List Int):List (List Bool):=l.map fun n=>List.replicate (G9 n).toNat false
theorem Ha2 (q:Nat) (p:HP) (fa:Option Addr) (fc:Nat) (ro:Bool) (l:List Int) [ks:IsSl p fa ro B5 1 l.length fc (l.map int)] (h4:l.length≤4):∀ (m i:Nat) (L:List (List Bool)),l.length-i=m→i≤l.length→L=Ao5 (l.take i) →
  CtJ I1 Ad7 A71 [(0,.slice fa l.length fc),(3,P0 q),(4,int i)] [qtC q L,p] fun v own=>v=P0 q∧own [qtC q (Ao5 l),p]:=by
 intro m
 induction m with
 | zero =>
  intro i L hm hi hL
  obtain rfl:i=l.length:=by omega
  rw [List.take_length] at hL
  subst hL
  refine CtJ.of Da0 fun h r=>Tr.eq (Dr4 ..) ?_;refine Je ?_
  (refine Ja ?_;intros)
  refine Yf (by simp) ?_
  refine Ys fun o=>?_
  exact ⟨by first|rfl|trivial,o.sub⟩
 | succ m ih =>
  intro i L hm hi hL
  have hlt:i<l.length:=by omega
  have hp:l[i]?=some l[i]:=List.getElem?_eq_getElem hlt
  have ht:l.take (i+1)=l.take i++[l[i]]:=by rw [List.take_add_one,hp];rfl
  generalize l[i]=n at hp ht
  have hl:L.length=i:=by rw [hL];simp [Ao5];omega
  have e1:=wN i
  have ef:mm2 false (mm2 true n 0) 64=G9 n:=by rw [Z9,Ae3];rfl
  have hf:0≤G9 n∧G9 n≤64:=by unfold G9;omega
  have ea:L.length+1=(L++[List.replicate (G9 n).toNat false]).length:=by simp
  refine CtJ.of Da0 fun h r=>Tr.eq (Dr4 ..) ?_;refine Je ?_
  (refine Ja ?_;intros)
  refine Yt (by simp;omega) ?_
  refine B1 (qtC q L) fun ⟨qa,qc,qs⟩=>?_;refine Je ?_
  refine O5 2 rfl fun hq=>?_
  (refine Ja ?_;intros;repeat(refine Gw ?_;rintro px rfl;refine Ja ?_;intros))
  rw [Int.toNat_natCast]
  refine Tr.xIntS (v:=n) (by rw [List.getElem?_map,hp];rfl) ?_
  rw [ef]
  refine Tr.ck ⟨by omega,by omega,by simp only [A8];omega⟩ ?_
  refine Yn fun bb h=>?_
  (refine Ja ?_;intros)
  refine Tr.xApd (new:=[.slice (some ⟨bb,0,none⟩) (G9 n).toNat (G9 n).toNat]) ⟨rfl,rfl,by simp only [A8];omega⟩ fun a' c' h'=>?_
  refine Je ?_
  (refine Ja ?_;intros)
  have es:Bw5 qs L++[.slice (some ⟨bb,0,none⟩) (G9 n).toNat (G9 n).toNat]=Bw5 (qs++[(some ⟨bb,0,none⟩,(G9 n).toNat)]) (L++[List.replicate (G9 n).toNat false]):=by
   rw [Gw8 _ _ hq];simp
  rw [e1,ea,es]
  refine Aw3 (show (qs++[((some ⟨bb,0,none⟩:Option Addr),(G9 n).toNat)]).length=(L++[List.replicate (G9 n).toNat false]).length by simp [hq]) ?_
  refine Je ?_
  refine A9 (qtC q (L++[List.replicate (G9 n).toNat false])) ⟨a',c',qs++[((some ⟨bb,0,none⟩:Option Addr),(G9 n).toNat)]⟩ ?_;refine Je ?_
  refine Yr (ih (i+1) (L++[List.replicate (G9 n).toNat false]) (by omega) (by omega) (by rw [ht,hL];simp [Ao5])) ?_
  rintro _ h ⟨rfl,o⟩
  exact ⟨rfl,o.sub⟩
theorem H86 (p:HP) (fa:Option Addr) (fc:Nat) (ro:Bool) (l:List Int) [ks:IsSl p fa ro B5 1 l.length fc (l.map int)] (h4:l.length≤4):Ct A7 Ad7 [.slice fa l.length fc] [p] fun v own=>∃ q,v=P0 q∧own [qtC q (Ao5 l),p]:=by
 refine Ct.of Da0 rfl fun h r=>Tr.eq (G39 ..) ?_;refine Je ?_
 refine Yn fun q h=>?_
 refine G6 false D49 1 (by omega) ?_
 refine Aw3 (show ([]:List (Option Addr × Nat)).length=([]:List (List Bool)).length from rfl) ?_
 refine G0 (qtC q []) ⟨none,0,[]⟩ [2,1,0] rfl ?_;refine Je ?_
 refine Yr (Ha2 q p fa fc ro l h4 _ 0 [] rfl (by omega) rfl) ?_
 rintro _ h ⟨rfl,o⟩
 exact ⟨q,rfl,o.sub⟩
def M0 (L:List (List Bool)) (s:Nat):Nat:=((L.take s).map List.length).sum
theorem Hl4 (q:Nat) (L:List (List Bool)) (s:Nat) (hs:s≤L.length) (hL:L.length≤4) (hb:∀ x ∈ L,x.length≤64):∀ (m i:Nat),s-i=m→i≤s →
  Z8 I1 Q5 Ar5 [(0,P0 q),(1,int s),(5,int (M0 L i)),(6,int i)] [qtC q L] (int (M0 L s)):=by
 have hle:∀ j,M0 L j≤64*j:=by
  intro j
  induction j with
  | zero=>simp [M0]
  | succ j ih =>
   unfold M0 at *
   rw [List.take_add_one]
   cases h:L[j]? with
   | none=>simp only [Option.toList_none,List.append_nil];omega
   | some x=>have:=hb x (List.mem_of_getElem? h);simp only [Option.toList_some,List.map_append,List.sum_append,List.map_cons,List.map_nil,List.sum_cons,List.sum_nil];omega
 intro m
 induction m with
 | zero =>
  intro i hm hi
  obtain rfl:i=s:=by omega
  refine Z8.of Bq6 fun h r=>Tr.eq (B79 ..) ?_;refine Je ?_
  refine Yf (by simp) ?_
  exact Jz
 | succ m ih =>
  intro i hm hi
  have hlt:i<L.length:=by omega
  have hp:L[i]?=some L[i]:=List.getElem?_eq_getElem hlt
  have hx:=hb _ (List.getElem_mem hlt)
  generalize L[i]=x at hp hx
  have en:M0 L (i+1)=M0 L i+x.length:=by unfold M0;rw [List.take_add_one,hp];simp
  have hi2:=hle i
  have e1:=wN i
  have e2:IntKind.wrap .i64 ((M0 L i:Int)+x.length)=((M0 L (i+1):Nat):Int):=by rw [B4,en];omega
  refine Z8.of Bq6 fun h r=>Tr.eq (B79 ..) ?_;refine Je ?_
  refine Yt (by simp;omega) ?_
  refine B1 (qtC q L) fun ⟨qa,qc,qs⟩=>?_;refine Je ?_
  refine O5 2 rfl fun hq=>?_
  obtain ⟨y,hy⟩:=G96 hq hp
  (refine Ja ?_;intros;repeat(refine Gw ?_;rintro px rfl;refine Ja ?_;intros))
  rw [Int.toNat_natCast]
  refine Je ?_
  refine Tr.xSlS (x:=y.1) (y:=x.length) (z:=y.2) (Gs9 hy hp) ?_
  rw [e1,e2]
  intro o
  have o2:=Own.foldI (qtC q L) (some px,qc,qs) [0,0,0] o rfl
  refine (?_:Tr _ _ _ _) o2
  exact Ad5 (ih (i+1) (by omega) (by omega)) (r:=r) (by simp) fun o=>⟨rfl,rfl⟩
theorem G52 (q:Nat) (L:List (List Bool)) (s:Nat) (hs:s≤L.length) (hL:L.length≤4) (hb:∀ x ∈ L,x.length≤64):CtP A7 Q5 [P0 q,int s] [qtC q L] (int (M0 L s)):=by
 refine CtP.of Bq6 rfl fun h r=>Tr.eq (Gf7 ..) ?_;refine Je ?_
 exact Ad5 (Hl4 q L s hs hL hb _ 0 rfl (by omega)) (r:=r) (by simp) fun o=>⟨rfl,rfl⟩
abbrev bs (l:List UInt8):ByteArray:=⟨⟨l⟩⟩
theorem Bd2 (l m:List UInt8):bs l++bs m=bs (l++m):=by
 refine ByteArray.ext ?_
 rw [ByteArray.data_append];simp
theorem Be2 (l:List UInt8):ByteArray.size (bs l)=l.length:=rfl
class BytesC (cs:List Value) (l:outParam (List UInt8)):Prop where
 ok:cs=A0 l
instance:BytesC [] []:=⟨rfl⟩
instance {x:UInt8} {cs:List Value} {l:List UInt8} [k:BytesC cs l]:BytesC (.int .u8 (x.toNat:Int)::cs) (x::l):=⟨by rw [k.ok];rfl⟩
instance {n:Int} {cs:List Value} {l:List UInt8} [k:BytesC cs l]:BytesC (.int .u8 (IntKind.wrap .u8 n)::cs) (b8 n::l):=⟨by rw [k.ok,Bs3];rfl⟩
instance {cs:List Value} {l:List UInt8} [k:BytesC cs l]:BytesC (.int .u8 0::cs) (0::l):=⟨by rw [k.ok];rfl⟩
instance {cs:List Value} {l:List UInt8} [k:BytesC cs l]:BytesC (.int .u8 1::cs) (1::l):=⟨by rw [k.ok];rfl⟩
instance {cs:List Value} {l:List UInt8} [k:BytesC cs l]:BytesC (.int .u8 167::cs) (167::l):=⟨by rw [k.ok];rfl⟩
instance {cs:List Value} {l:List UInt8} [k:BytesC cs l]:BytesC (.int .u8 179::cs) (179::l):=⟨by rw [k.ok];rfl⟩
instance {cs:List Value} {l:List UInt8} [k:BytesC cs l]:BytesC (.int .u8 197::cs) (197::l):=⟨by rw [k.ok];rfl⟩
instance {cs:List Value} {l:List UInt8} [k:BytesC cs l]:BytesC (.int .u8 211::cs) (211::l):=⟨by rw [k.ok];rfl⟩
instance {cs:List Value} {n:Nat} {l:List UInt8} [g:LenC cs n] [k:BytesC cs l]:BytesC (List.take n (List.drop 0 cs)) l:=⟨by rw [List.drop_zero,List.take_of_length_le (Nat.le_of_eq g.ok)];exact k.ok⟩
instance {l:List HP} {h:H} {α:Type} {Q:α→H→Prop} {cs:List Value} {x:List UInt8} {k:List UInt8→Option (α × H)} [c:BytesC cs x]:StpU (Tr l h (asBytes cs k) Q) (0=0) (Tr l h (k x) Q):=⟨fun _ t=>by rw [c.ok];exact Tr.asBytes (By0 _) t⟩
def B34 (l:List UInt8):Int:=(l.map fun x=>(x.toNat:Int)).sum
theorem Hy4:∀ (l:List UInt8),0≤B34 l∧B34 l≤255*l.length
 | []=>by simp [B34]
 | x::l=>by
  have:=Hy4 l;have:=x.toNat_lt
  simp only [B34,List.map_cons,List.sum_cons,List.length_cons] at *;omega
theorem H02:∀ (l:List UInt8) (n:Int),Ey5 (n%256) l=(n+B34 l)%256
 | [],n=>by simp [Ey5,B34]
 | x::l,n=>by
  have e:Ey5 (n%256) (x::l)=Ey5 ((n+x.toNat)%256) l:=by
   show Ey5 (IntKind.wrap .u8 (n%256+x.toNat)) l=_
   rw [Dy6];congr 1;omega
  rw [e,H02 l]
  simp only [B34,List.map_cons,List.sum_cons];congr 1;omega
theorem I34 (l:List UInt8):((B39 l).toNat:Int)=(l.length+B34 l)%256:=by
 rw [← D39];unfold Ha0;rw [Dy6,H02]
theorem Ip5 (l:List UInt8) (hl:l.length≤100000):∀ (m i:Nat),l.length-i=m→i≤l.length →
  Z8 I1 Ak9 B13 [(0,.string (bs l)),(3,int (l.length+B34 (l.take i))),(4,int i)] [] (.int .u8 ((B39 l).toNat:Int)):=by
 intro m
 induction m with
 | zero =>
  intro i hm hi
  obtain rfl:i=l.length:=by omega
  refine Z8.of E04 fun h r=>Tr.eq (E14 ..) ?_;refine Je ?_
  rw [Be2,List.take_length]
  refine Yf (by simp) ?_
  refine Ys fun o=>?_
  rw [Dy6,I34];exact ⟨by first|rfl|trivial,by first|rfl|trivial⟩
 | succ m ih =>
  intro i hm hi
  have hlt:i<l.length:=by omega
  have hp:l[i]?=some l[i]:=List.getElem?_eq_getElem hlt
  have ht:l.take (i+1)=l.take i++[l[i]]:=by rw [List.take_add_one,hp];rfl
  have hg:List.getD l i 0=l[i]:=by rw [List.getD_eq_getElem?_getD,hp];rfl
  generalize l[i]=x at hp ht hg
  have hx:=x.toNat_lt
  have hb:=Hy4 (l.take i)
  have hk:(l.take i).length=i:=by simp;omega
  have e1:=wN i
  have e2:B34 (l.take (i+1))=B34 (l.take i)+x.toNat:=by rw [ht];simp [B34]
  refine Z8.of E04 fun h r=>Tr.eq (E14 ..) ?_;refine Je ?_
  rw [Be2]
  refine Yt (by simp;omega) ?_
  (refine Ja ?_;intros)
  rw [Int.toNat_natCast,hg,e1,At2,show IntKind.wrap .i64 ((l.length:Int)+B34 (l.take i)+x.toNat)=l.length+B34 (l.take (i+1)) by rw [B4,e2];omega]
  exact Ad5 (ih (i+1) (by omega) (by omega)) (r:=r) (by simp) fun o=>⟨rfl,rfl⟩
theorem Gg3 (l:List UInt8) (hl:l.length≤100000):CtP A7 Ak9 [.string (bs l)] [] (.int .u8 ((B39 l).toNat:Int)):=by
 refine CtP.of E04 rfl fun h r=>Tr.eq (In9 ..) ?_;refine Je ?_
 have J:=Ip5 l hl _ 0 rfl (by omega)
 simp only [List.take_zero,B34,List.map_nil,List.sum_nil,Int.add_zero] at J
 exact Ad5 J (r:=r) (by simp) fun o=>⟨rfl,rfl⟩
theorem Iz0 (g:Int):Ct A7 A46 [int g] [] fun v own=>v=.string (bs [b8 g,211,B39 [b8 g,211],0])∧own []:=by
 refine Ct.of E68 rfl fun h r=>Tr.eq (Gd6 ..) ?_;refine Je ?_
 (refine Ja ?_;intros)
 refine Tr.pcall (Gg3 [b8 g,211] (by simp)) ?_;refine Je ?_;(refine Ja ?_;intros)
 refine Tr.ck (by simp [ByteArray.size,A8]) ?_
 refine Ys fun o=>?_
 rw [Bd2]
 exact ⟨rfl,o.sub⟩
theorem Iv9 (f:FileS):Ct A7 Ba3 [.agg ⟨Ak6 f⟩] [] fun v own=>v=.string (bs (Ao3 f))∧own []:=by
 refine Ct.of Gm3 rfl fun h r=>Tr.eq (Gl0 ..) ?_;refine Je ?_
 (refine Ja ?_;intros)
 refine Tr.pcall (Gg3 (Bh6 f) (by simp [Bh6])) ?_;refine Je ?_;(refine Ja ?_;intros)
 refine Tr.ck (by simp [ByteArray.size,A8]) ?_
 refine Ys fun o=>?_
 rw [Bd2]
 exact ⟨rfl,o.sub⟩
theorem Gh1 (n:Int):Ct A7 Bg2 [int n] [] fun v own=>v=.string (bs [b8 (n / 256),b8 n])∧own []:=by
 refine Ct.of Io1 rfl fun h r=>Tr.eq (Il7 ..) ?_;refine Je ?_
 rw [show Int.fdiv n (2 ^ 8)=n / 256 by rw [Int.fdiv_eq_ediv_of_nonneg _ (by omega)];rfl]
 (refine Ja ?_;intros)
 refine Ys fun o=>?_
 exact ⟨rfl,o.sub⟩
theorem H26 (b0:Nat) (p:PipeS):∀ (m i:Nat) (acc:List UInt8),32-i=m→i≤32→acc.length≤50+i →
  CtJ I1 U4 Aw8 [(1,P0 b0),(3,.string (bs acc)),(4,int i)] [pt b0 (.cells D1 false (E5 p))] fun v own=>v=.string (bs (acc++p.data.drop i))∧own []:=by
 have hd:=p.len
 intro m
 induction m with
 | zero =>
  intro i acc hm hi ha
  obtain rfl:i=32:=by omega
  refine CtJ.of By1 fun h r=>Tr.eq (B88 ..) ?_;refine Je ?_
  refine Yf rfl ?_
  refine Ys fun o=>?_
  rw [List.drop_eq_nil_of_le (by omega),List.append_nil]
  exact ⟨rfl,o.sub⟩
 | succ m ih =>
  intro i acc hm hi ha
  have hlt:i<p.data.length:=by omega
  have hp:p.data[i]?=some p.data[i]:=List.getElem?_eq_getElem hlt
  have hdr:p.data.drop i=p.data[i]::p.data.drop (i+1):=List.drop_eq_getElem_cons hlt
  generalize p.data[i]=x at hp hdr
  have e1:=wN i
  refine CtJ.of By1 fun h r=>Tr.eq (B88 ..) ?_;refine Je ?_
  refine Yt (by simp;omega) ?_
  refine Tr.ck (by omega) ?_
  rw [Int.toNat_natCast]
  refine Tr.xInt (n:=(x.toNat:Int)) ?_ ?_
  ·rw [show (4+i:Nat)=i+1+1+1+1 by omega]
   exact Eo4 hp
  (refine Ja ?_;intros)
  refine Tr.ck (by simp only [ByteArray.size,A8];simp;omega) ?_
  rw [Bd2,e1,hdr]
  refine Yr (ih (i+1) (acc++[x]) (by omega) (by omega) (by simp;omega)) ?_
  rintro _ h ⟨rfl,o⟩
  exact ⟨by simp,o.sub⟩
theorem Hj6 (p:PipeS):Ct A7 U4 [.agg ⟨E5 p⟩] [] fun v own=>v=.string (bs (N6 p))∧own []:=by
 refine Ct.of By1 rfl fun h r=>Tr.eq (Gm4 ..) ?_;refine Je ?_
 refine Yn fun b0 h=>?_
 (refine Ja ?_;intros)
 refine Tr.pcall (Gg3 (An1 p) (by simp [An1])) ?_;refine Je ?_;(refine Ja ?_;intros)
 refine Tr.ck (by simp [ByteArray.size,A8]) ?_
 rw [Bd2]
 refine Yr (H26 b0 p _ 0 (An1 p++[B39 (An1 p),0]) rfl (by omega) (by simp [An1])) ?_
 rintro _ h ⟨rfl,o⟩
 exact ⟨by simp [N6],o.sub⟩
def Hr1 (n:Int):List UInt8:=[b8 (n / 256),b8 n]
def Ip9 (p:ProcS):List UInt8:=[b8 p.state,b8 p.parent,b8 p.group,b8 p.code]++(Hr1 p.pending++(Hr1 p.mask++(Hr1 p.ignored++(Hr1 p.caught++(p.fds.map b8++[167])))))
def Gd0 (p:ProcS):List UInt8:=Ip9 p++[B39 (Ip9 p),0,0]
theorem Hv2 (b0:Nat) (p:ProcS):∀ (m i:Nat) (acc:List UInt8),8-i=m→i≤8→acc.length≤50+i →
  CtJ I1 Y4 Au3 [(1,P0 b0),(3,.string (bs acc)),(4,int i)] [pt b0 (.cells D0 false (D7 p))] fun v own =>
   v=.string (bs (acc++((p.fds.drop i).map b8++[167])++[B39 (acc++((p.fds.drop i).map b8++[167])),0,0]))∧own []:=by
 have hd:=p.len
 intro m
 induction m with
 | zero =>
  intro i acc hm hi ha
  obtain rfl:i=8:=by omega
  refine CtJ.of Bx6 fun h r=>Tr.eq (B93 ..) ?_;refine Je ?_
  refine Yf rfl ?_
  refine Tr.ck (by simp only [ByteArray.size,A8];simp;omega) ?_
  rw [Bd2]
  refine Tr.pcall (Gg3 (acc++[167]) (by simp;omega)) ?_;refine Je ?_;(refine Ja ?_;intros)
  refine Tr.ck (by simp only [ByteArray.size,A8];simp;omega) ?_
  refine Ys fun o=>?_
  rw [List.drop_eq_nil_of_le (by omega),Bd2]
  exact ⟨rfl,o.sub⟩
 | succ m ih =>
  intro i acc hm hi ha
  have hlt:i<p.fds.length:=by omega
  have hp:p.fds[i]?=some p.fds[i]:=List.getElem?_eq_getElem hlt
  have hdr:p.fds.drop i=p.fds[i]::p.fds.drop (i+1):=List.drop_eq_getElem_cons hlt
  generalize p.fds[i]=x at hp hdr
  have e1:=wN i
  refine CtJ.of Bx6 fun h r=>Tr.eq (B93 ..) ?_;refine Je ?_
  refine Yt (by simp;omega) ?_
  refine Tr.ck (by omega) ?_
  rw [Int.toNat_natCast]
  refine Tr.xInt (n:=x) ?_ ?_
  ·rw [show (8+i:Nat)=i+1+1+1+1+1+1+1+1 by omega]
   exact G91 hp
  (refine Ja ?_;intros)
  refine Tr.ck (by simp only [ByteArray.size,A8];simp;omega) ?_
  rw [Bd2,e1,hdr]
  refine Yr (ih (i+1) (acc++[b8 x]) (by omega) (by omega) (by simp;omega)) ?_
  rintro _ h ⟨rfl,o⟩
  exact ⟨by simp,o.sub⟩
theorem I18 (p:ProcS):Ct A7 Y4 [.agg ⟨D7 p⟩] [] fun v own=>v=.string (bs (Gd0 p))∧own []:=by
 refine Ct.of Bx6 rfl fun h r=>Tr.eq (Gm8 ..) ?_;refine Je ?_
 refine Yn fun b0 h=>?_
 (refine Ja ?_;intros)
 refine Yc (Gh1 p.pending) ?_;rintro _ h ⟨rfl,o⟩<;>(refine Jf o ?_;intros)
 refine Tr.ck (by simp [ByteArray.size,A8]) ?_
 refine Yc (Gh1 p.mask) ?_;rintro _ h ⟨rfl,o⟩<;>(refine Jf o ?_;intros)
 refine Tr.ck (by simp [ByteArray.size,A8,Bd2]) ?_
 refine Yc (Gh1 p.ignored) ?_;rintro _ h ⟨rfl,o⟩<;>(refine Jf o ?_;intros)
 refine Tr.ck (by simp [ByteArray.size,A8,Bd2]) ?_
 refine Yc (Gh1 p.caught) ?_;rintro _ h ⟨rfl,o⟩<;>(refine Jf o ?_;intros)
 refine Tr.ck (by simp [ByteArray.size,A8,Bd2]) ?_
 simp only [Bd2]
 refine Yr (Hv2 b0 p _ 0 _ rfl (by omega) (by simp)) ?_
 rintro _ h ⟨rfl,o⟩
 exact ⟨by simp [Gd0,Ip9,Hr1],o.sub⟩
theorem Ih8 (n:Nat):E7 n [.int .u8 0]=A0 (List.replicate n 0):=by simp [E7,A0]
def Ae9:List UInt8:=List.replicate 448 0++(N6 ⟨0,0,1,1,List.replicate 32 0,rfl⟩++frontB8 0)
where frontB8 (g:Int):List UInt8:=[b8 g,211,B39 [b8 g,211],0]
theorem He4:Ct A7 Bl5 [] [] fun v own=>v=.string (bs Ae9)∧own []:=by
 have hc:∀ Z:List UInt8,Z.length=448→0+448≤(A0 Z).length∧((A0 Z).drop 0).take 448=A0 Z:=fun Z hz=>⟨by rw [Z0];omega,by rw [List.drop_zero,List.take_of_length_le (by rw [Z0];omega)]⟩
 refine Ct.of Hl7 rfl fun h r=>Tr.eq (Hl0 ..) ?_;refine Je ?_
 refine Tr.ck ⟨by omega,by omega,by simp [A8]⟩ ?_
 rw [Ih8]
 have hb:Ae9=List.replicate 448 0++(N6 ⟨0,0,1,1,List.replicate 32 0,rfl⟩++Ae9.frontB8 0):=rfl
 generalize hz:List.replicate 448 (0:UInt8)=Z at hb ⊢
 have hl:Z.length=448:=by rw [← hz];simp
 rw [hb]
 refine Yn fun b0 h=>?_
 refine Tr.xCellsB (hc Z hl) ?_
 (refine Ja ?_;intros)
 refine Yc (Hj6 ⟨0,0,1,1,List.replicate 32 0,rfl⟩) ?_;rintro _ h ⟨rfl,o⟩<;>(refine Jg o ?_;intros)
 refine Tr.xCellsB (hc Z hl) ?_
 (refine Ja ?_;intros)
 refine Tr.ck (by rw [Be2,Be2,Bt1 rfl,hl];simp [A8]) ?_
 rw [Bd2]
 refine Yc (Iz0 0) ?_;rintro _ h ⟨rfl,o⟩<;>(refine Jg o ?_;intros)
 refine Tr.xCellsB (hc Z hl) ?_
 (refine Ja ?_;intros)
 refine Tr.ck (by rw [Be2,Be2,List.length_append,Bt1 rfl,hl];simp [A8]) ?_
 refine Ys fun o=>?_
 rw [Bd2,List.append_assoc]
 exact ⟨rfl,o.sub⟩
structure PlanS where
 bad:List Bool
 brs:List (Int × Int)
 lease:Int
structure PlA where
 ba:Option Addr
 bc:Nat
 ra:Option Addr
 rc:Nat
def brL (p:Int × Int):List Value:=[int p.1,int p.2]
theorem If9 (p:Int × Int):(brL p).length=2:=rfl
abbrev Gh8 (P:PlanS) (A:PlA):List Value:=[.slice A.ba P.bad.length A.bc,.slice A.ra P.brs.length A.rc,int P.lease]
abbrev Dx3 (P:PlanS) (A:PlA):List HP:=[slC false Gy6 1 A.ba P.bad.length A.bc (P.bad.map Value.bool),slC false B87 2 A.ra P.brs.length A.rc (P.brs.flatMap brL)]
def Jr8 (B:BootS) (s:Int):BootS:={ B with frames:=B.frames++[20],envs:=B.envs++List.replicate 9 s,sects:=B.sects++[[s]],shared:=B.shared++[⟨s,0,0,492,[s]⟩] }
def D40 (B:BootS):Nat→Int→BootS
 | 0,_=>B
 | m+1,s=>D40 (Jr8 B s) m (s+1)
def Da3 (B:BootS):Int→List (Int × Int)→BootS
 | _,[]=>B
 | i,x::l=>Da3 { B with shared:=B.shared++[⟨x.1,8+i,0,40,[x.1,x.2]⟩] } (i+1) l
def E81 (P:PlanS):BootS:=Da3 (D40 ⟨[],[],[],P.lease,[]⟩ P.bad.length 0) 0 P.brs
theorem I73 (m:Nat) (s:Int) (E:List Int):E++[s]++List.replicate m s=E++List.replicate (m+1) s:=by
 rw [List.append_assoc,List.replicate_succ];rfl
theorem Ir8 (pp xx bb:Nat) (s:Int) (B:BootS) (fa sa ha:Option Addr) (fc sc hc:Nat) {Q:Value→H→Prop}:∀ (m i:Nat) (E:List Int) (ea:Option Addr) (ec:Nat) (h:H) (l:List HP),9-i=m→i≤9→E.length+m≤100000 →
  (∀ ea' ec' h',Tr (pt bb (.cells E6 false [.slice fa B.frames.length fc,.slice ea' (E++List.replicate m s).length ec',.slice sa B.sects.length sc,int B.lease,.slice ha B.shared.length hc])::slC false B5 1 ea' (E++List.replicate m s).length ec' ((E++List.replicate m s).map int)::l) h'
   (I1 N4 A57 [(1,P0 pp),(2,P0 xx),(3,P0 bb),(4,int s),(5,int 9)] h') Q) →
  Tr (pt bb (.cells E6 false [.slice fa B.frames.length fc,.slice ea E.length ec,.slice sa B.sects.length sc,int B.lease,.slice ha B.shared.length hc])::slC false B5 1 ea E.length ec (E.map int)::l) h
   (I1 N4 A57 [(1,P0 pp),(2,P0 xx),(3,P0 bb),(4,int s),(5,int i)] h) Q:=by
 intro m
 induction m with
 | zero =>
  intro i E ea ec h l hm hi hE t
  obtain rfl:i=9:=by omega
  have t0:=t ea ec h
  simp only [List.replicate_zero,List.append_nil] at t0
  exact t0
 | succ m ih =>
  intro i E ea ec h l hm hi hE t
  have e1:=wN i
  refine Tr.jmp A01 (Tr.eq (Ee7 ..) ?_);(try simp only[Nr,Nl,wl,Nat.reduceAdd,Nat.reduceMul,Int.reduceToNat])
  refine Yt (by simp;omega) ?_
  (refine Ja ?_;intros)
  refine Tr.xApd ?_ (fun a' c' h=>?_);exact ⟨by first|rfl|simp,by first|rfl|simp,by simp only [A8];omega⟩;refine Je ?_
  (refine Ja ?_;intros)
  refine Je ?_
  rw [e1]
  have ee:E.map int++[Value.int IntKind.i64 s]=(E++[s]).map int:=by simp
  rw [ee,show E.length+1=(E++[s]).length by simp]
  refine Ad0 [1,1] 1 rfl rfl ?_
  refine ih (i+1) (E++[s]) a' c' _ l (by omega) (by omega) (by simp;omega) fun ea' ec' h'=>?_
  rw [I73]
  exact t ea' ec' h'
theorem Iq9 (pp xx bb:Nat) (P:PlanS) (PA:PlA) (h4:P.brs.length≤100):∀ (m i:Nat) (B:BootS) (A:BA),P.brs.length-i=m→i≤P.brs.length→BaOk B A→B.shared.length≤100+i →
  CtJ I1 N4 Bn3 [(1,P0 pp),(2,P0 xx),(3,P0 bb),(6,int i)]
   (pt pp (.cells Dd9 false (Gh8 P PA))::pt xx (.cells E6 false [.slice none 0 0,.slice none 0 0,.slice none 0 0,int 0,.slice none 0 0])::pt bb (.cells E6 false (Ag2 B A))::(A48 false B A++Dx3 P PA))
   fun v own=>∃ A',BaOk (Da3 B i (P.brs.drop i)) A'∧v=.agg ⟨Ag2 (Da3 B i (P.brs.drop i)) A'⟩∧own (A48 false (Da3 B i (P.brs.drop i)) A'++Dx3 P PA):=by
 intro m
 induction m with
 | zero =>
  intro i B A hm hi ok hB
  obtain ⟨fa,fc,ea,ec,sa,sc,ss,ha,hc,hs⟩:=A
  refine CtJ.of A01 fun h r=>Tr.eq (Ed0 ..) ?_;refine Je ?_
  (refine Ja ?_;intros)
  refine Yf (by simp;omega) ?_
  (refine Ja ?_;intros)
  refine Ys fun o=>?_
  rw [List.drop_eq_nil_of_le (by omega),show Da3 B i []=B from rfl]
  exact ⟨⟨fa,fc,ea,ec,sa,sc,ss,ha,hc,hs⟩,ok,rfl,o.sub⟩
 | succ m ih =>
  intro i B A hm hi ok hB
  have hlt:i<P.brs.length:=by omega
  have hx:P.brs[i]?=some P.brs[i]:=List.getElem?_eq_getElem hlt
  have hd:P.brs.drop i=P.brs[i]::P.brs.drop (i+1):=List.drop_eq_getElem_cons hlt
  generalize P.brs[i]=x at hx hd
  have e1:=wN i
  have e2:IntKind.wrap .i64 (8+(i:Int))=8+(i:Int):=by rw [B4];omega
  obtain ⟨fa,fc,ea,ec,sa,sc,ss,ha,hc,hs⟩:=A
  obtain ⟨ba,bc,ra,rc⟩:=PA
  have oks:=ok.ss;have okh:=ok.hs
  simp only at oks okh
  refine CtJ.of A01 fun h r=>Tr.eq (Ed0 ..) ?_;refine Je ?_
  (refine Ja ?_;intros)
  refine Yt (by simp;omega) ?_
  (refine Ja ?_;intros;repeat(refine Gw ?_;rintro px rfl;refine Ja ?_;intros))
  rw [Int.toNat_natCast]
  refine Tr.xAggS (xs:=brL x) ⟨by omega,by rw [Y6 If9];omega,Bi8 If9 hx⟩ ?_
  refine Yn fun b1 h=>?_
  refine Tr.ck rfl ?_
  refine Tr.xPAgg (cs':=brL x) ⟨Nat.le_of_ble_eq_true rfl,rfl,rfl⟩ fun h=>?_
  (refine Jc ?_;intros)
  rw [e2,e1]
  refine Yn fun b2 h=>?_
  refine Yn fun b3 h=>?_
  (refine Ja ?_;intros)
  refine Tr.xApd ?_ (fun a' c' h=>?_);exact ⟨by first|rfl|simp,by first|rfl|simp,by simp only [A8];omega⟩;refine Je ?_
  (refine Ja ?_;intros)
  refine Je ?_
  obtain ⟨Z,hZ⟩:∃ Z:ShareS,Z=⟨x.1,8+(i:Int),0,40,[x.1,x.2]⟩:=⟨_,rfl⟩
  have en:B.shared.length+1=(B.shared++[Z]).length:=by simp
  have ez:(hs.zip B.shared).flatMap Ac9++[Value.int IntKind.i64 x.1,Value.int IntKind.i64 (8+(i:Int)),Value.int IntKind.i64 0,Value.int IntKind.i64 40,.slice (some ⟨b2,0,none⟩) 2 2]=((hs++[((some ⟨b2,0,none⟩:Option Addr),2)]).zip (B.shared++[Z])).flatMap Ac9:=by
   rw [List.zip_append okh,hZ];simp [Ac9]
  rw [ez,en]
  refine Ah3 1 rfl 1 2 rfl (by omega) ?_
  refine Je ?_
  refine G51 (slC false B5 1 (some ⟨b2,0,none⟩) 2 2 [int x.1,int x.2]) (toC false (some ⟨b2,0,none⟩,2) Z) (by rw [hZ];rfl) ?_
  refine Bf2 (toC false) hs B.shared (some ⟨b2,0,none⟩,2) Z okh ?_
  have eb:Da3 B i (P.brs.drop i)=Da3 { B with shared:=B.shared++[Z] } ((i+1:Nat):Int) (P.brs.drop (i+1)):=by rw [hd,hZ];rfl
  rw [eb]
  refine Ad0 [3,3,3,3,3,3,3,3,0,2,2] 2 rfl rfl ?_
  refine Yr (ih (i+1) { B with shared:=B.shared++[Z] } ⟨fa,fc,ea,ec,sa,sc,ss,a',c',hs++[((some ⟨b2,0,none⟩:Option Addr),2)]⟩ (by omega) (by omega) ⟨oks,by simp [okh]⟩ (by simp;omega)) ?_
  rintro _ h ⟨A',ok',rfl,o⟩
  exact ⟨A',ok',rfl,o⟩
theorem Il5 (pp xx bb:Nat) (P:PlanS) (PA:PlA) (h4:P.brs.length≤100) (hb4:P.bad.length≤100):∀ (m i:Nat) (B:BootS) (A:BA),P.bad.length-i=m→i≤P.bad.length→BaOk B A→B.shared.length=i→B.envs.length=9*i→B.frames.length=i→B.sects.length=i →
  CtJ I1 N4 Bo8 [(1,P0 pp),(2,P0 xx),(3,P0 bb),(4,int i)]
   (pt pp (.cells Dd9 false (Gh8 P PA))::pt xx (.cells E6 false [.slice none 0 0,.slice none 0 0,.slice none 0 0,int 0,.slice none 0 0])::pt bb (.cells E6 false (Ag2 B A))::(A48 false B A++Dx3 P PA))
   fun v own=>∃ A',BaOk (Da3 (D40 B m i) 0 P.brs) A'∧v=.agg ⟨Ag2 (Da3 (D40 B m i) 0 P.brs) A'⟩∧own (A48 false (Da3 (D40 B m i) 0 P.brs) A'++Dx3 P PA):=by
 intro m
 induction m with
 | zero =>
  intro i B A hm hi ok h1 h2 h3 h5
  refine CtJ.of A01 fun h r=>Tr.eq (Ed4 ..) ?_;refine Je ?_
  (refine Ja ?_;intros)
  refine Yf (by simp;omega) ?_
  refine Yr (Iq9 pp xx bb P PA h4 _ 0 B A rfl (by omega) ok (by omega)) ?_
  rintro _ h ⟨A',ok',rfl,o⟩
  exact ⟨A',ok',rfl,o⟩
 | succ m ih =>
  intro i B A hm hi ok h1 h2 h3 h5
  have e1:=wN i
  obtain ⟨fa,fc,ea,ec,sa,sc,ss,ha,hc,hs⟩:=A
  obtain ⟨ba,bc,ra,rc⟩:=PA
  have oks:=ok.ss;have okh:=ok.hs
  simp only at oks okh
  refine CtJ.of A01 fun h r=>Tr.eq (Ed4 ..) ?_;refine Je ?_
  (refine Ja ?_;intros)
  refine Yt (by simp;omega) ?_
  (refine Ja ?_;intros)
  refine Tr.xApd ?_ (fun f1 f2 h=>?_);exact ⟨by first|rfl|simp,by first|rfl|simp,by simp only [A8];omega⟩;refine Je ?_
  (refine Ja ?_;intros)
  refine Je ?_
  rw [show B.frames.map int++[Value.int IntKind.i64 20]=(B.frames++[20]).map int by simp,show B.frames.length+1=(B.frames++[20]).length by simp]
  refine Ad0 [3,4] 0 rfl rfl ?_
  refine Je ?_
  refine Ir8 pp xx bb i { B with frames:=B.frames++[20] } f1 sa ha f2 sc hc 9 0 B.envs ea ec _ _ rfl (by omega) (by omega) fun ea' ec' h'=>?_
  refine Tr.jmp A01 (Tr.eq (Ee7 ..) ?_);(try simp only[Nr,Nl,wl,Nat.reduceAdd,Nat.reduceMul,Int.reduceToNat])
  refine Yf rfl ?_
  (refine Jc ?_;intros)
  refine Yn fun b2 h=>?_
  refine Yn fun b3 h=>?_
  (refine Ja ?_;intros)
  refine Tr.xApd ?_ (fun s1 s2 h=>?_);exact ⟨by first|rfl|simp,by first|rfl|simp,by simp only [A8];omega⟩;refine Je ?_
  (refine Jc ?_;intros)
  refine Je ?_
  refine Yn fun b4 h=>?_
  refine Yn fun b5 h=>?_
  (refine Ja ?_;intros)
  refine Tr.xApd ?_ (fun z1 z2 h=>?_);exact ⟨by first|rfl|simp,by first|rfl|simp,by simp only [A8];omega⟩;refine Je ?_
  (refine Ja ?_;intros)
  refine Je ?_
  rw [e1]
  obtain ⟨Z,hZ⟩:∃ Z:ShareS,Z=⟨i,0,0,492,[(i:Int)]⟩:=⟨_,rfl⟩
  have en:B.shared.length+1=(B.shared++[Z]).length:=by simp
  have ez:(hs.zip B.shared).flatMap Ac9++[Value.int IntKind.i64 (i:Int),Value.int IntKind.i64 0,Value.int IntKind.i64 0,Value.int IntKind.i64 492,.slice (some ⟨b4,0,none⟩) 1 1]=((hs++[((some ⟨b4,0,none⟩:Option Addr),1)]).zip (B.shared++[Z])).flatMap Ac9:=by
   rw [List.zip_append okh,hZ];simp [Ac9]
  have es:B.sects.length+1=(B.sects++[[(i:Int)]]).length:=by simp
  have ev:Dd6 ss B.sects++[Value.slice (some ⟨b2,0,none⟩) 1 1]=Dd6 (ss++[((some ⟨b2,0,none⟩:Option Addr),1)]) (B.sects++[[(i:Int)]]):=(Gw8 (some ⟨b2,0,none⟩,1) [(i:Int)] oks).symm
  rw [ez,en,ev,es]
  refine Ah3 1 rfl 1 1 rfl (by omega) ?_
  refine Je ?_
  refine Ah3 3 rfl 1 1 rfl (by omega) ?_
  refine Je ?_
  refine G51 (slC false B5 1 (some ⟨b4,0,none⟩) 1 1 [int i]) (toC false (some ⟨b4,0,none⟩,1) Z) (by rw [hZ];rfl) ?_
  refine Bf2 (toC false) hs B.shared (some ⟨b4,0,none⟩,1) Z okh ?_
  refine G51 (slC false B5 1 (some ⟨b2,0,none⟩) 1 1 [int i]) (rsC false (some ⟨b2,0,none⟩,1) [(i:Int)]) rfl ?_
  refine Bf2 (rsC false) ss B.sects (some ⟨b2,0,none⟩,1) [(i:Int)] oks ?_
  refine Ad0 [7,7,4,6,4,5,0,4,0,3,3] 3 rfl rfl ?_
  have eb:D40 B (m+1) i=D40 { B with frames:=B.frames++[20],envs:=B.envs++List.replicate 9 (i:Int),sects:=B.sects++[[(i:Int)]],shared:=B.shared++[Z] } m ((i+1:Nat):Int):=by rw [hZ];rfl
  rw [eb]
  refine Yr (ih (i+1) { B with frames:=B.frames++[20],envs:=B.envs++List.replicate 9 (i:Int),sects:=B.sects++[[(i:Int)]],shared:=B.shared++[Z] }
   ⟨f1,f2,ea',ec',s1,s2,ss++[((some ⟨b2,0,none⟩:Option Addr),1)],z1,z2,hs++[((some ⟨b4,0,none⟩:Option Addr),1)]⟩ (by omega) (by omega) ⟨by simp [oks],by simp [okh]⟩ (by simp;omega) (by simp;omega) (by simp;omega) (by simp;omega)) ?_
  rintro _ h ⟨A',ok',rfl,o⟩
  exact ⟨A',ok',rfl,o⟩
theorem Jk5 (P:PlanS) (PA:PlA) (h4:P.brs.length≤100) (hb4:P.bad.length≤100):Ct A7 N4 [.agg ⟨Gh8 P PA⟩] (Dx3 P PA) fun v own =>
  ∃ A,BaOk (E81 P) A∧v=.agg ⟨Ag2 (E81 P) A⟩∧own (A48 false (E81 P) A++Dx3 P PA):=by
 refine Ct.of A01 rfl fun h r=>Tr.eq (Hu0 ..) ?_;refine Je ?_
 refine Yn fun pp h=>?_
 refine Yn fun xx h=>?_
 (refine Jc ?_;intros)
 refine Yn fun bb h=>?_
 (refine Ja ?_;intros)
 refine G6 false B5 1 (by omega) ?_
 refine G6 false B5 1 (by omega) ?_
 refine G6 false V7 1 (by omega) ?_
 refine D20 (rsC false) ?_
 refine G6 false M6 5 (by omega) ?_
 refine D20 (toC false) ?_
 refine D21 (Il5 pp xx bb P PA h4 hb4 _ 0 ⟨[],[],[],P.lease,[]⟩ ⟨none,0,none,0,none,0,[],none,0,[]⟩ rfl (by omega) ⟨rfl,rfl⟩ rfl rfl rfl rfl) [8,7,6,5,4,3,2,1,0,0,0] rfl ?_
 rintro _ h ⟨A',ok',rfl,o⟩
 exact ⟨A',ok',rfl,o⟩
structure RSe where
 lease:Int
 who:Int
 stamp:Int
 since:Int
 last:Int
 first:Int
 held:Bool
 now:Int
 queue:List Int
abbrev Jn5 (t:Nat) (T:RSe) (x:Option Addr × Nat):List HP:=[pt t (.cells Gp6 false [int T.lease,int T.who,int T.stamp,int T.since,int T.last,int T.first,.bool T.held,int T.now,.slice x.1 T.queue.length x.2]),slC false B5 1 x.1 T.queue.length x.2 (T.queue.map int)]
def Hb6 (t:Nat) (T:RSe):HP:=hex fun x=>sl (Jn5 t T x)
instance {t:Nat} {T:RSe}:Chk (Hb6 t T) (Jn5 t T):=⟨rfl⟩
def Dl0 (lease:Int):RSe:=⟨min (max lease 1) 1000,0,0,0,0,0,false,0,[]⟩
theorem Id1 (lease:Int):Ct A7 Bt4 [int lease] [] fun v own=>∃ t,v=P0 t∧own [Hb6 t (Dl0 lease)]:=by
 refine Ct.of G92 rfl fun h r=>Tr.eq (G80 ..) ?_;refine Je ?_
 rw [Z9,Ae3]
 refine Yn fun t h=>?_
 refine G6 false B5 1 (by omega) ?_
 refine G0 (Hb6 t (Dl0 lease)) (none,0) [1,0] rfl ?_;refine Je ?_
 refine Ys fun o=>?_
 exact ⟨t,rfl,o.sub⟩
theorem I09 (p:HP) (a:Option Addr) (ro:Bool) (c:Nat) (l:List Int) (s:Int) [ks:IsSl p a ro B5 1 l.length c (l.map int)] (hl:l.length≤A8):∀ (m i:Nat),l.length-i=m→i≤l.length →
  Z8 I1 Be7 Dc5 [(0,.slice a l.length c),(1,int s),(5,int i)] [p] (.bool (decide (s ∈ l.drop i))):=by
 intro m
 induction m with
 | zero =>
  intro i hm hi
  refine Z8.of E89 fun h r=>Tr.eq (E72 ..) ?_;refine Je ?_
  refine Yf (by simp;omega) ?_
  refine Ys fun o=>?_
  rw [List.drop_eq_nil_of_le (by omega)];exact ⟨by simp,rfl⟩
 | succ m ih =>
  intro i hm hi
  have hlt:i<l.length:=by omega
  have hp:l[i]?=some l[i]:=List.getElem?_eq_getElem hlt
  have hd:l.drop i=l[i]::l.drop (i+1):=List.drop_eq_getElem_cons hlt
  generalize l[i]=x at hp hd
  have e1:IntKind.wrap .i64 ((i:Int)+1)=((i+1:Nat):Int):=by rw [B4];simp only [A8] at hl;omega
  refine Z8.of E89 fun h r=>Tr.eq (E72 ..) ?_;refine Je ?_
  refine Yt (by simp;omega) ?_
  (refine Ja ?_;intros;repeat(refine Gw ?_;rintro px rfl;refine Ja ?_;intros))
  rw [Int.toNat_natCast]
  refine Tr.xIntS (v:=x) (G91 hp) ?_
  rw [hd]
  by_cases hx:x=s
  ·refine Yt (by simpa using hx) ?_
   refine Ys fun o=>?_
   exact ⟨by simp [hx],rfl⟩
  ·refine Yf (by simpa using hx) ?_
   rw [e1]
   refine Ad5 (ih (i+1) (by omega) (by omega)) (r:=r) (by simp) fun o=>⟨?_,rfl⟩
   have:¬ s=x:=fun e=>hx e.symm
   simp [this]
theorem Jo1 (p:HP) (a:Option Addr) (ro:Bool) (c:Nat) (l:List Int) (s:Int) [ks:IsSl p a ro B5 1 l.length c (l.map int)] (hl:l.length≤A8):CtP A7 Be7 [.slice a l.length c,int s] [p] (.bool (decide (s ∈ l))):=by
 refine CtP.of E89 rfl fun h r=>Tr.eq (Iu6 ..) ?_;refine Je ?_
 have J:=I09 p a ro c l s hl _ 0 rfl (by omega)
 rw [List.drop_zero] at J
 exact Ad5 J (r:=r) (by simp) fun o=>⟨rfl,rfl⟩
structure RKS where
 B:BootS
 Q:List (List Bool)
 R:RgS
 T:List RSe
 now:Int
structure RKA where
 A:BA
 q:Nat
 g:Nat
 ta:Option Addr
 tc:Nat
 ts:List Nat
abbrev rkL (K:RKS) (x:RKA):List Value:=[.slice x.A.fa K.B.frames.length x.A.fc,.slice x.A.ea K.B.envs.length x.A.ec,.slice x.A.sa K.B.sects.length x.A.sc,int K.B.lease,.slice x.A.ha K.B.shared.length x.A.hc,P0 x.q,P0 x.g,.slice x.ta K.T.length x.tc,int K.now]
abbrev rkF (w:Nat) (K:RKS) (x:RKA):List HP :=
 [pt w (.cells Gn3 false (rkL K x)),slC false B5 1 x.A.fa K.B.frames.length x.A.fc (K.B.frames.map int),slC false B5 1 x.A.ea K.B.envs.length x.A.ec (K.B.envs.map int),slC false V7 1 x.A.sa K.B.sects.length x.A.sc (Dd6 x.A.ss K.B.sects),N0 (rsC false) x.A.ss K.B.sects,
   slC false M6 5 x.A.ha K.B.shared.length x.A.hc ((List.zip x.A.hs K.B.shared).flatMap Ac9),N0 (toC false) x.A.hs K.B.shared,
   qtC x.q K.Q,rgC x.g K.R,slC false Bk3 1 x.ta K.T.length x.tc (x.ts.map P0),N0 Hb6 x.ts K.T,pu (BaOk K.B x.A∧x.ts.length=K.T.length)]
def rkC (w:Nat) (K:RKS):HP:=hex fun x=>sl (rkF w K x)
instance {w:Nat} {K:RKS}:Chk (rkC w K) (rkF w K):=⟨rfl⟩
def Aj8 (obj n:Int) (to:List Int):Nat→List Int→List NmL × List (List CapS)→List NmL × List (List CapS)
 | _,[],s=>s
 | j,e::l,s=>Aj8 obj n to (j+1) l (if e ∈ to then (A55 s.1 s.2 j ⟨obj,3,0,n,0,0⟩).2 else s)
def Br1 (K:RKS) (x:ShareS):RKS :=
 let a:=Br0 K.R (64*((M0 K.Q x.session.toNat:Int)+x.frame)+x.lo) x.n
 let s:=Aj8 a.1.1 x.n x.to 0 K.B.envs (a.2.N,a.2.C)
 { K with R:={ a.2 with N:=s.1,C:=s.2 } }
structure RKOk (K:RKS):Prop where
 R:RgOkS K.R
 nm:K.R.N.length=K.B.envs.length
 q:K.Q.length≤4
 qe:∀ x ∈ K.Q,x.length≤64
theorem Ii6 {R:RgS} (k:RgOkS R) (lo n:Int):RgOkS (Br0 R lo n).2∧(Br0 R lo n).2.N=R.N∧(Br0 R lo n).2.C=R.C∧(Br0 R lo n).2.M=R.M:=by
 unfold Br0
 split
 ·rename_i hw
  split
  ·exact ⟨k,rfl,rfl,rfl⟩
  ·refine ⟨⟨k.sp,by simp [k.eq],by simp;omega,k.mem,fun i l z h1 h2=>?_⟩,rfl,rfl,rfl⟩
   simp only at h1 h2 ⊢
   by_cases hi:i<R.lo.length
   ·rw [List.getElem?_append_left hi] at h1
    rw [List.getElem?_append_left (by rw [k.eq];exact hi)] at h2
    exact k.each i l z h1 h2
   ·rw [List.getElem?_append_right (by omega)] at h1
    rw [List.getElem?_append_right (by rw [k.eq];omega)] at h2
    have e1:i=R.lo.length:=by
     have:=(List.getElem?_eq_some_iff.1 h1).1
     simp at this;omega
    subst e1
    simp at h1;rw [k.eq] at h2;simp at h2
    subst h1 h2
    have hm:=k.mem
    unfold Bc8 at hw
    simp only [Bool.and_eq_true,decide_eq_true_eq,B4] at hw
    omega
 ·exact ⟨k,rfl,rfl,rfl⟩
theorem Ej1 (obj n:Int) (to:List Int):∀ (l:List Int) (j:Nat) (s:List NmL × List (List CapS)),SpOk s.1 s.2→j+l.length≤s.1.length→SpOk (Aj8 obj n to j l s).1 (Aj8 obj n to j l s).2∧(Aj8 obj n to j l s).1.length=s.1.length
 | [],j,s,k,h=>⟨k,rfl⟩
 | e::l,j,s,k,h=>by
  unfold Aj8
  simp only [List.length_cons] at h
  split
  ·have hs:=Hh0 k j (by omega) ⟨obj,3,0,n,0,0⟩
   have:=Ej1 obj n to l (j+1) _ hs.1 (by rw [hs.2];omega)
   exact ⟨this.1,this.2.trans hs.2⟩
  ·exact Ej1 obj n to l (j+1) s k (by omega)
theorem Hj7 {K:RKS} (k:RKOk K) (x:ShareS):RKOk (Br1 K x):=by
 have ha:=Ii6 k.R (64*((M0 K.Q x.session.toNat:Int)+x.frame)+x.lo) x.n
 unfold Br1
 generalize Br0 K.R (64*((M0 K.Q x.session.toNat:Int)+x.frame)+x.lo) x.n=a at ha
 obtain ⟨a1,R'⟩:=a
 obtain ⟨ha1,ha2,_,_⟩:=ha
 simp only at ha1 ha2 ⊢
 have hl:R'.N.length=K.B.envs.length:=by rw [ha2];exact k.nm
 have hs:=Ej1 a1.1 x.n x.to K.B.envs 0 (R'.N,R'.C) ha1.sp (by simp only;omega)
 exact ⟨⟨hs.1,ha1.eq,ha1.few,ha1.mem,ha1.each⟩,hs.2.trans hl,k.q,k.qe⟩
theorem G99 (w b i:Nat) (K:RKS) (x:RKA) (Z:ShareS) (y:Option Addr × Nat) (bx:Nat) (obj:Int) (hZ:K.B.shared[i]?=some Z) (hy:x.A.hs[i]?=some y) (hto:Z.to.length≤A8) (h40:K.B.envs.length≤40) (hx:BaOk K.B x.A∧x.ts.length=K.T.length)
  (Rq:RKS→Value→(List HP→Prop)→Prop)
  (next:∀ K':RKS,RKOk K'→K'.B=K.B→K'.Q=K.Q→K'.T=K.T→CtJ I1 I2 At6 [(1,P0 b),(3,P0 w),(5,int (IntKind.wrap .i64 ((i:Int)+1)))] (pt b (.cells E6 false (Ag2 K.B x.A))::rkF w K' x) (Rq K')) :
  ∀ (m j:Nat) (K':RKS),RKOk K'→K'.B=K.B→K'.Q=K.Q→K'.T=K.T→K.B.envs.length-j=m→j≤K.B.envs.length →
  CtJ I1 I2 At3 [(1,P0 b),(3,P0 w),(5,int i),(6,P0 bx),(7,int obj),(9,int j)] (pt bx (.cells M6 false (Ac9 (y,Z)))::pt b (.cells E6 false (Ag2 K.B x.A))::rkF w K' x)
   (Rq { K' with R:={ K'.R with N:=(Aj8 obj Z.n Z.to j (K.B.envs.drop j) (K'.R.N,K'.R.C)).1,C:=(Aj8 obj Z.n Z.to j (K.B.envs.drop j) (K'.R.N,K'.R.C)).2 } }):=by
 intro m
 induction m with
 | zero =>
  intro j K' ok hB hQ hT hm hj
  obtain ⟨⟨fa,fc,ea,ec,sa,sc,ss,ha,hc,hs⟩,q,g,ta,tc,ts⟩:=x
  obtain ⟨KB,KQ,KR,KT,Kn⟩:=K'
  simp only at hB hQ hT
  subst hB hQ hT
  refine CtJ.of Ao0 fun h r=>Tr.eq (Dv5 ..) ?_;refine Je ?_
  (refine Ja ?_;intros)
  refine Yf (by simp;omega) ?_
  rw [List.drop_eq_nil_of_le (by omega)]
  intro o
  refine (?_:Tr _ _ _ _) o.tail
  refine Yr (next ⟨K.B,K.Q,KR,K.T,Kn⟩ ok rfl rfl rfl) ?_
  intro v h q
  exact q
 | succ m ih =>
  intro j K' ok hB hQ hT hm hj
  have hlt:j<K.B.envs.length:=by omega
  have hp:K.B.envs[j]?=some K.B.envs[j]:=List.getElem?_eq_getElem hlt
  have hd:K.B.envs.drop j=K.B.envs[j]::K.B.envs.drop (j+1):=List.drop_eq_getElem_cons hlt
  generalize K.B.envs[j]=e at hp hd
  have e1:=wN j
  obtain ⟨⟨fa,fc,ea,ec,sa,sc,ss,ha,hc,hs⟩,q,g,ta,tc,ts⟩:=x
  obtain ⟨KB,KQ,KR,KT,Kn⟩:=K'
  simp only at hB hQ hT
  subst hB hQ hT
  have okR:=ok.R
  have hnm:=ok.nm
  simp only at hnm okR
  refine CtJ.of Ao0 fun h r=>Tr.eq (Dv5 ..) ?_;refine Je ?_
  (refine Ja ?_;intros)
  refine Yt (by simp;omega) ?_
  (refine Ja ?_;intros;repeat(refine Gw ?_;rintro px rfl;refine Ja ?_;intros))
  rw [Int.toNat_natCast]
  refine Tr.xIntS (v:=e) (G91 hp) ?_
  refine Ah8 (toC false) hs K.B.shared hy hZ ?_
  obtain ⟨ya,yc⟩:=y
  refine Tr.pcall (Jo1 (toC false (ya,yc) Z) ya false yc Z.to e hto) ?_;refine Je ?_;(refine Ja ?_;intros)
  refine As7 (toC false) hs K.B.shared i hy hZ ?_
  rw [hd,e1]
  by_cases he:e ∈ Z.to
  ·refine Yt (by simpa using he) ?_
   have er:Aj8 obj Z.n Z.to j (e::K.B.envs.drop (j+1)) (KR.N,KR.C)=Aj8 obj Z.n Z.to (j+1) (K.B.envs.drop (j+1)) (A55 KR.N KR.C j ⟨obj,3,0,Z.n,0,0⟩).2:=by
    show Aj8 obj Z.n Z.to (j+1) _ (if e ∈ Z.to then _ else _)=_
    rw [if_pos he]
   rw [er]
   have hs2:=Hh0 okR.sp j (by omega) ⟨obj,3,0,Z.n,0,0⟩
   refine B1 (rgC g KR) fun ⟨gq,gla,glc,gza,gzc,gs⟩=>?_;refine Je ?_
   (refine Ja ?_;intros)
   dsimp only
   refine Je ?_
   (refine Ja ?_;intros)
   refine Yc (I53 gs KR.N KR.C okR.sp j (by omega) ⟨obj,3,0,Z.n,0,0⟩) ?_;rintro _ h ⟨rfl,o⟩<;>(refine Jf o ?_;intros)
   simp only [v2]
   (refine Ja ?_;intros)
   generalize hS:(A55 KR.N KR.C j ⟨obj,3,0,Z.n,0,0⟩).2=S2 at hs2
   obtain ⟨N2,C2⟩:=S2
   refine A9 (rgC g { KR with N:=N2,C:=C2 }) ⟨gq,gla,glc,gza,gzc,gs⟩ ?_;refine Je ?_
   refine Yr (ih (j+1) ⟨K.B,K.Q,{ KR with N:=N2,C:=C2 },K.T,Kn⟩ ⟨⟨hs2.1,okR.eq,okR.few,okR.mem,okR.each⟩,hs2.2.trans hnm,ok.q,ok.qe⟩ rfl rfl rfl (by omega) (by omega)) ?_
   intro v h q
   exact q
  ·refine Yf (by simpa using he) ?_
   have er:Aj8 obj Z.n Z.to j (e::K.B.envs.drop (j+1)) (KR.N,KR.C)=Aj8 obj Z.n Z.to (j+1) (K.B.envs.drop (j+1)) (KR.N,KR.C):=by
    show Aj8 obj Z.n Z.to (j+1) _ (if e ∈ Z.to then _ else _)=_
    rw [if_neg he]
   rw [er]
   refine Yr (ih (j+1) ⟨K.B,K.Q,KR,K.T,Kn⟩ ok rfl rfl rfl (by omega) (by omega)) ?_
   intro v h q
   exact q
structure RBoot (B:BootS) (Q:List (List Bool)):Prop where
 envs:B.envs.length≤40
 few:B.shared.length≤100
 sects:B.sects.length≤100
 to:∀ x ∈ B.shared,x.to.length≤A8
 ok:∀ x ∈ B.shared,0≤x.session∧x.session≤Q.length∧0≤x.frame∧x.frame≤64∧0≤x.lo∧x.lo≤65536
theorem G86 (w b:Nat) (K0:RKS) (x:RKA) (bo:RBoot K0.B K0.Q) (hx:BaOk K0.B x.A∧x.ts.length=K0.T.length):∀ (m i:Nat) (K:RKS),RKOk K→K.B=K0.B→K.Q=K0.Q→K.T=K0.T→K0.B.shared.length-i=m→i≤K0.B.shared.length →
  CtJ I1 I2 At6 [(1,P0 b),(3,P0 w),(5,int i)] (pt b (.cells E6 false (Ag2 K0.B x.A))::rkF w K x) fun v own=>v=P0 w∧own (rkF w ((K0.B.shared.drop i).foldl Br1 K) x):=by
 intro m
 induction m with
 | zero =>
  intro i K ok hB hQ hT hm hi
  obtain ⟨⟨fa,fc,ea,ec,sa,sc,ss,ha,hc,hs⟩,q,g,ta,tc,ts⟩:=x
  refine CtJ.of Ao0 fun h r=>Tr.eq (Dv0 ..) ?_;refine Je ?_
  (refine Ja ?_;intros)
  refine Yf (by simp;omega) ?_
  refine Ys fun o=>?_
  rw [List.drop_eq_nil_of_le (by omega)]
  exact ⟨rfl,o.tail⟩
 | succ m ih =>
  intro i K ok hB hQ hT hm hi
  have hlt:i<K0.B.shared.length:=by omega
  have hZ:K0.B.shared[i]?=some K0.B.shared[i]:=List.getElem?_eq_getElem hlt
  have hd:K0.B.shared.drop i=K0.B.shared[i]::K0.B.shared.drop (i+1):=List.drop_eq_getElem_cons hlt
  have hto:=bo.to _ (List.getElem_mem hlt)
  have hok:=bo.ok _ (List.getElem_mem hlt)
  generalize K0.B.shared[i]=Z at hZ hd hto hok
  have hf:=bo.few
  have e1:=wN i
  obtain ⟨y,hy⟩:=G96 hx.1.hs hZ
  obtain ⟨KB,KQ,KR,KT,Kn⟩:=K
  simp only at hB hQ hT
  subst hB hQ hT
  have ok2:=Hj7 ok Z
  have hle:∀ j,M0 K0.Q j≤256:=by
   intro j
   unfold M0
   have h1:∀ (l:List (List Bool)),(∀ x ∈ l,x.length≤64)→(l.map List.length).sum≤64*l.length:=by
    intro l
    induction l with
    | nil=>simp
    | cons x l ih2 =>
     intro h
     have:=ih2 fun y hy=>h y (List.mem_cons_of_mem _ hy)
     have:=h x (List.mem_cons_self ..)
     simp only [List.map_cons,List.sum_cons,List.length_cons];omega
   have h2:=h1 (K0.Q.take j) fun x hx=>ok.qe x (List.mem_of_mem_take hx)
   have h3:(K0.Q.take j).length≤4:=by rw [List.length_take];have:=ok.q;simp only at this;omega
   omega
  have hq1:=hle Z.session.toNat
  have eL:IntKind.wrap .i64 (IntKind.wrap .i64 (64*IntKind.wrap .i64 ((M0 K0.Q Z.session.toNat:Int)+Z.frame))+Z.lo)=64*((M0 K0.Q Z.session.toNat:Int)+Z.frame)+Z.lo:=by rw [B4,B4,B4];omega
  have ha:=Ii6 ok.R (64*((M0 K0.Q Z.session.toNat:Int)+Z.frame)+Z.lo) Z.n
  have L3:=fun bx obj=>G99 w b i ⟨K0.B,K0.Q,KR,K0.T,Kn⟩ x Z y bx obj hZ hy hto bo.envs hx (fun K v own=>v=P0 w∧own (rkF w ((K0.B.shared.drop (i+1)).foldl Br1 K) x))
   (fun K' okK hB hQ hT=>by rw [e1];exact ih (i+1) K' okK hB hQ hT (by omega) (by omega)) _ 0 ⟨K0.B,K0.Q,(Br0 KR (64*((M0 K0.Q Z.session.toNat:Int)+Z.frame)+Z.lo) Z.n).2,K0.T,Kn⟩ ⟨ha.1,by simp only;rw [ha.2.1];exact ok.nm,ok.q,ok.qe⟩ rfl rfl rfl rfl (by omega)
  have okR:=ok.R
  simp only at okR
  obtain ⟨⟨fa,fc,ea,ec,sa,sc,ss,hha,hc,hs⟩,q,g,ta,tc,ts⟩:=x
  refine CtJ.of Ao0 fun h r=>Tr.eq (Dv0 ..) ?_;refine Je ?_
  (refine Ja ?_;intros)
  refine Yt (by simp;omega) ?_
  (refine Ja ?_;intros;repeat(refine Gw ?_;rintro px rfl;refine Ja ?_;intros))
  rw [Int.toNat_natCast]
  have hz:=Hx7 hy hZ
  refine Tr.xAggS (xs:=Ac9 (y,Z)) ⟨by omega,by rw [Y6 Bv1];have:=hx.1.hs;simp at this ⊢;omega,Bi8 Bv1 hz⟩ ?_
  refine Yn fun bx h1=>?_
  refine Tr.ck rfl ?_
  refine Tr.xPAgg (cs':=Ac9 (y,Z)) ⟨Nat.le_of_ble_eq_true rfl,rfl,rfl⟩ fun h=>?_
  (refine Ja ?_;intros)
  have J1:=G52 q K0.Q Z.session.toNat (by omega) ok.q ok.qe
  rw [show ((Z.session.toNat:Nat):Int)=Z.session by omega] at J1
  refine Tr.pcall (J1) ?_;refine Je ?_;(refine Ja ?_;intros)
  rw [eL]
  refine Yc (Jh5 g KR okR (64*((M0 K0.Q Z.session.toNat:Int)+Z.frame)+Z.lo) Z.n) ?_;rintro _ h ⟨rfl,o⟩<;>(refine Jf o ?_;intros)
  simp only [v2]
  (refine Ja ?_;intros)
  rw [hd]
  refine Yr (L3 bx (Br0 KR (64*((M0 K0.Q Z.session.toNat:Int)+Z.frame)+Z.lo) Z.n).1.1) ?_
  rintro v h ⟨rfl,o⟩
  exact ⟨rfl,o⟩
theorem Hb9 (w b:Nat) (B:BootS) (Q:List (List Bool)) (R:RgS) (bo:RBoot B Q):∀ (m i:Nat) (x:RKA) (T:List RSe),RKOk ⟨B,Q,R,T,0⟩→(BaOk B x.A∧x.ts.length=T.length)→B.sects.length-i=m→i≤B.sects.length→T=List.replicate i (Dl0 B.lease) →
  CtJ I1 I2 Ba9 [(1,P0 b),(3,P0 w),(4,int i)] (pt b (.cells E6 false (Ag2 B x.A))::rkF w ⟨B,Q,R,T,0⟩ x) fun v own=>v=P0 w∧own [rkC w (B.shared.foldl Br1 ⟨B,Q,R,List.replicate B.sects.length (Dl0 B.lease),0⟩)]:=by
 intro m
 induction m with
 | zero =>
  intro i x T ok hx hm hi hT
  obtain rfl:i=B.sects.length:=by omega
  subst hT
  have L2:=G86 w b ⟨B,Q,R,List.replicate B.sects.length (Dl0 B.lease),0⟩ x bo hx _ 0 ⟨B,Q,R,List.replicate B.sects.length (Dl0 B.lease),0⟩ ok rfl rfl rfl rfl (by omega)
  obtain ⟨⟨fa,fc,ea,ec,sa,sc,ss,ha,hc,hs⟩,q,g,ta,tc,ts⟩:=x
  refine CtJ.of Ao0 fun h r=>Tr.eq (Dv8 ..) ?_;refine Je ?_
  (refine Ja ?_;intros)
  refine Yf (by simp) ?_
  refine Yr L2 ?_
  rintro v h ⟨rfl,o⟩
  exact ⟨rfl,Own.shut (f:=rkF w (B.shared.foldl Br1 ⟨B,Q,R,List.replicate B.sects.length (Dl0 B.lease),0⟩)) _ o⟩
 | succ m ih =>
  intro i x T ok hx hm hi hT
  have hlt:i<B.sects.length:=by omega
  have hl:T.length=i:=by rw [hT];simp
  have hs8:=bo.sects
  have e1:=wN i
  obtain ⟨⟨fa,fc,ea,ec,sa,sc,ss,ha,hc,hs⟩,q,g,ta,tc,ts⟩:=x
  have hts:=hx.2
  simp only at hts
  refine CtJ.of Ao0 fun h r=>Tr.eq (Dv8 ..) ?_;refine Je ?_
  (refine Ja ?_;intros)
  refine Yt (by simp;omega) ?_
  (refine Ja ?_;intros)
  refine Yc (Id1 B.lease) ?_;rintro _ h ⟨t,rfl,o⟩<;>(refine Jf o ?_;intros)
  refine Tr.xApd ?_ (fun a' c' h=>?_);exact ⟨by first|rfl|simp,by first|rfl|simp,by simp only [A8];omega⟩;refine Je ?_
  (refine Ja ?_;intros)
  refine Je ?_
  rw [e1,show T.length+1=(T++[Dl0 B.lease]).length by simp,show ts.map P0++[Value.pointer (some ⟨t,0,none⟩)]=(ts++[t]).map P0 by simp]
  refine Bf2 Hb6 ts T t (Dl0 B.lease) hts ?_
  refine Aw3 (show BaOk B ⟨fa,fc,ea,ec,sa,sc,ss,ha,hc,hs⟩∧(ts++[t]).length=(T++[Dl0 B.lease]).length from ⟨hx.1,by simp [hts]⟩) ?_
  refine Yr (ih (i+1) ⟨⟨fa,fc,ea,ec,sa,sc,ss,ha,hc,hs⟩,q,g,a',c',ts++[t]⟩ (T++[Dl0 B.lease]) ⟨ok.R,ok.nm,ok.q,ok.qe⟩ ⟨hx.1,by simp [hts]⟩ (by omega) (by omega) (by rw [hT];exact List.replicate_succ'.symm)) ?_
  rintro v h ⟨rfl,o⟩
  exact ⟨rfl,o.sub⟩
def B24 (B:BootS):RKS:=⟨B,Ao5 B.frames,⟨List.replicate (64*M0 (Ao5 B.frames) B.frames.length) 0,[],[],List.replicate B.envs.length (List.replicate 32 (1,false)),List.replicate B.envs.length (List.replicate 32 .zero)⟩,List.replicate B.sects.length (Dl0 B.lease),0⟩
def Dj8 (B:BootS):RKS:=B.shared.foldl Br1 (B24 B)
theorem Gf9 (l:List Int):∀ x ∈ Ao5 l,x.length≤64:=by
 intro x hx
 simp only [Ao5,List.mem_map] at hx
 obtain ⟨n,_,rfl⟩:=hx
 simp [G9];omega
theorem G50 {L:List (List Bool)} (hb:∀ x ∈ L,x.length≤64) (j:Nat):M0 L j≤64*L.length:=by
 have h1:∀ (l:List (List Bool)),(∀ x ∈ l,x.length≤64)→(l.map List.length).sum≤64*l.length:=by
  intro l
  induction l with
  | nil=>simp
  | cons x l ih2 =>
   intro h
   have:=ih2 fun y hy=>h y (List.mem_cons_of_mem _ hy)
   have:=h x (List.mem_cons_self ..)
   simp only [List.map_cons,List.sum_cons,List.length_cons];omega
 unfold M0
 have h2:=h1 (L.take j) fun x hx=>hb x (List.mem_of_mem_take hx)
 have h3:(L.take j).length≤L.length:=by rw [List.length_take];omega
 omega
theorem Hp8 {B:BootS} (h4:B.frames.length≤4) (h40:B.envs.length≤40) (T:List RSe):RKOk { B24 B with T:=T }:=by
 have hq:=G50 (Gf9 B.frames) B.frames.length
 have hl:(Ao5 B.frames).length=B.frames.length:=by simp [Ao5]
 refine ⟨⟨⟨by simpa [B24] using h40,by simp [B24],fun L hL=>?_,fun i L l h1 h2=>?_⟩,rfl,by simp [B24],by simp [B24];omega,fun i lo n h1 h2=>by simp [B24] at h1⟩,by simp [B24],by simpa [B24,Ao5] using h4,Gf9 _⟩
 ·simp only [B24,List.mem_replicate] at hL
  rw [hL.2]
  refine ⟨by simp,fun p hp=>?_⟩
  rw [List.mem_replicate] at hp
  rw [hp.2];simp
 ·simp only [B24,List.getElem?_replicate] at h1 h2
  by_cases hh:i<B.envs.length
  ·rw [if_pos hh] at h1 h2
   cases h1;cases h2;simp
  ·rw [if_neg hh] at h1;cases h1
theorem E64:∀ (l:List ShareS) (K:RKS),RKOk K→RKOk (l.foldl Br1 K)∧(l.foldl Br1 K).B=K.B
 | [],K,k=>⟨k,rfl⟩
 | x::l,K,k=>by
  have:=E64 l (Br1 K x) (Hj7 k x)
  exact ⟨this.1,this.2⟩
theorem Jh3 {B:BootS} (h4:B.frames.length≤4) (h40:B.envs.length≤40):RKOk (Dj8 B)∧(Dj8 B).B=B :=
 E64 B.shared (B24 B) (Hp8 h4 h40 _)
instance (priority:=low) {cs:List Value} {n:Nat} [k:LenC cs n]:PartC cs 0 n cs:=⟨B77 k.ok⟩
class OneL (cs:List Value):Prop where
 ok:cs.all Value.oneCell=true
instance:OneL []:=⟨rfl⟩
instance {a:Option Addr} {n c:Nat} {cs:List Value} [k:OneL cs]:OneL (.slice a n c::cs):=⟨k.ok⟩
instance {a:Option Addr} {cs:List Value} [k:OneL cs]:OneL (.pointer a::cs):=⟨k.ok⟩
instance {q:IntKind} {n:Int} {cs:List Value} [k:OneL cs]:OneL (.int q n::cs):=⟨k.ok⟩
instance {b:Bool} {cs:List Value} [k:OneL cs]:OneL (.bool b::cs):=⟨k.ok⟩
class LenO (cs:List Value) (n:outParam Nat):Prop where
 ok:cs.length=n
instance:LenO [] 0:=⟨rfl⟩
instance {v:Value} {cs:List Value} {n:Nat} [k:LenO cs n]:LenO (v::cs) (n+1):=⟨by simp [k.ok]⟩
instance (priority:=low) {cs vs:List Value} {n:Nat} [g:LenO vs n] [k:LenC cs n] [o:OneL vs]:SetsC cs 0 vs vs:=⟨Br7 k.ok g.ok o.ok⟩
class Sm1 (v:Value):Prop where
 ok:Bb3 v v=true
instance {a:Option Addr} {n c:Nat}:Sm1 (.slice a n c):=⟨by simp [Bb3,Dy5]⟩
instance {a:Option Addr}:Sm1 (.pointer a):=⟨by simp [Bb3,Dy5]⟩
instance {k:IntKind} {n:Int}:Sm1 (.int k n):=⟨by simp [Bb3]⟩
instance {b:Bool}:Sm1 (.bool b):=⟨by simp [Bb3]⟩
class SmL (cs:List Value):Prop where
 ok:B19 cs cs=true
instance:SmL []:=⟨rfl⟩
instance {v:Value} {cs:List Value} [a:Sm1 v] [b:SmL cs]:SmL (v::cs):=⟨by simp [B19,a.ok,b.ok]⟩
instance {cs:List Value} [k:SmL cs]:SameC (.agg ⟨cs⟩):=⟨k.ok⟩
theorem Ic1 (B:BootS) (A:BA) (ka:BaOk B A) (h4:B.frames.length≤4) (bo:RBoot B (Ao5 B.frames)):Ct A7 I2 [.agg ⟨Ag2 B A⟩] (A48 false B A) fun v own=>∃ w,v=P0 w∧own [rkC w (Dj8 B)]:=by
 have hq:=G50 (Gf9 B.frames) B.frames.length
 have hl:(Ao5 B.frames).length=B.frames.length:=by simp [Ao5]
 have he:=bo.envs
 have e64:IntKind.wrap .i64 (64*(M0 (Ao5 B.frames) B.frames.length:Int))=((64*M0 (Ao5 B.frames) B.frames.length:Nat):Int):=by rw [B4];omega
 have okb:=Hp8 h4 he []
 obtain ⟨fa,fc,ea,ec,sa,sc,ss,ha,hc,hs⟩:=A
 refine Ct.of Ao0 rfl fun h r=>Tr.eq (G89 ..) ?_;refine Je ?_
 refine Yn fun b h=>?_
 (refine Ja ?_;intros)
 refine Yc (H86 (slC false B5 1 fa B.frames.length fc (B.frames.map int)) fa fc false B.frames h4) ?_;rintro _ h ⟨q,rfl,o⟩<;>refine Jh o ?_
 (refine Jc ?_;intros)
 refine Yn fun w h=>?_
 refine Je ?_
 (refine Ja ?_;intros)
 refine Tr.pcall (G52 q (Ao5 B.frames) B.frames.length (by omega) (by omega) (Gf9 _)) ?_;refine Je ?_;(refine Ja ?_;intros)
 rw [e64]
 refine Tr.ck ⟨by omega,by omega,by simp only [A8];omega⟩ ?_
 rw [Int.toNat_natCast,Ih8]
 refine Yn fun bq h=>?_
 (refine Ja ?_;intros)
 refine Yc (H67 B.envs.length he) ?_;rintro _ h ⟨s,rfl,o⟩<;>refine Jh o ?_
 (refine Jc ?_;intros)
 refine Yn fun g h=>?_
 (refine Ja ?_;intros)
 refine G6 false B5 1 (by omega) ?_
 refine G6 false B5 1 (by omega) ?_
 have eN:Dj8 B=B.shared.foldl Br1 ⟨B,Ao5 B.frames,⟨List.replicate (64*M0 (Ao5 B.frames) B.frames.length) 0,[],[],List.replicate B.envs.length (List.replicate 32 (1,false)),List.replicate B.envs.length (List.replicate 32 .zero)⟩,List.replicate B.sects.length (Dl0 B.lease),0⟩:=rfl
 have okb2:RKOk ⟨B,Ao5 B.frames,⟨List.replicate (64*M0 (Ao5 B.frames) B.frames.length) 0,[],[],List.replicate B.envs.length (List.replicate 32 (1,false)),List.replicate B.envs.length (List.replicate 32 .zero)⟩,[],0⟩:=okb
 rw [eN]
 obtain ⟨M,hM⟩:∃ M:List UInt8,M=List.replicate (64*M0 (Ao5 B.frames) B.frames.length) 0:=⟨_,rfl⟩
 have hl2:64*M0 (Ao5 B.frames) B.frames.length=M.length:=by rw [hM];simp
 rw [← hM] at okb2 ⊢
 rw [hl2]
 refine G0 (rgC g ⟨M,[],[],List.replicate B.envs.length (List.replicate 32 (1,false)),List.replicate B.envs.length (List.replicate 32 .zero)⟩) ⟨bq,none,0,none,0,s⟩ [2,3,0,0,0] rfl ?_;refine Je ?_
 refine G6 false Bk3 1 (by omega) ?_
 refine D20 Hb6 ?_
 refine Aw3 (show BaOk B ⟨fa,fc,ea,ec,sa,sc,ss,ha,hc,hs⟩∧([]:List Nat).length=([]:List RSe).length from ⟨ka,rfl⟩) ?_
 refine D21 (Hb9 w b B (Ao5 B.frames) ⟨M,[],[],List.replicate B.envs.length (List.replicate 32 (1,false)),List.replicate B.envs.length (List.replicate 32 .zero)⟩ bo _ 0 ⟨⟨fa,fc,ea,ec,sa,sc,ss,ha,hc,hs⟩,q,g,none,0,[]⟩ [] okb2 ⟨ka,rfl⟩ rfl (by omega) rfl) [7,4,5,5,5,5,5,5,4,3,2,1,0] rfl ?_
 rintro v h ⟨rfl,o⟩
 exact ⟨w,rfl,o⟩
theorem Gj6 (w:Nat) (K:RKS) (k:RKOk K) (e:Nat) (he:e<K.B.envs.length) (c:CallS) (h2:c.op=2) (hl:c.b.length≤A8) (p:HP) (ba:Option Addr) (bc:Nat) (ro:Bool) [ks:IsSl p ba ro A5 1 c.b.length bc (A0 c.b)] :
  Ct A7 Ay7 [P0 w,int e,.agg ⟨Bt7 c ba bc⟩] [rkC w K,p] fun v own=>v=.tuple ⟨[int (An3 K.R e c.cap c.at_ c.b).1,int 0,.string (bs [])]⟩∧own [rkC w { K with R:=(An3 K.R e c.cap c.at_ c.b).2 },p]:=by
 refine Ct.of Hc8 rfl fun h r=>Tr.eq (G82 ..) ?_;refine Je ?_
 refine Yn fun b1 h=>?_
 refine B1 (rkC w K) fun ⟨⟨fa,fc,ea,ec,sa,sc,ss,ha,hc,hs⟩,q,g,ta,tc,ts⟩=>?_;refine Je ?_
 (refine Ja ?_;intros)
 refine Yf (by simp;omega) ?_
 (refine Ja ?_;intros)
 rw [h2]
 (refine Jd ?_;intros)
 refine Yc (I08 g K.R k.R e c.cap c.at_ c.b) ?_;rintro _ h ⟨rfl,o⟩<;>(refine Jf o ?_;intros)
 refine G0 (rkC w { K with R:=(An3 K.R e c.cap c.at_ c.b).2 }) ⟨⟨fa,fc,ea,ec,sa,sc,ss,ha,hc,hs⟩,q,g,ta,tc,ts⟩ [1,1,1,1,1,1,1,1,0,0,0,0] rfl ?_;refine Je ?_
 refine Ys fun o=>?_
 exact ⟨rfl,o.sub⟩
theorem Jl4 {K:RKS} (k:RKOk K) (e cap a:Int) (b:List UInt8):RKOk { K with R:=(An3 K.R e cap a b).2 }:=by
 refine ⟨I32 k.R e cap a b,?_,k.q,k.qe⟩
 simp only
 unfold An3;split
 ·exact k.nm
 ·exact k.nm
abbrev rcF (m w:Nat) (env:Int) (caps:List Int) (recs:List (Int × Int)) (x:Option Addr × Nat × Option Addr × Nat):List HP :=
 [pt m (.cells Ec0 false [P0 w,int env,.slice x.1 caps.length x.2.1,.slice x.2.2.1 recs.length x.2.2.2]),slC false B5 1 x.1 caps.length x.2.1 (caps.map int),slC false E3 2 x.2.2.1 recs.length x.2.2.2 (recs.flatMap brL)]
def rcC (m w:Nat) (env:Int) (caps:List Int) (recs:List (Int × Int)):HP:=hex fun x=>sl (rcF m w env caps recs x)
instance {m w:Nat} {env:Int} {caps:List Int} {recs:List (Int × Int)}:Chk (rcC m w env caps recs) (rcF m w env caps recs):=⟨rfl⟩
def B90 (K:RKS) (e:Nat):List Int:=Ba5 0 (K.R.N.getD e [])
theorem En7 (w:Nat) (K:RKS) (k:RKOk K) (e:Nat) (he:e<K.B.envs.length):Ct A7 Ap8 [P0 w,int e] [rkC w K] fun v own =>
  (B90 K e≠[]∧∃ m,v=P0 m∧own [rcC m w e (B90 K e) [],rkC w K])∨(B90 K e=[]∧v=.pointer none∧own [rkC w K]):=by
 have hn:=k.nm
 refine Ct.of Gb6 rfl fun h r=>Tr.eq (Gc0 ..) ?_;refine Je ?_
 refine B1 (rkC w K) fun ⟨⟨fa,fc,ea,ec,sa,sc,ss,ha,hc,hs⟩,q,g,ta,tc,ts⟩=>?_;refine Je ?_
 refine B1 (rgC g K.R) fun ⟨gq,gla,glc,gza,gzc,gs⟩=>?_;refine Je ?_
 (refine Ja ?_;intros)
 dsimp only
 refine Je ?_
 (refine Ja ?_;intros)
 refine Yc (Iz7 gs K.R.N K.R.C k.R.sp e (by omega)) ?_;rintro _ h ⟨a,c,rfl,o⟩<;>(refine Jf o ?_;intros)
 refine A9 (rgC g K.R) ⟨gq,gla,glc,gza,gzc,gs⟩ ?_;refine Je ?_
 have hrc:B90 K e=Ba5 0 (K.R.N.getD e []):=rfl
 rw [← hrc]
 by_cases hz:B90 K e=[]
 ·refine Yt (by simp [hz]) ?_
  refine A9 (rkC w K) ⟨⟨fa,fc,ea,ec,sa,sc,ss,ha,hc,hs⟩,q,g,ta,tc,ts⟩ ?_;refine Je ?_
  refine Ys fun o=>?_
  exact .inr ⟨hz,rfl,o.sub⟩
 ·refine Yf ?_ ?_
  ·rw [beq_eq_false_iff_ne]
   intro h0
   exact hz (List.eq_nil_of_length_eq_zero (by omega))
  refine Yn fun m h=>?_
  refine A9 (rkC w K) ⟨⟨fa,fc,ea,ec,sa,sc,ss,ha,hc,hs⟩,q,g,ta,tc,ts⟩ ?_;refine Je ?_
  refine G6 false E3 2 (by omega) ?_
  refine G0 (rcC m w e (B90 K e) []) (a,c,none,0) [2,2,0] rfl ?_;refine Je ?_
  refine Ys fun o=>?_
  exact .inl ⟨hz,m,rfl,o.sub⟩
end Go.EQ
