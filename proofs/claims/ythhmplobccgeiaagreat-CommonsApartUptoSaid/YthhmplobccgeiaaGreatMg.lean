/- The commons: what one holds for bad another one does not; one record set changes no other -/
import Derived.Test.YthhmplobccgeiaaGreatMf
set_option linter.unusedVariables false
set_option linter.unusedSimpArgs false
set_option linter.unusedSectionVars false
set_option maxRecDepth 10000
namespace Go.EQ
open Go Go.NN
abbrev NmL := List (Int × Bool)
def nmL (p : Int × Bool) : List Value := [int p.1,.bool p.2]
theorem nmL_len (p : Int × Bool) : (nmL p).length = 2 := rfl
abbrev nmF (n : Nat) (L : NmL) (x : Option Addr × Nat) : List HP := [pt n (.cells Y_ref1_Names false [.slice x.1 L.length x.2]),slC false Y_ref1_place 2 x.1 L.length x.2 (L.flatMap nmL)]
def nmC (n : Nat) (L : NmL) : HP := hex fun x=>sl (nmF n L x)
instance {n : Nat} {L : NmL} : Chk (nmC n L) (nmF n L) := ⟨rfl⟩
def NmOk (L : NmL) : Prop := L.length ≤ 256 ∧ ∀ p ∈ L,0 ≤ p.1 ∧ p.1 ≤ 1000001
theorem NmOk.at {L : NmL} (k : NmOk L) {i : Nat} {p : Int × Bool} (h : L[i]? = some p) : 0 ≤ p.1 ∧ p.1 ≤ 1000001 := k.2 p (List.mem_of_getElem? h)
theorem NmOk.set {L : NmL} (k : NmOk L) {i : Nat} {p : Int × Bool} (h : 0 ≤ p.1 ∧ p.1 ≤ 1000001) : NmOk (L.set i p) := ⟨by simpa using k.1,fun x hx=>by
 rcases List.mem_or_eq_of_mem_set hx with h1 | rfl
 ·exact k.2 x h1
 ·exact h⟩
theorem ct_NewNames_L1 (n size : Nat) (hs : size ≤ 256) : ∀ (m i : Nat) (L : NmL),size - i = m → i ≤ size → L = List.replicate i (1,false) →
  CtJ JUMP F_ref1_NewNames T_ref1_NewNames_L1 [(0,int size),(3,P0 n),(4,int i)] [nmC n L] fun v own=>v = P0 n ∧ own [nmC n (List.replicate size (1,false))] := by
 intro m
 induction m with
 | zero =>
  intro i L hm hi hL
  obtain rfl : i = size := by omega
  subst hL
  refine CtJ.of k_ref1_NewNames fun h r=>Tr.eq (e_ref1_NewNames_L1 ..) ?_; (try simp only[Nr,Nl,Nat.reduceAdd,Nat.reduceMul,Int.reduceToNat])
  (repeat' first|refine Gu ?_|(with_reducible first|refine Gn fun b h=>?_|apply Gx|apply Gy|rintro px rfl|refine fun(h:H)=>?_|intro hb)|refine Gs ?_|refine Gt ?_|exact Gz rfl|fail)
  refine Tr.condF (by simp) ?_
  refine Tr.some fun o=>?_
  exact ⟨by first | rfl | trivial,o.sub⟩
 | succ m ih =>
  intro i L hm hi hL
  have hl : L.length = i := by rw [hL]; simp
  have e1 : IntKind.wrap .i64 ((i : Int) + 1) = ((i + 1 : Nat) : Int) := by rw [wrap_eq]; omega
  have ea : L.length + 1 = (L ++ [((1 : Int),false)]).length := by simp
  have eb : L.flatMap nmL ++ [Value.int IntKind.i64 1,Value.bool false] = (L ++ [((1 : Int),false)]).flatMap nmL := by simp [nmL]
  refine CtJ.of k_ref1_NewNames fun h r=>Tr.eq (e_ref1_NewNames_L1 ..) ?_; (try simp only[Nr,Nl,Nat.reduceAdd,Nat.reduceMul,Int.reduceToNat])
  (repeat' first|refine Gu ?_|(with_reducible first|refine Gn fun b h=>?_|apply Gx|apply Gy|rintro px rfl|refine fun(h:H)=>?_|intro hb)|refine Gs ?_|refine Gt ?_|exact Gz rfl|fail)
  refine Tr.condT (by simp; omega) ?_
  refine tr_open (nmC n L) fun ⟨a,c⟩=>?_; (try simp only[Nr,Nl,Nat.reduceAdd,Nat.reduceMul,Int.reduceToNat])
  (repeat' first|refine Gu ?_|(with_reducible first|refine Gn fun b h=>?_|apply Gx|apply Gy|rintro px rfl|refine fun(h:H)=>?_|intro hb)|refine Gs ?_|refine Gt ?_|exact Gz rfl|fail)
  refine Tr.xApd ?_ (fun a' c' h=>?_)
  ·exact ⟨by first | rfl | simp,by first | rfl | simp,by simp only [most]; omega⟩
  (try simp only[Nr,Nl,Nat.reduceAdd,Nat.reduceMul,Int.reduceToNat])
  (repeat' first|refine Gu ?_|(with_reducible first|refine Gn fun b h=>?_|apply Gx|apply Gy|rintro px rfl|refine fun(h:H)=>?_|intro hb)|refine Gs ?_|refine Gt ?_|exact Gz rfl|fail)
  (try simp only[Nr,Nl,Nat.reduceAdd,Nat.reduceMul,Int.reduceToNat])
  rw [e1,ea,eb]
  refine tr_foldI (nmC n (L ++ [((1 : Int),false)])) (a',c') [1,1] rfl ?_; (try simp only[Nr,Nl,Nat.reduceAdd,Nat.reduceMul,Int.reduceToNat])
  refine Tr.xRun (ih (i + 1) (L ++ [((1 : Int),false)]) (by omega) (by omega) (by rw [hL,List.replicate_succ'])) ?_
  rintro _ h ⟨rfl,o⟩
  exact ⟨rfl,o.sub⟩
theorem ct_NewNames (size : Nat) (hs : size ≤ 256) : Ct CALL F_ref1_NewNames [int size] [] fun v own=>∃ n,v = P0 n ∧ own [nmC n (List.replicate size (1,false))] := by
 refine Ct.of k_ref1_NewNames rfl fun h r=>Tr.eq (e_ref1_NewNames ..) ?_; (try simp only[Nr,Nl,Nat.reduceAdd,Nat.reduceMul,Int.reduceToNat])
 refine Tr.nw fun n h=>?_
 refine tr_nilSl false Y_ref1_place 2 (by omega) ?_
 refine tr_foldI (nmC n []) (none,0) [1,0] rfl ?_; (try simp only[Nr,Nl,Nat.reduceAdd,Nat.reduceMul,Int.reduceToNat])
 refine Tr.xRun (ct_NewNames_L1 n size hs _ 0 [] rfl (by omega) rfl) ?_
 rintro _ h ⟨rfl,o⟩
 exact ⟨n,rfl,o.sub⟩
def nmFree : Nat → NmL → Option (Nat × Int)
 | _,[]=>none
 | i,p :: L=>if p.2 = false ∧ p.1 ≤ 1000000 then some (i,p.1) else nmFree (i + 1) L
theorem nmFree_spec : ∀ (i j : Nat) (L : NmL) (g : Int),nmFree i L = some (j,g) → i ≤ j ∧ L[j - i]? = some (g,false) ∧ g ≤ 1000000
 | _,_,[],_,h=>by simp [nmFree] at h
 | i,j,p :: L,g,h=>by
  unfold nmFree at h
  split at h
  ·rename_i hp
   cases h
   obtain ⟨g,b⟩ := p
   obtain ⟨rfl,h2⟩ := hp
   exact ⟨Nat.le_refl _,by simp,h2⟩
  ·obtain ⟨h1,h2,h3⟩ := nmFree_spec (i + 1) j L g h
   refine ⟨by omega,?_,h3⟩
   rw [show j - i = (j - (i + 1)) + 1 by omega]; simpa using h2
def nmAdd (L : NmL) : Option (Int × NmL) := match nmFree 0 L with
 | some (i,g)=>some (i + 256 * g,L.set i (g,true))
 | none=>none
theorem nmAdd_ok {L L' : NmL} {x : Int} (k : NmOk L) (h : nmAdd L = some (x,L')) : NmOk L' ∧ L'.length = L.length ∧ 0 ≤ x ∧ (x % 256).toNat < L.length := by
 unfold nmAdd at h
 cases hf : nmFree 0 L with
 | none=>rw [hf] at h; cases h
 | some p =>
  obtain ⟨i,g⟩ := p
  rw [hf] at h; cases h
  obtain ⟨_,h2,h3⟩ := nmFree_spec 0 i L g hf
  have h4 := k.at h2
  have h5 := (List.getElem?_eq_some_iff.1 h2).1
  have h6 := k.1
  exact ⟨k.set (by simp only at h4 ⊢; omega),by simp,by simp only at h4; omega,by simp only at h4; omega⟩
theorem ct_nmAdd_L1 (n : Nat) (L : NmL) (k : NmOk L) : ∀ (m i : Nat),L.length - i = m → i ≤ L.length →
  CtJ JUMP F_ref1_Names_Add T_ref1_Names_Add_L1 [(0,P0 n),(4,int i)] [nmC n L] fun v own=>match nmFree i (L.drop i) with
   | some (j,g)=>v = .tuple ⟨[int (j + 256 * g),.bool true]⟩ ∧ own [nmC n (L.set j (g,true))]
   | none=>v = .tuple ⟨[int 0,.bool false]⟩ ∧ own [nmC n L] := by
 have h256 := k.1
 intro m
 induction m with
 | zero =>
  intro i hm hi
  refine CtJ.of k_ref1_Names_Add fun h r=>Tr.eq (e_ref1_Names_Add_L1 ..) ?_; (try simp only[Nr,Nl,Nat.reduceAdd,Nat.reduceMul,Int.reduceToNat])
  refine tr_open (nmC n L) fun ⟨a,c⟩=>?_; (try simp only[Nr,Nl,Nat.reduceAdd,Nat.reduceMul,Int.reduceToNat])
  (repeat' first|refine Gu ?_|(with_reducible first|refine Gn fun b h=>?_|apply Gx|apply Gy|rintro px rfl|refine fun(h:H)=>?_|intro hb)|refine Gs ?_|refine Gt ?_|exact Gz rfl|fail)
  refine Tr.condF (by simp; omega) ?_
  refine tr_fold (nmC n L) (a,c) ?_; (try simp only[Nr,Nl,Nat.reduceAdd,Nat.reduceMul,Int.reduceToNat])
  refine Tr.some fun o=>?_
  rw [List.drop_eq_nil_of_le (by omega)]
  exact ⟨rfl,o.sub⟩
 | succ m ih =>
  intro i hm hi
  have hlt : i < L.length := by omega
  have hp : L[i]? = some L[i] := List.getElem?_eq_getElem hlt
  have hd : L.drop i = L[i] :: L.drop (i + 1) := List.drop_eq_getElem_cons hlt
  generalize L[i] = p at hp hd
  have hk := k.at hp
  have e1 : IntKind.wrap .i64 ((i : Int) + 1) = ((i + 1 : Nat) : Int) := by rw [wrap_eq]; omega
  have e2 : IntKind.wrap .i64 ((i : Int) + IntKind.wrap .i64 (256 * p.1)) = i + 256 * p.1 := by rw [wrap_eq,wrap_eq]; omega
  refine CtJ.of k_ref1_Names_Add fun h r=>Tr.eq (e_ref1_Names_Add_L1 ..) ?_; (try simp only[Nr,Nl,Nat.reduceAdd,Nat.reduceMul,Int.reduceToNat])
  refine tr_open (nmC n L) fun ⟨a,c⟩=>?_; (try simp only[Nr,Nl,Nat.reduceAdd,Nat.reduceMul,Int.reduceToNat])
  (repeat' first|refine Gu ?_|(with_reducible first|refine Gn fun b h=>?_|apply Gx|apply Gy|rintro px rfl|refine fun(h:H)=>?_|intro hb)|refine Gs ?_|refine Gt ?_|exact Gz rfl|fail)
  refine Tr.condT (by simp; omega) ?_
  (repeat' first|refine Gu ?_|(with_reducible first|refine Gn fun b h=>?_|apply Gx|apply Gy|rintro px rfl|refine fun(h:H)=>?_|intro hb)|refine Gs ?_|refine Gt ?_|exact Gz rfl|fail)
  (try simp only[Nr,Nl,Nat.reduceAdd,Nat.reduceMul,Int.reduceToNat])
  rw [Int.toNat_natCast]
  refine Tr.xBoolS (v := p.2) (flat_get nmL_len hp (j := 1) (by omega)) ?_
  (repeat' first|refine Gu ?_|(with_reducible first|refine Gn fun b h=>?_|rintro px rfl|refine fun(h:H)=>?_|intro hb)|refine Gs ?_|refine Gt ?_|exact Gz rfl|fail)
  refine Tr.andG (c := decide (p.1 ≤ 1000000)) (fun _=>?_) ?_
  ·(repeat' first|refine Gu ?_|(with_reducible first|refine Gn fun b h=>?_|apply Gx|apply Gy|rintro px rfl|refine fun(h:H)=>?_|intro hb)|refine Gs ?_|refine Gt ?_|exact Gz rfl|fail)
   (try simp only[Nr,Nl,Nat.reduceAdd,Nat.reduceMul,Int.reduceToNat])
   refine Tr.xIntS (v := p.1) (flat_get nmL_len hp (j := 0) (by omega)) ?_
   (repeat' first|refine Gu ?_|(with_reducible first|refine Gn fun b h=>?_|apply Gx|apply Gy|rintro px rfl|refine fun(h:H)=>?_|intro hb)|refine Gs ?_|refine Gt ?_|exact Gz rfl|fail)
  rw [hd]
  by_cases hc : p.2 = false ∧ p.1 ≤ 1000000
  ·refine Tr.condT (by simp [hc.1,hc.2]) ?_
   rw [nmFree,if_pos hc]
   (repeat' first|refine Gu ?_|(with_reducible first|refine Gn fun b h=>?_|apply Gx|apply Gy|rintro px rfl|refine fun(h:H)=>?_|intro hb)|refine Gs ?_|refine Gt ?_|exact Gz rfl|fail)
   (try simp only[Nr,Nl,Nat.reduceAdd,Nat.reduceMul,Int.reduceToNat])
   refine Tr.xVS (cs' := (L.set i (p.1,true)).flatMap nmL) ⟨by rw [flat_len nmL_len]; omega,rfl,flat_set1 (f := nmL) (y := (p.1,true)) nmL_len hp (j := 1) (by omega) rfl⟩ fun h=>?_
   (repeat' first|refine Gu ?_|(with_reducible first|refine Gn fun b h=>?_|apply Gx|apply Gy|rintro px rfl|refine fun(h:H)=>?_|intro hb)|refine Gs ?_|refine Gt ?_|exact Gz rfl|fail)
   (try simp only[Nr,Nl,Nat.reduceAdd,Nat.reduceMul,Int.reduceToNat])
   refine Tr.xIntS (v := p.1) (flat_get nmL_len (l := L.set i (p.1,true)) (x := (p.1,true)) (by simp [hlt]) (j := 0) (by omega)) ?_
   rw [e2]
   have el : L.length = (L.set i (p.1,true)).length := by simp
   rw [el]
   refine tr_fold (nmC n (L.set i (p.1,true))) (some px,c) ?_; (try simp only[Nr,Nl,Nat.reduceAdd,Nat.reduceMul,Int.reduceToNat])
   refine Tr.some fun o=>?_
   exact ⟨rfl,o.sub⟩
  ·refine Tr.condF (by
    rw [Bool.and_eq_false_iff]
    by_cases h1 : p.2 = false
    ·right; simp; have : ¬ p.1 ≤ 1000000 := fun h=>hc ⟨h1,h⟩
     omega
    ·left; simpa using h1) ?_
   rw [nmFree,if_neg hc,e1]
   refine tr_fold (nmC n L) (some px,c) ?_; (try simp only[Nr,Nl,Nat.reduceAdd,Nat.reduceMul,Int.reduceToNat])
   refine Tr.xRun (ih (i + 1) (by omega) (by omega)) ?_
   intro v h q
   cases hf : nmFree (i + 1) (L.drop (i + 1)) with
   | none=>rw [hf] at q; exact q
   | some y=>rw [hf] at q; exact q
theorem ct_nmAdd (n : Nat) (L : NmL) (k : NmOk L) : Ct CALL F_ref1_Names_Add [P0 n] [nmC n L] fun v own=>match nmAdd L with
   | some (x,L')=>v = .tuple ⟨[int x,.bool true]⟩ ∧ own [nmC n L']
   | none=>v = .tuple ⟨[int 0,.bool false]⟩ ∧ own [nmC n L] := by
 refine Ct.of k_ref1_Names_Add rfl fun h r=>Tr.eq (e_ref1_Names_Add ..) ?_; (try simp only[Nr,Nl,Nat.reduceAdd,Nat.reduceMul,Int.reduceToNat])
 refine Tr.xRun (ct_nmAdd_L1 n L k _ 0 rfl (by omega)) ?_
 intro v h q
 rw [List.drop_zero] at q
 unfold nmAdd
 cases hf : nmFree 0 L with
 | none=>rw [hf] at q; exact q
 | some y=>rw [hf] at q; exact q
def nmAll : Nat → NmL → List Int
 | _,[]=>[]
 | i,p :: L=>if p.2 = true then (i + 256 * p.1) :: nmAll (i + 1) L else nmAll (i + 1) L
theorem ct_nmAll_L1 (n : Nat) (L : NmL) (k : NmOk L) : ∀ (m i : Nat) (acc : List Int) (a : Option Addr) (c : Nat),L.length - i = m → i ≤ L.length → acc.length ≤ i →
  CtJ JUMP F_ref1_Names_All T_ref1_Names_All_L1 [(0,P0 n),(3,.slice a acc.length c),(4,int i)] [slC false Y_int 1 a acc.length c (acc.map int),nmC n L] fun v own =>
   ∃ a' c',v = .slice a' (acc ++ nmAll i (L.drop i)).length c' ∧ own [slC false Y_int 1 a' (acc ++ nmAll i (L.drop i)).length c' ((acc ++ nmAll i (L.drop i)).map int),nmC n L] := by
 have h256 := k.1
 intro m
 induction m with
 | zero =>
  intro i acc a c hm hi ha
  refine CtJ.of k_ref1_Names_All fun h r=>Tr.eq (e_ref1_Names_All_L1 ..) ?_; (try simp only[Nr,Nl,Nat.reduceAdd,Nat.reduceMul,Int.reduceToNat])
  refine tr_open (nmC n L) fun ⟨na,nc⟩=>?_; (try simp only[Nr,Nl,Nat.reduceAdd,Nat.reduceMul,Int.reduceToNat])
  (repeat' first|refine Gu ?_|(with_reducible first|refine Gn fun b h=>?_|apply Gx|apply Gy|rintro px rfl|refine fun(h:H)=>?_|intro hb)|refine Gs ?_|refine Gt ?_|exact Gz rfl|fail)
  refine Tr.condF (by simp; omega) ?_
  refine tr_fold (nmC n L) (na,nc) ?_; (try simp only[Nr,Nl,Nat.reduceAdd,Nat.reduceMul,Int.reduceToNat])
  refine Tr.some fun o=>?_
  rw [List.drop_eq_nil_of_le (by omega)]
  simp only [nmAll,List.append_nil]
  exact ⟨a,c,rfl,o.sub⟩
 | succ m ih =>
  intro i acc a c hm hi ha
  have hlt : i < L.length := by omega
  have hp : L[i]? = some L[i] := List.getElem?_eq_getElem hlt
  have hd : L.drop i = L[i] :: L.drop (i + 1) := List.drop_eq_getElem_cons hlt
  generalize L[i] = p at hp hd
  have hk := k.at hp
  have e1 : IntKind.wrap .i64 ((i : Int) + 1) = ((i + 1 : Nat) : Int) := by rw [wrap_eq]; omega
  have e2 : IntKind.wrap .i64 ((i : Int) + IntKind.wrap .i64 (256 * p.1)) = i + 256 * p.1 := by rw [wrap_eq,wrap_eq]; omega
  refine CtJ.of k_ref1_Names_All fun h r=>Tr.eq (e_ref1_Names_All_L1 ..) ?_; (try simp only[Nr,Nl,Nat.reduceAdd,Nat.reduceMul,Int.reduceToNat])
  refine tr_open (nmC n L) fun ⟨na,nc⟩=>?_; (try simp only[Nr,Nl,Nat.reduceAdd,Nat.reduceMul,Int.reduceToNat])
  (repeat' first|refine Gu ?_|(with_reducible first|refine Gn fun b h=>?_|apply Gx|apply Gy|rintro px rfl|refine fun(h:H)=>?_|intro hb)|refine Gs ?_|refine Gt ?_|exact Gz rfl|fail)
  refine Tr.condT (by simp; omega) ?_
  (repeat' first|refine Gu ?_|(with_reducible first|refine Gn fun b h=>?_|apply Gx|apply Gy|rintro px rfl|refine fun(h:H)=>?_|intro hb)|refine Gs ?_|refine Gt ?_|exact Gz rfl|fail)
  (try simp only[Nr,Nl,Nat.reduceAdd,Nat.reduceMul,Int.reduceToNat])
  rw [Int.toNat_natCast]
  refine Tr.xBoolS (v := p.2) (flat_get nmL_len hp (j := 1) (by omega)) ?_
  rw [hd]
  cases hb : p.2 with
  | true =>
   rw [nmAll,if_pos hb]
   (repeat' first|refine Gu ?_|(with_reducible first|refine Gn fun b h=>?_|apply Gx|apply Gy|rintro px rfl|refine fun(h:H)=>?_|intro hb)|refine Gs ?_|refine Gt ?_|exact Gz rfl|fail)
   (try simp only[Nr,Nl,Nat.reduceAdd,Nat.reduceMul,Int.reduceToNat])
   refine Tr.xIntS (v := p.1) (flat_get nmL_len hp (j := 0) (by omega)) ?_
   rw [e2]
   (repeat' first|refine Gu ?_|(with_reducible first|refine Gn fun b h=>?_|apply Gx|apply Gy|rintro px rfl|refine fun(h:H)=>?_|intro hb)|refine Gs ?_|refine Gt ?_|exact Gz rfl|fail)
   refine tr_fold (nmC n L) (some px,nc) ?_; (try simp only[Nr,Nl,Nat.reduceAdd,Nat.reduceMul,Int.reduceToNat])
   (repeat' first|refine Gu ?_|(with_reducible first|refine Gn fun b h=>?_|apply Gx|apply Gy|rintro px rfl|refine fun(h:H)=>?_|intro hb)|refine Gs ?_|refine Gt ?_|exact Gz rfl|fail)
   refine Tr.xApd ?_ (fun a' c' h=>?_)
   ·exact ⟨by first | rfl | simp,by first | rfl | simp,by simp only [most]; omega⟩
   (try simp only[Nr,Nl,Nat.reduceAdd,Nat.reduceMul,Int.reduceToNat])
   rw [e1]
   have ih1 := ih (i + 1) (acc ++ [(i : Int) + 256 * p.1]) a' c' (by omega) (by omega) (by simp; omega)
   simp only [List.append_assoc,List.singleton_append,List.length_append,List.length_cons,List.length_nil,Nat.zero_add,List.map_append,List.map_cons,List.map_nil] at ih1 ⊢
   refine Tr.xRun ih1 ?_
   rintro _ h ⟨a2,c2,rfl,o⟩
   exact ⟨a2,c2,rfl,o.sub⟩
  | false =>
   rw [nmAll,if_neg (by simp [hb]),e1]
   (repeat' first|refine Gu ?_|(with_reducible first|refine Gn fun b h=>?_|apply Gx|apply Gy|rintro px rfl|refine fun(h:H)=>?_|intro hb)|refine Gs ?_|refine Gt ?_|exact Gz rfl|fail)
   refine tr_fold (nmC n L) (some px,nc) ?_; (try simp only[Nr,Nl,Nat.reduceAdd,Nat.reduceMul,Int.reduceToNat])
   refine Tr.xRun (ih (i + 1) acc a c (by omega) (by omega) (by omega)) ?_
   rintro _ h ⟨a2,c2,rfl,o⟩
   exact ⟨a2,c2,rfl,o.sub⟩
theorem ct_nmAll (n : Nat) (L : NmL) (k : NmOk L) : Ct CALL F_ref1_Names_All [P0 n] [nmC n L] fun v own =>
   ∃ a' c',v = .slice a' (nmAll 0 L).length c' ∧ own [slC false Y_int 1 a' (nmAll 0 L).length c' ((nmAll 0 L).map int),nmC n L] := by
 refine Ct.of k_ref1_Names_All rfl fun h r=>Tr.eq (e_ref1_Names_All ..) ?_; (try simp only[Nr,Nl,Nat.reduceAdd,Nat.reduceMul,Int.reduceToNat])
 refine tr_nilSl false Y_int 1 (by omega) ?_
 have J := ct_nmAll_L1 n L k _ 0 [] none 0 rfl (by omega) (by simp)
 simp only [List.drop_zero,List.nil_append,List.length_nil,List.map_nil] at J
 refine Tr.xRun J ?_
 rintro _ h ⟨a2,c2,rfl,o⟩
 exact ⟨a2,c2,rfl,o.sub⟩
end Go.EQ

set_option maxRecDepth 10000
namespace Go.EQ
open Go Go.NN
structure SpA where
 na : Option Addr
 nc : Nat
 ns : List Nat
 ca : Option Addr
 cc : Nat
 cs : List (Option Addr × Nat)
abbrev capsC (y : Option Addr × Nat) (l : List CapS) : HP := slC false Y_api_Cap 6 y.1 l.length y.2 (l.flatMap capL)
def slsV {α : Type} (ys : List (Option Addr × Nat)) (ls : List (List α)) : List Value := List.zipWith (fun y l=>Value.slice y.1 l.length y.2) ys ls
theorem slsV_get {α : Type} {ys : List (Option Addr × Nat)} {ls : List (List α)} {i : Nat} {y : Option Addr × Nat} {l : List α} (hy : ys[i]? = some y) (hl : ls[i]? = some l) : (slsV ys ls)[i]? = some (.slice y.1 l.length y.2) := by
 rw [slsV,List.getElem?_zipWith,hy,hl]
theorem slsV_app {α : Type} {ys : List (Option Addr × Nat)} {ls : List (List α)} (y : Option Addr × Nat) (l : List α) (h : ys.length = ls.length) : slsV (ys ++ [y]) (ls ++ [l]) = slsV ys ls ++ [.slice y.1 l.length y.2] := by
 unfold slsV; rw [List.zipWith_append h]; rfl
theorem slsV_set {α : Type} {ys : List (Option Addr × Nat)} {ls : List (List α)} {i : Nat} {l l' : List α} (hl : ls[i]? = some l) (he : l'.length = l.length) : slsV ys (ls.set i l') = slsV ys ls := by
 refine List.ext_getElem? fun j=>?_
 unfold slsV
 rw [List.getElem?_zipWith,List.getElem?_zipWith]
 by_cases hij : i = j
 ·subst hij
  rw [List.getElem?_set_self (List.getElem?_eq_some_iff.1 hl).1,hl]
  cases ys[i]? <;> simp [he]
 ·rw [List.getElem?_set_ne hij]
theorem gets {α β : Type} {ts : List α} {i : Nat} {xs : List β} {x : β} (hl : ts.length = xs.length) (hx : xs[i]? = some x) : ∃ t,ts[i]? = some t := by
 have := (List.getElem?_eq_some_iff.1 hx).1
 exact ⟨ts[i],List.getElem?_eq_getElem (by omega)⟩
abbrev spcF (s : Nat) (N : List NmL) (C : List (List CapS)) (x : SpA) : List HP :=
 [pt s (.cells Y_ref1_Space false [.slice x.na N.length x.nc,.slice x.ca C.length x.cc]),slC false Y_p_ref1_Names 1 x.na N.length x.nc (x.ns.map P0),all2 nmC x.ns N,
   slC false Y_s_api_Cap 1 x.ca C.length x.cc (slsV x.cs C),all2 capsC x.cs C,pu (x.ns.length = N.length ∧ x.cs.length = C.length)]
def spcC (s : Nat) (N : List NmL) (C : List (List CapS)) : HP := hex fun x=>sl (spcF s N C x)
instance {s : Nat} {N : List NmL} {C : List (List CapS)} : Chk (spcC s N C) (spcF s N C) := ⟨rfl⟩
structure SpOk (N : List NmL) (C : List (List CapS)) : Prop where
 len : N.length ≤ 40
 eq : C.length = N.length
 nm : ∀ L ∈ N,NmOk L
 same : ∀ (i : Nat) (L : NmL) (l : List CapS),N[i]? = some L → C[i]? = some l → l.length = L.length
theorem capL_len (c : CapS) : (capL c).length = 6 := rfl
theorem SpOk.at {N : List NmL} {C : List (List CapS)} (k : SpOk N C) {i : Nat} {L : NmL} (h : N[i]? = some L) : NmOk L := k.nm L (List.mem_of_getElem? h)
theorem ct_NewSpace_L1 (s envs : Nat) (he : envs ≤ 40) : ∀ (m i : Nat) (N : List NmL) (C : List (List CapS)),envs - i = m → i ≤ envs → N = List.replicate i (List.replicate 32 (1,false)) → C = List.replicate i (List.replicate 32 .zero) →
  CtJ JUMP F_ref1_NewSpace T_ref1_NewSpace_L1 [(0,int envs),(3,P0 s),(4,int i)] [spcC s N C] fun v own=>v = P0 s ∧ own [spcC s (List.replicate envs (List.replicate 32 (1,false))) (List.replicate envs (List.replicate 32 .zero))] := by
 intro m
 induction m with
 | zero =>
  intro i N C hm hi hN hC
  obtain rfl : i = envs := by omega
  subst hN hC
  refine CtJ.of k_ref1_NewSpace fun h r=>Tr.eq (e_ref1_NewSpace_L1 ..) ?_; (try simp only[Nr,Nl,Nat.reduceAdd,Nat.reduceMul,Int.reduceToNat])
  (repeat' first|refine Gu ?_|(with_reducible first|refine Gn fun b h=>?_|apply Gx|apply Gy|rintro px rfl|refine fun(h:H)=>?_|intro hb)|refine Gs ?_|refine Gt ?_|exact Gz rfl|fail)
  refine Tr.condF (by simp) ?_
  refine Tr.some fun o=>?_
  exact ⟨by first | rfl | trivial,o.sub⟩
 | succ m ih =>
  intro i N C hm hi hN hC
  have hl : N.length = i := by rw [hN]; simp
  have hl2 : C.length = i := by rw [hC]; simp
  have e1 : IntKind.wrap .i64 ((i : Int) + 1) = ((i + 1 : Nat) : Int) := by rw [wrap_eq]; omega
  have ea : N.length + 1 = (N ++ [List.replicate 32 ((1 : Int),false)]).length := by simp
  have eb : C.length + 1 = (C ++ [List.replicate 32 CapS.zero]).length := by simp
  refine CtJ.of k_ref1_NewSpace fun h r=>Tr.eq (e_ref1_NewSpace_L1 ..) ?_; (try simp only[Nr,Nl,Nat.reduceAdd,Nat.reduceMul,Int.reduceToNat])
  (repeat' first|refine Gu ?_|(with_reducible first|refine Gn fun b h=>?_|apply Gx|apply Gy|rintro px rfl|refine fun(h:H)=>?_|intro hb)|refine Gs ?_|refine Gt ?_|exact Gz rfl|fail)
  refine Tr.condT (by simp; omega) ?_
  refine tr_open (spcC s N C) fun ⟨na,nc,ns,ca,cc,cs⟩=>?_; (try simp only[Nr,Nl,Nat.reduceAdd,Nat.reduceMul,Int.reduceToNat])
  refine tr_pureAt 5 rfl fun hp=>?_
  (repeat' first|refine Gu ?_|(with_reducible first|refine Gn fun b h=>?_|apply Gx|apply Gy|rintro px rfl|refine fun(h:H)=>?_|intro hb)|refine Gs ?_|refine Gt ?_|exact Gz rfl|fail)
  refine Tr.xCall (ct_NewNames 32 (by omega)) ?_; rintro _ h ⟨n,rfl,o⟩ <;> (refine (?_ : Tr _ _ _ _) o; (try simp only[Nr,Nl,Nat.reduceAdd,Nat.reduceMul,Int.reduceToNat]); (repeat' first|refine Gu ?_|(with_reducible first|refine Gn fun b h=>?_|apply Gx|apply Gy|rintro px rfl|refine fun(h:H)=>?_|intro hb)|refine Gs ?_|refine Gt ?_|exact Gz rfl|fail))
  refine Tr.xApd (new := [P0 n]) ⟨rfl,rfl,by simp only [most]; omega⟩ fun a' c' h'=>?_
  (try simp only[Nr,Nl,Nat.reduceAdd,Nat.reduceMul,Int.reduceToNat])
  (repeat' first|refine Gu ?_|(with_reducible first|refine Gn fun b h=>?_|apply Gx|apply Gy|rintro px rfl|refine fun(h:H)=>?_|intro hb)|refine Gs ?_|refine Gt ?_|exact Gz rfl|fail)
  refine Tr.ck ⟨by omega,by omega,by simp [most]⟩ ?_
  refine Tr.nw fun bc h=>?_
  rw [show manyN 32 [.int .i64 0,.int .i64 0,.int .i64 0,.int .i64 0,.int .i64 0,.int .i64 0] = (List.replicate 32 CapS.zero).flatMap capL by rfl]
  refine tr_asSl 0 rfl 6 32 rfl (by omega) ?_
  (try simp only[Nr,Nl,Nat.reduceAdd,Nat.reduceMul,Int.reduceToNat])
  (repeat' first|refine Gu ?_|(with_reducible first|refine Gn fun b h=>?_|apply Gx|apply Gy|rintro px rfl|refine fun(h:H)=>?_|intro hb)|refine Gs ?_|refine Gt ?_|exact Gz rfl|fail)
  refine Tr.xApd (new := [.slice (some ⟨bc,0,none⟩) 32 32]) ⟨rfl,rfl,by simp only [most]; omega⟩ fun a2 c2 h2=>?_
  (try simp only[Nr,Nl,Nat.reduceAdd,Nat.reduceMul,Int.reduceToNat])
  (repeat' first|refine Gu ?_|(with_reducible first|refine Gn fun b h=>?_|apply Gx|apply Gy|rintro px rfl|refine fun(h:H)=>?_|intro hb)|refine Gs ?_|refine Gt ?_|exact Gz rfl|fail)
  rw [e1]
  rw [ea,eb,show ns.map P0 ++ [P0 n] = (ns ++ [n]).map P0 by simp,show slsV cs C ++ [.slice (some ⟨bc,0,none⟩) 32 32] = slsV (cs ++ [(some ⟨bc,0,none⟩,32)]) (C ++ [List.replicate 32 CapS.zero]) from (slsV_app (some ⟨bc,0,none⟩,32) (List.replicate 32 CapS.zero) hp.2).symm]
  refine tr_snoc2 nmC ns N n (List.replicate 32 ((1 : Int),false)) hp.1 ?_
  refine tr_as (slC false Y_api_Cap 6 (some ⟨bc,0,none⟩) 32 32 ((List.replicate 32 CapS.zero).flatMap capL)) (capsC (some ⟨bc,0,none⟩,32) (List.replicate 32 CapS.zero)) rfl ?_
  refine tr_snoc2 capsC cs C (some ⟨bc,0,none⟩,32) (List.replicate 32 CapS.zero) hp.2 ?_
  refine tr_addpure (show (ns ++ [n]).length = (N ++ [List.replicate 32 ((1 : Int),false)]).length ∧ (cs ++ [((some ⟨bc,0,none⟩ : Option Addr),32)]).length = (C ++ [List.replicate 32 CapS.zero]).length by simp [hp.1,hp.2]) ?_
  (try simp only[Nr,Nl,Nat.reduceAdd,Nat.reduceMul,Int.reduceToNat])
  refine tr_fold (spcC s (N ++ [List.replicate 32 ((1 : Int),false)]) (C ++ [List.replicate 32 CapS.zero])) ⟨a',c',ns ++ [n],a2,c2,cs ++ [(some ⟨bc,0,none⟩,32)]⟩ ?_; (try simp only[Nr,Nl,Nat.reduceAdd,Nat.reduceMul,Int.reduceToNat])
  refine Tr.xRun (ih (i + 1) (N ++ [List.replicate 32 ((1 : Int),false)]) (C ++ [List.replicate 32 CapS.zero]) (by omega) (by omega) (by rw [hN]; exact List.replicate_succ'.symm) (by rw [hC]; exact List.replicate_succ'.symm)) ?_
  rintro _ h ⟨rfl,o⟩
  exact ⟨rfl,o.sub⟩
theorem ct_NewSpace (envs : Nat) (he : envs ≤ 40) : Ct CALL F_ref1_NewSpace [int envs] [] fun v own=>∃ s,v = P0 s ∧ own [spcC s (List.replicate envs (List.replicate 32 (1,false))) (List.replicate envs (List.replicate 32 .zero))] := by
 refine Ct.of k_ref1_NewSpace rfl fun h r=>Tr.eq (e_ref1_NewSpace ..) ?_; (try simp only[Nr,Nl,Nat.reduceAdd,Nat.reduceMul,Int.reduceToNat])
 refine Tr.nw fun s h=>?_
 refine tr_nilSl false Y_p_ref1_Names 1 (by omega) ?_
 refine tr_nilSl false Y_s_api_Cap 1 (by omega) ?_
 refine tr_nil2 nmC ?_
 refine tr_nil2 capsC ?_
 refine tr_addpure (show ([] : List Nat).length = ([] : List NmL).length ∧ ([] : List (Option Addr × Nat)).length = ([] : List (List CapS)).length from ⟨rfl,rfl⟩) ?_
 refine tr_foldI (spcC s [] []) ⟨none,0,[],none,0,[]⟩ [5,4,2,2,1,0] rfl ?_; (try simp only[Nr,Nl,Nat.reduceAdd,Nat.reduceMul,Int.reduceToNat])
 refine Tr.xRun (ct_NewSpace_L1 s envs he _ 0 [] [] rfl (by omega) rfl rfl) ?_
 rintro _ h ⟨rfl,o⟩
 exact ⟨s,rfl,o.sub⟩
theorem ct_spenv (s : Nat) (N : List NmL) (C : List (List CapS)) (e : Int) : CtP CALL F_ref1_Space_env [P0 s,int e] [spcC s N C] (.bool (decide (0 ≤ e ∧ e < N.length))) := by
 refine CtP.of k_ref1_Space_env rfl fun h r=>Tr.eq (e_ref1_Space_env ..) ?_; (try simp only[Nr,Nl,Nat.reduceAdd,Nat.reduceMul,Int.reduceToNat])
 refine tr_open (spcC s N C) fun ⟨na,nc,ns,ca,cc,cs⟩=>?_; (try simp only[Nr,Nl,Nat.reduceAdd,Nat.reduceMul,Int.reduceToNat])
 (repeat' first|refine Gu ?_|(with_reducible first|refine Gn fun b h=>?_|apply Gx|apply Gy|rintro px rfl|refine fun(h:H)=>?_|intro hb)|refine Gs ?_|refine Gt ?_|exact Gz rfl|fail)
 refine Tr.some fun o=>?_
 refine ⟨?_,rfl⟩
 refine congrArg Value.bool ?_; rw [Bool.eq_iff_iff]; simp only [Bool.and_eq_true,Bool.or_eq_true,Bool.not_eq_true',Bool.not_eq_false',decide_eq_true_eq,decide_eq_false_iff_not,bne_iff_ne,beq_iff_eq,ne_eq,wrap_eq,mm2_max,mm2_min,ge_iff_le,gt_iff_lt]; first | done | omega
def spcAdd (N : List NmL) (C : List (List CapS)) (e : Nat) (c : CapS) : (Int × Int) × (List NmL × List (List CapS)) :=
 match nmAdd (N.getD e []) with
 | some (x,L)=>((x,0),(N.set e L,C.set e ((C.getD e []).set (x % 256).toNat c)))
 | none=>((0,4),(N,C))
theorem spcAdd_ok {N : List NmL} {C : List (List CapS)} (k : SpOk N C) (e : Nat) (he : e < N.length) (c : CapS) : SpOk (spcAdd N C e c).2.1 (spcAdd N C e c).2.2 ∧ (spcAdd N C e c).2.1.length = N.length := by
 unfold spcAdd
 have hN := getD_get [] he
 cases ha : nmAdd (N.getD e []) with
 | none=>exact ⟨k,rfl⟩
 | some y =>
  obtain ⟨x,L⟩ := y
  obtain ⟨h1,h2,h3,h4⟩ := nmAdd_ok (k.at hN) ha
  refine ⟨⟨by simpa using k.len,by simpa using k.eq,fun L' hL=>?_,fun i L' l' hi hl=>?_⟩,by simp⟩
  ·rcases List.mem_or_eq_of_mem_set hL with h | rfl
   ·exact k.nm _ h
   ·exact h1
  ·by_cases hei : e = i
   ·subst hei
    have hC := getD_get [] (show e < C.length by rw [k.eq]; exact he)
    simp only [List.getElem?_set_self he,List.getElem?_set_self (show e < C.length by rw [k.eq]; exact he),Option.some.injEq] at hi hl
    subst hi hl
    rw [List.length_set,h2]; exact k.same e _ _ hN hC
   ·simp only [List.getElem?_set_ne hei] at hi hl
    exact k.same i _ _ hi hl
theorem ct_spcAdd (s : Nat) (N : List NmL) (C : List (List CapS)) (k : SpOk N C) (e : Nat) (he : e < N.length) (c : CapS) : Ct CALL F_ref1_Space_add [P0 s,int e,.agg ⟨capL c⟩] [spcC s N C] fun v own =>
  v = v2 (spcAdd N C e c).1 ∧ own [spcC s (spcAdd N C e c).2.1 (spcAdd N C e c).2.2] := by
 have hN := getD_get [] he
 have he2 : e < C.length := by rw [k.eq]; exact he
 have hC := getD_get [] he2
 have hsame := k.same e _ _ hN hC
 refine Ct.of k_ref1_Space_add rfl fun h r=>Tr.eq (e_ref1_Space_add ..) ?_; (try simp only[Nr,Nl,Nat.reduceAdd,Nat.reduceMul,Int.reduceToNat])
 refine tr_open (spcC s N C) fun ⟨na,nc,ns,ca,cc,cs⟩=>?_; (try simp only[Nr,Nl,Nat.reduceAdd,Nat.reduceMul,Int.reduceToNat])
 refine tr_pureAt 5 rfl fun hp=>?_
 obtain ⟨n,hn⟩ := ts_get hp.1 hN
 obtain ⟨y,hy⟩ := gets hp.2 hC
 (repeat' first|refine Gu ?_|(with_reducible first|refine Gn fun b h=>?_|apply Gx|apply Gy|rintro px rfl|refine fun(h:H)=>?_|intro hb)|refine Gs ?_|refine Gt ?_|exact Gz rfl|fail)
 rw [Int.toNat_natCast]
 (try simp only[Nr,Nl,Nat.reduceAdd,Nat.reduceMul,Int.reduceToNat])
 refine Tr.xPtrS (v := some ⟨n,0,none⟩) (by simp [hn]) ?_
 refine tr_at2 nmC ns N hn hN ?_
 refine Tr.xCall (ct_nmAdd n (N.getD e []) (k.at hN)) ?_
 intro v h q
 have hs : spcAdd N C e c = match nmAdd (N.getD e []) with
   | some (x,L)=>((x,0),(N.set e L,C.set e ((C.getD e []).set (x % 256).toNat c)))
   | none=>((0,4),(N,C)) := rfl
 cases ha : nmAdd (N.getD e []) with
 | none =>
  rw [ha] at q hs
  obtain ⟨rfl,o⟩ := q
  refine (?_ : Tr _ _ _ _) o
  (try simp only[Nr,Nl,Nat.reduceAdd,Nat.reduceMul,Int.reduceToNat])
  (repeat' first|refine Gu ?_|(with_reducible first|refine Gn fun b h=>?_|apply Gx|apply Gy|rintro px rfl|refine fun(h:H)=>?_|intro hb)|refine Gs ?_|refine Gt ?_|exact Gz rfl|fail)
  refine tr_back2 nmC ns N e hn hN ?_
  refine tr_fold (spcC s N C) ⟨some px,nc,ns,ca,cc,cs⟩ ?_; (try simp only[Nr,Nl,Nat.reduceAdd,Nat.reduceMul,Int.reduceToNat])
  refine Tr.some fun o=>?_
  rw [hs]; exact ⟨rfl,o.sub⟩
 | some z =>
  obtain ⟨x,L⟩ := z
  rw [ha] at q hs
  obtain ⟨rfl,o⟩ := q
  obtain ⟨h1,h2,h3,h4⟩ := nmAdd_ok (k.at hN) ha
  refine (?_ : Tr _ _ _ _) o
  (try simp only[Nr,Nl,Nat.reduceAdd,Nat.reduceMul,Int.reduceToNat])
  (repeat' first|refine Gu ?_|(with_reducible first|refine Gn fun b h=>?_|apply Gx|apply Gy|rintro px rfl|refine fun(h:H)=>?_|intro hb)|refine Gs ?_|refine Gt ?_|exact Gz rfl|fail)
  (try simp only[Nr,Nl,Nat.reduceAdd,Nat.reduceMul,Int.reduceToNat])
  refine Tr.xSlS (x := y.1) (y := (C.getD e []).length) (z := y.2) (slsV_get hy hC) ?_
  refine tr_put2 nmC ns N e L hn hN ?_
  refine tr_at2 capsC cs C hy hC ?_
  rw [bitA_255]
  obtain ⟨ya,yc⟩ := y
  (repeat' first|refine Gu ?_|(with_reducible first|refine Gn fun b h=>?_|apply Gx|apply Gy|rintro px rfl|refine fun(h:H)=>?_|intro hb)|refine Gs ?_|refine Gt ?_|exact Gz rfl|fail)
  have hlt : (x % 256).toNat < (C.getD e []).length := by omega
  refine Tr.xPAggS (cs' := ((C.getD e []).set (x % 256).toNat c).flatMap capL) ⟨by simp,?_,rfl,flat_setAll (f := capL) (y := c) capL_len hlt⟩ fun h=>?_
  ·rw [flat_len capL_len]
   show (x % 256).toNat * 6 + 6 ≤ _
   omega
  refine tr_as (slC false Y_api_Cap 6 (some px) (C.getD e []).length yc (((C.getD e []).set (x % 256).toNat c).flatMap capL)) (capsC (some px,yc) ((C.getD e []).set (x % 256).toNat c)) (by simp only [capsC,List.length_set]) ?_
  refine tr_put2 capsC cs C e ((C.getD e []).set (x % 256).toNat c) hy hC ?_
  have e1 : N.length = (N.set e L).length := by simp
  have e2 : C.length = (C.set e ((C.getD e []).set (x % 256).toNat c)).length := by simp
  have e3 : slsV cs C = slsV cs (C.set e ((C.getD e []).set (x % 256).toNat c)) := (slsV_set hC (by simp)).symm
  refine tr_addpure (show ns.length = (N.set e L).length ∧ cs.length = (C.set e ((C.getD e []).set (x % 256).toNat c)).length by rw [← e1,← e2]; exact hp) ?_
  rw [e3,e1,e2]
  refine tr_foldI (spcC s (N.set e L) (C.set e ((C.getD e []).set (x % 256).toNat c))) ⟨some _,nc,ns,some _,cc,cs⟩ [4,4,2,3,1,0] rfl ?_; (try simp only[Nr,Nl,Nat.reduceAdd,Nat.reduceMul,Int.reduceToNat])
  refine Tr.some fun o=>?_
  rw [hs]; exact ⟨rfl,o.sub⟩
def okCap (c : CapS) : Bool := !(decide (c.rights < 0) || decide (c.rights > 7) || decide (c.lo < 0) || decide (c.lo > 65536) || decide (c.n < 0) || decide (c.n > 65536))
def spcPut (N : List NmL) (C : List (List CapS)) (e : Nat) (c : CapS) : (Int × Int) × (List NmL × List (List CapS)) :=
 if okCap c = true then spcAdd N C e { c with rEnv := 0,rName := 0 } else ((0,1),(N,C))
theorem ct_spcPut (s : Nat) (N : List NmL) (C : List (List CapS)) (k : SpOk N C) (e : Nat) (he : e < N.length) (c : CapS) : Ct CALL F_ref1_Space_Put [P0 s,int e,.agg ⟨capL c⟩] [spcC s N C] fun v own =>
  v = v2 (spcPut N C e c).1 ∧ own [spcC s (spcPut N C e c).2.1 (spcPut N C e c).2.2] := by
 refine Ct.of k_ref1_Space_Put rfl fun h r=>Tr.eq (e_ref1_Space_Put ..) ?_; (try simp only[Nr,Nl,Nat.reduceAdd,Nat.reduceMul,Int.reduceToNat])
 refine Tr.nw fun b h=>?_
 refine Tr.pcall (ct_spenv s N C e) ?_; (try simp only[Nr,Nl,Nat.reduceAdd,Nat.reduceMul,Int.reduceToNat]); (repeat' first|refine Gu ?_|(with_reducible first|refine Gn fun b h=>?_|rintro px rfl|refine fun(h:H)=>?_|intro hb)|refine Gs ?_|refine Gt ?_|exact Gz rfl|fail)
 rw [show decide (0 ≤ (e : Int) ∧ (e : Int) < N.length) = true by simp; omega]
 (repeat' first|refine Gu ?_|(with_reducible first|refine Gn fun b h=>?_|apply Gx|apply Gy|rintro px rfl|refine fun(h:H)=>?_|intro hb)|refine Gs ?_|refine Gt ?_|exact Gz rfl|fail)
 cases hk : okCap c with
 | false =>
  have e1 : spcPut N C e c = ((0,1),(N,C)) := by unfold spcPut; rw [if_neg (by simp [hk])]
  refine Tr.condT ?_ ?_
  ·unfold okCap at hk; rw [Bool.not_eq_false'] at hk; simp only [Bool.not_true,Bool.false_or]; exact hk
  refine Tr.some fun o=>?_
  rw [e1]; exact ⟨rfl,o.sub⟩
 | true =>
  have e1 : spcPut N C e c = spcAdd N C e { c with rEnv := 0,rName := 0 } := by unfold spcPut; rw [if_pos hk]
  refine Tr.condF ?_ ?_
  ·unfold okCap at hk; rw [Bool.not_eq_true'] at hk; simp only [Bool.not_true,Bool.false_or]; exact hk
  rw [e1]
  (repeat' first|refine Gu ?_|(with_reducible first|refine Gn fun b h=>?_|apply Gx|apply Gy|rintro px rfl|refine fun(h:H)=>?_|intro hb)|refine Gs ?_|refine Gt ?_|exact Gz rfl|fail)
  refine Tr.xCall (ct_spcAdd s N C k e he { c with rEnv := 0,rName := 0 }) ?_; rintro _ h ⟨rfl,o⟩ <;> (refine (?_ : Tr _ _ _ _) o; (try simp only[Nr,Nl,Nat.reduceAdd,Nat.reduceMul,Int.reduceToNat]); (repeat' first|refine Gu ?_|(with_reducible first|refine Gn fun b h=>?_|apply Gx|apply Gy|rintro px rfl|refine fun(h:H)=>?_|intro hb)|refine Gs ?_|refine Gt ?_|exact Gz rfl|fail))
  refine Tr.some fun o=>?_
  exact ⟨rfl,o.sub⟩
theorem spcPut_ok {N : List NmL} {C : List (List CapS)} (k : SpOk N C) (e : Nat) (he : e < N.length) (c : CapS) : SpOk (spcPut N C e c).2.1 (spcPut N C e c).2.2 ∧ (spcPut N C e c).2.1.length = N.length := by
 unfold spcPut; split
 ·exact spcAdd_ok k e he _
 ·exact ⟨k,rfl⟩
def nmHas (L : NmL) (name : Int) : Bool := decide (0 ≤ name) && (match L[(name % 256).toNat]? with
 | some p=>p.2 && p.1 == name / 256
 | none=>false)
theorem ct_nmHas (n : Nat) (L : NmL) (name : Int) : CtP CALL F_ref1_Names_Has [P0 n,int name] [nmC n L] (.bool (nmHas L name)) := by
 refine CtP.of k_ref1_Names_Has rfl fun h r=>Tr.eq (e_ref1_Names_Has ..) ?_; (try simp only[Nr,Nl,Nat.reduceAdd,Nat.reduceMul,Int.reduceToNat])
 rw [bitA_255]
 refine tr_open (nmC n L) fun ⟨a,c⟩=>?_; (try simp only[Nr,Nl,Nat.reduceAdd,Nat.reduceMul,Int.reduceToNat])
 refine Tr.andG (c := decide (name % 256 < L.length)) (fun hb=>?_) ?_
 ·(repeat' first|refine Gu ?_|(with_reducible first|refine Gn fun b h=>?_|apply Gx|apply Gy|rintro px rfl|refine fun(h:H)=>?_|intro hb)|refine Gs ?_|refine Gt ?_|exact Gz rfl|fail)
 by_cases h0 : 0 ≤ name
 ·have e0 : decide (name ≥ 0) = true := by simpa using h0
  rw [e0,Bool.true_and]
  by_cases h1 : name % 256 < L.length
  ·rw [decide_eq_true h1]
   have hlt : (name % 256).toNat < L.length := by omega
   have hp : L[(name % 256).toNat]? = some L[(name % 256).toNat] := List.getElem?_eq_getElem hlt
   generalize L[(name % 256).toNat] = p at hp
   have e1 : nmHas L name = (p.2 && p.1 == name / 256) := by unfold nmHas; rw [hp,decide_eq_true h0,Bool.true_and]
   refine Tr.andG (c := p.2) (fun hb=>?_) ?_
   ·(repeat' first|refine Gu ?_|(with_reducible first|refine Gn fun b h=>?_|apply Gx|apply Gy|rintro px rfl|refine fun(h:H)=>?_|intro hb)|refine Gs ?_|refine Gt ?_|exact Gz rfl|fail)
    (try simp only[Nr,Nl,Nat.reduceAdd,Nat.reduceMul,Int.reduceToNat])
    refine Tr.xBoolS (v := p.2) (flat_get nmL_len hp (j := 1) (by omega)) ?_
    (repeat' first|refine Gu ?_|(with_reducible first|refine Gn fun b h=>?_|apply Gx|apply Gy|rintro px rfl|refine fun(h:H)=>?_|intro hb)|refine Gs ?_|refine Gt ?_|exact Gz rfl|fail)
   refine Tr.andG (c := p.1 == name / 256) (fun hb=>?_) ?_
   ·(repeat' first|refine Gu ?_|(with_reducible first|refine Gn fun b h=>?_|apply Gx|apply Gy|rintro px rfl|refine fun(h:H)=>?_|intro hb)|refine Gs ?_|refine Gt ?_|exact Gz rfl|fail)
    (try simp only[Nr,Nl,Nat.reduceAdd,Nat.reduceMul,Int.reduceToNat])
    refine Tr.xIntS (v := p.1) (flat_get nmL_len hp (j := 0) (by omega)) ?_
    refine Tr.some fun o=>?_
    rw [show Int.fdiv name (2 ^ 8) = name / 256 by rw [Int.fdiv_eq_ediv_of_nonneg _ (by omega)]; rfl]
    exact ⟨rfl,rfl⟩
   refine Tr.some fun o=>?_
   rw [e1,Bool.true_and]; exact ⟨rfl,rfl⟩
  ·rw [decide_eq_false h1]
   refine Tr.bnd (Tr.condF rfl ?_)
   refine Tr.some fun o=>(?_ : Tr _ _ _ _) o; (try simp only[Nr,Nl,Nat.reduceAdd,Nat.reduceMul,Int.reduceToNat])
   refine Tr.bnd (Tr.condF rfl ?_)
   refine Tr.some fun o=>(?_ : Tr _ _ _ _) o; (try simp only[Nr,Nl,Nat.reduceAdd,Nat.reduceMul,Int.reduceToNat])
   refine Tr.some fun o=>?_
   have : nmHas L name = false := by unfold nmHas; rw [List.getElem?_eq_none (by omega)]; simp
   rw [this]; exact ⟨rfl,rfl⟩
 ·have e0 : decide (name ≥ 0) = false := by simp; omega
  rw [e0]
  refine Tr.bnd (Tr.condF rfl ?_)
  refine Tr.some fun o=>(?_ : Tr _ _ _ _) o; (try simp only[Nr,Nl,Nat.reduceAdd,Nat.reduceMul,Int.reduceToNat])
  refine Tr.bnd (Tr.condF rfl ?_)
  refine Tr.some fun o=>(?_ : Tr _ _ _ _) o; (try simp only[Nr,Nl,Nat.reduceAdd,Nat.reduceMul,Int.reduceToNat])
  refine Tr.some fun o=>?_
  have : nmHas L name = false := by unfold nmHas; rw [decide_eq_false h0]; rfl
  rw [this]; exact ⟨rfl,rfl⟩
end Go.EQ

set_option maxRecDepth 10000
namespace Go.EQ
open Go Go.NN
def spcGet (N : List NmL) (C : List (List CapS)) (e name : Int) : Option CapS := match idx N e with
 | some L=>if nmHas L name = true then (C.getD e.toNat [])[(name % 256).toNat]? else none
 | none=>none
def gets6 (c : Option CapS) : Value := .tuple ⟨[.agg ⟨capL (c.getD .zero)⟩,int (if c.isSome then 0 else 2)]⟩
theorem nmHas_lt {L : NmL} {name : Int} (h : nmHas L name = true) : 0 ≤ name ∧ (name % 256).toNat < L.length := by
 unfold nmHas at h
 rw [Bool.and_eq_true] at h
 obtain ⟨h1,h2⟩ := h
 refine ⟨by simpa using h1,?_⟩
 cases hl : L[(name % 256).toNat]? with
 | none=>rw [hl] at h2; cases h2
 | some p=>exact (List.getElem?_eq_some_iff.1 hl).1
theorem ct_spcGet (s : Nat) (N : List NmL) (C : List (List CapS)) (k : SpOk N C) (e name : Int) : Ct CALL F_ref1_Space_Get [P0 s,int e,int name] [spcC s N C] fun v own=>v = gets6 (spcGet N C e name) ∧ own [spcC s N C] := by
 refine Ct.of k_ref1_Space_Get rfl fun h r=>Tr.eq (e_ref1_Space_Get ..) ?_; (try simp only[Nr,Nl,Nat.reduceAdd,Nat.reduceMul,Int.reduceToNat])
 refine Tr.nw fun b0 h=>?_
 refine Tr.pcall (ct_spenv s N C e) ?_; (try simp only[Nr,Nl,Nat.reduceAdd,Nat.reduceMul,Int.reduceToNat]); (repeat' first|refine Gu ?_|(with_reducible first|refine Gn fun b h=>?_|rintro px rfl|refine fun(h:H)=>?_|intro hb)|refine Gs ?_|refine Gt ?_|exact Gz rfl|fail)
 cases hi : idx N e with
 | none =>
  have hn := idx_none hi
  have e1 : spcGet N C e name = none := by unfold spcGet; rw [hi]
  rw [decide_eq_false hn]
  refine Tr.bnd (Tr.condT rfl ?_)
  refine Tr.some fun o=>(?_ : Tr _ _ _ _) o; (try simp only[Nr,Nl,Nat.reduceAdd,Nat.reduceMul,Int.reduceToNat])
  (repeat' first|refine Gu ?_|(with_reducible first|refine Gn fun b h=>?_|apply Gx|apply Gy|rintro px rfl|refine fun(h:H)=>?_|intro hb)|refine Gs ?_|refine Gt ?_|exact Gz rfl|fail)
  refine Tr.some fun o=>?_
  rw [e1]; exact ⟨rfl,o.sub⟩
 | some L =>
  obtain ⟨h1,h2,h3⟩ := idx_some hi
  rw [decide_eq_true ⟨h1,h2⟩]
  have he2 : e.toNat < C.length := by rw [k.eq]; omega
  have hC := getD_get [] he2
  have hsame := k.same e.toNat _ _ h3 hC
  refine tr_open (spcC s N C) fun ⟨na,nc,ns,ca,cc,cs⟩=>?_; (try simp only[Nr,Nl,Nat.reduceAdd,Nat.reduceMul,Int.reduceToNat])
  refine tr_pureAt 5 rfl fun hp=>?_
  obtain ⟨n,hn⟩ := gets hp.1 h3
  obtain ⟨⟨ya,yc⟩,hy⟩ := gets hp.2 hC
  refine Tr.bnd (Tr.condF rfl ?_)
  (repeat' first|refine Gu ?_|(with_reducible first|refine Gn fun b h=>?_|apply Gx|apply Gy|rintro px rfl|refine fun(h:H)=>?_|intro hb)|refine Gs ?_|refine Gt ?_|exact Gz rfl|fail)
  refine Tr.xPtrS (v := some ⟨n,0,none⟩) (by simp [hn]) ?_
  refine tr_at2 nmC ns N hn h3 ?_
  refine Tr.pcall (ct_nmHas n L name) ?_; (try simp only[Nr,Nl,Nat.reduceAdd,Nat.reduceMul,Int.reduceToNat]); (repeat' first|refine Gu ?_|(with_reducible first|refine Gn fun b h=>?_|apply Gx|apply Gy|rintro px rfl|refine fun(h:H)=>?_|intro hb)|refine Gs ?_|refine Gt ?_|exact Gz rfl|fail)
  refine tr_back2 nmC ns N e.toNat hn h3 ?_
  refine Tr.some fun o=>(?_ : Tr _ _ _ _) o; (try simp only[Nr,Nl,Nat.reduceAdd,Nat.reduceMul,Int.reduceToNat])
  cases hh : nmHas L name with
  | false =>
   have e1 : spcGet N C e name = none := by unfold spcGet; rw [hi]; exact if_neg (by simp [hh])
   (repeat' first|refine Gu ?_|(with_reducible first|refine Gn fun b h=>?_|apply Gx|apply Gy|rintro px rfl|refine fun(h:H)=>?_|intro hb)|refine Gs ?_|refine Gt ?_|exact Gz rfl|fail)
   refine tr_foldI (spcC s N C) ⟨some px,nc,ns,ca,cc,cs⟩ [1,1,0,0,0,0] rfl ?_; (try simp only[Nr,Nl,Nat.reduceAdd,Nat.reduceMul,Int.reduceToNat])
   refine Tr.some fun o=>?_
   rw [e1]; exact ⟨rfl,o.sub⟩
  | true =>
   obtain ⟨hl1,hl2⟩ := nmHas_lt hh
   have hlt : (name % 256).toNat < (C.getD e.toNat []).length := by omega
   have hc : (C.getD e.toNat [])[(name % 256).toNat]? = some (C.getD e.toNat [])[(name % 256).toNat] := List.getElem?_eq_getElem hlt
   have e1 : spcGet N C e name = some (C.getD e.toNat [])[(name % 256).toNat] := by unfold spcGet; rw [hi]; exact (if_pos hh).trans hc
   generalize (C.getD e.toNat [])[(name % 256).toNat] = c at hc e1
   (repeat' first|refine Gu ?_|(with_reducible first|refine Gn fun b h=>?_|apply Gx|apply Gy|rintro px rfl|refine fun(h:H)=>?_|intro hb)|refine Gs ?_|refine Gt ?_|exact Gz rfl|fail)
   refine Tr.xSlS (x := ya) (y := (C.getD e.toNat []).length) (z := yc) (slsV_get hy hC) ?_
   refine tr_at2 capsC cs C hy hC ?_
   rw [bitA_255]
   (repeat' first|refine Gu ?_|(with_reducible first|refine Gn fun b h=>?_|apply Gx|apply Gy|rintro px rfl|refine fun(h:H)=>?_|intro hb)|refine Gs ?_|refine Gt ?_|exact Gz rfl|fail)
   refine Tr.xAggS (xs := capL c) ⟨by omega,?_,flat_one capL_len hc⟩ ?_
   ·rw [flat_len capL_len]; omega
   (repeat' first|refine Gu ?_|(with_reducible first|refine Gn fun b h=>?_|apply Gx|apply Gy|rintro px rfl|refine fun(h:H)=>?_|intro hb)|refine Gs ?_|refine Gt ?_|exact Gz rfl|fail)
   refine tr_back2 capsC cs C e.toNat hy hC ?_
   refine tr_foldI (spcC s N C) ⟨some _,nc,ns,some _,cc,cs⟩ [2,2,1,1,0,0] rfl ?_; (try simp only[Nr,Nl,Nat.reduceAdd,Nat.reduceMul,Int.reduceToNat])
   refine Tr.some fun o=>?_
   rw [e1]; exact ⟨rfl,o.sub⟩
theorem ct_spcAll (s : Nat) (N : List NmL) (C : List (List CapS)) (k : SpOk N C) (e : Nat) (he : e < N.length) : Ct CALL F_ref1_Space_All [P0 s,int e] [spcC s N C] fun v own =>
  ∃ a c,v = .slice a (nmAll 0 (N.getD e [])).length c ∧ own [slC false Y_int 1 a (nmAll 0 (N.getD e [])).length c ((nmAll 0 (N.getD e [])).map int),spcC s N C] := by
 have hN := getD_get [] he
 refine Ct.of k_ref1_Space_All rfl fun h r=>Tr.eq (e_ref1_Space_All ..) ?_; (try simp only[Nr,Nl,Nat.reduceAdd,Nat.reduceMul,Int.reduceToNat])
 refine Tr.pcall (ct_spenv s N C e) ?_; (try simp only[Nr,Nl,Nat.reduceAdd,Nat.reduceMul,Int.reduceToNat]); (repeat' first|refine Gu ?_|(with_reducible first|refine Gn fun b h=>?_|rintro px rfl|refine fun(h:H)=>?_|intro hb)|refine Gs ?_|refine Gt ?_|exact Gz rfl|fail)
 refine Tr.condF (by simp; omega) ?_
 refine tr_open (spcC s N C) fun ⟨na,nc,ns,ca,cc,cs⟩=>?_; (try simp only[Nr,Nl,Nat.reduceAdd,Nat.reduceMul,Int.reduceToNat])
 refine tr_pureAt 5 rfl fun hp=>?_
 obtain ⟨n,hn⟩ := gets hp.1 hN
 (repeat' first|refine Gu ?_|(with_reducible first|refine Gn fun b h=>?_|apply Gx|apply Gy|rintro px rfl|refine fun(h:H)=>?_|intro hb)|refine Gs ?_|refine Gt ?_|exact Gz rfl|fail)
 rw [Int.toNat_natCast]
 (try simp only[Nr,Nl,Nat.reduceAdd,Nat.reduceMul,Int.reduceToNat])
 refine Tr.xPtrS (v := some ⟨n,0,none⟩) (by simp [hn]) ?_
 refine tr_at2 nmC ns N hn hN ?_
 refine Tr.xCall (ct_nmAll n (N.getD e []) (k.at hN)) ?_; rintro _ h ⟨a,c,rfl,o⟩ <;> (refine (?_ : Tr _ _ _ _) o; (try simp only[Nr,Nl,Nat.reduceAdd,Nat.reduceMul,Int.reduceToNat]); (repeat' first|refine Gu ?_|(with_reducible first|refine Gn fun b h=>?_|apply Gx|apply Gy|rintro px rfl|refine fun(h:H)=>?_|intro hb)|refine Gs ?_|refine Gt ?_|exact Gz rfl|fail))
 refine tr_back2 nmC ns N e hn hN ?_
 refine tr_foldI (spcC s N C) ⟨some px,nc,ns,ca,cc,cs⟩ [2,2,0,1,1,1] rfl ?_; (try simp only[Nr,Nl,Nat.reduceAdd,Nat.reduceMul,Int.reduceToNat])
 refine Tr.some fun o=>?_
 exact ⟨a,c,rfl,o.sub⟩
def within (a n size : Int) : Bool := decide (a ≥ 0) && decide (n ≥ 0) && decide (a ≤ size) && decide (n ≤ IntKind.wrap .i64 (size - a))
theorem ct_within (a n size : Int) : CtP CALL F_ref1_Within [int a,int n,int size] [] (.bool (within a n size)) := by
 refine CtP.of k_ref1_Within rfl fun h r=>Tr.eq (e_ref1_Within ..) ?_; (try simp only[Nr,Nl,Nat.reduceAdd,Nat.reduceMul,Int.reduceToNat])
 (repeat' first|refine Gu ?_|(with_reducible first|refine Gn fun b h=>?_|apply Gx|apply Gy|rintro px rfl|refine fun(h:H)=>?_|intro hb)|refine Gs ?_|refine Gt ?_|exact Gz rfl|fail)
instance {a n size : Int} {l : List HP} : PCi CALL F_ref1_Within [.int .i64 a,.int .i64 n,.int .i64 size] l (.bool (within a n size)) := PCi.of (ct_within a n size)
structure RgS where
 M : List UInt8
 lo : List Int
 n : List Int
 N : List NmL
 C : List (List CapS)
structure RgA where
 q : Nat
 la : Option Addr
 lc : Nat
 za : Option Addr
 zc : Nat
 s : Nat
abbrev rgF (g : Nat) (R : RgS) (x : RgA) : List HP :=
 [pt g (.cells Y_ref1_Regions false [.slice (some ⟨x.q,0,none⟩) R.M.length R.M.length,.slice x.la R.lo.length x.lc,.slice x.za R.n.length x.zc,P0 x.s]),pt x.q (.cells Y_uint8 false (byteCells R.M)),
   slC false Y_int 1 x.la R.lo.length x.lc (R.lo.map int),slC false Y_int 1 x.za R.n.length x.zc (R.n.map int),spcC x.s R.N R.C]
def rgC (g : Nat) (R : RgS) : HP := hex fun x=>sl (rgF g R x)
instance {g : Nat} {R : RgS} : Chk (rgC g R) (rgF g R) := ⟨rfl⟩
structure RgOkS (R : RgS) : Prop where
 sp : SpOk R.N R.C
 eq : R.n.length = R.lo.length
 few : R.lo.length ≤ 32
 mem : R.M.length ≤ 65536
 each : ∀ (i : Nat) (lo n : Int),R.lo[i]? = some lo → R.n[i]? = some n → 0 ≤ lo ∧ 0 ≤ n ∧ lo + n ≤ R.M.length
def rAdd (R : RgS) (lo n : Int) : (Int × Int) × RgS :=
 if within lo n R.M.length = true then if R.lo.length ≥ 32 then ((0,4),R) else (((R.lo.length : Int),0),{ R with lo := R.lo ++ [lo],n := R.n ++ [n] }) else ((0,1),R)
theorem ct_rAdd (g : Nat) (R : RgS) (k : RgOkS R) (lo n : Int) : Ct CALL F_ref1_Regions_Add [P0 g,int lo,int n] [rgC g R] fun v own=>v = v2 (rAdd R lo n).1 ∧ own [rgC g (rAdd R lo n).2] := by
 refine Ct.of k_ref1_Regions_Add rfl fun h r=>Tr.eq (e_ref1_Regions_Add ..) ?_; (try simp only[Nr,Nl,Nat.reduceAdd,Nat.reduceMul,Int.reduceToNat])
 refine tr_open (rgC g R) fun ⟨q,la,lc,za,zc,s⟩=>?_; (try simp only[Nr,Nl,Nat.reduceAdd,Nat.reduceMul,Int.reduceToNat])
 (repeat' first|refine Gu ?_|(with_reducible first|refine Gn fun b h=>?_|apply Gx|apply Gy|rintro px rfl|refine fun(h:H)=>?_|intro hb)|refine Gs ?_|refine Gt ?_|exact Gz rfl|fail)
 cases hw : within lo n R.M.length with
 | false =>
  have e : rAdd R lo n = ((0,1),R) := by unfold rAdd; rw [if_neg (by simp [hw])]
  (repeat' first|refine Gu ?_|(with_reducible first|refine Gn fun b h=>?_|apply Gx|apply Gy|rintro px rfl|refine fun(h:H)=>?_|intro hb)|refine Gs ?_|refine Gt ?_|exact Gz rfl|fail)
  refine tr_fold (rgC g R) ⟨q,la,lc,za,zc,s⟩ ?_; (try simp only[Nr,Nl,Nat.reduceAdd,Nat.reduceMul,Int.reduceToNat])
  refine Tr.some fun o=>?_
  rw [e]; exact ⟨rfl,o.sub⟩
 | true =>
  (repeat' first|refine Gu ?_|(with_reducible first|refine Gn fun b h=>?_|apply Gx|apply Gy|rintro px rfl|refine fun(h:H)=>?_|intro hb)|refine Gs ?_|refine Gt ?_|exact Gz rfl|fail)
  by_cases h32 : R.lo.length ≥ 32
  ·have e : rAdd R lo n = ((0,4),R) := by unfold rAdd; rw [if_pos hw,if_pos h32]
   refine Tr.condT (by simp; omega) ?_
   refine tr_fold (rgC g R) ⟨q,la,lc,za,zc,s⟩ ?_; (try simp only[Nr,Nl,Nat.reduceAdd,Nat.reduceMul,Int.reduceToNat])
   refine Tr.some fun o=>?_
   rw [e]; exact ⟨rfl,o.sub⟩
  ·have e : rAdd R lo n = (((R.lo.length : Int),0),{ R with lo := R.lo ++ [lo],n := R.n ++ [n] }) := by unfold rAdd; rw [if_pos hw,if_neg h32]
   have hf := k.few; have hq := k.eq
   refine Tr.condF (by simp; omega) ?_
   (repeat' first|refine Gu ?_|(with_reducible first|refine Gn fun b h=>?_|apply Gx|apply Gy|rintro px rfl|refine fun(h:H)=>?_|intro hb)|refine Gs ?_|refine Gt ?_|exact Gz rfl|fail)
   refine Tr.xApd ?_ (fun a1 c1 h=>?_)
   ·exact ⟨by first | rfl | simp,by first | rfl | simp,by simp only [most]; omega⟩
   (try simp only[Nr,Nl,Nat.reduceAdd,Nat.reduceMul,Int.reduceToNat])
   (repeat' first|refine Gu ?_|(with_reducible first|refine Gn fun b h=>?_|apply Gx|apply Gy|rintro px rfl|refine fun(h:H)=>?_|intro hb)|refine Gs ?_|refine Gt ?_|exact Gz rfl|fail)
   refine Tr.xApd ?_ (fun a2 c2 h=>?_)
   ·exact ⟨by first | rfl | simp,by first | rfl | simp,by simp only [most]; omega⟩
   (try simp only[Nr,Nl,Nat.reduceAdd,Nat.reduceMul,Int.reduceToNat])
   (repeat' first|refine Gu ?_|(with_reducible first|refine Gn fun b h=>?_|apply Gx|apply Gy|rintro px rfl|refine fun(h:H)=>?_|intro hb)|refine Gs ?_|refine Gt ?_|exact Gz rfl|fail)
   have e1 : IntKind.wrap .i64 (((R.lo.length + 1 : Nat) : Int) - 1) = R.lo.length := by rw [wrap_eq]; omega
   have ea : R.lo.length + 1 = (R.lo ++ [lo]).length := by simp
   have eb : R.n.length + 1 = (R.n ++ [n]).length := by simp
   (try simp only[Nr,Nl,Nat.reduceAdd,Nat.reduceMul,Int.reduceToNat])
   rw [e1,ea,eb,show R.lo.map int ++ [Value.int IntKind.i64 lo] = (R.lo ++ [lo]).map int by simp,show R.n.map int ++ [Value.int IntKind.i64 n] = (R.n ++ [n]).map int by simp]
   refine tr_fold (rgC g { R with lo := R.lo ++ [lo],n := R.n ++ [n] }) ⟨q,a1,c1,a2,c2,s⟩ ?_; (try simp only[Nr,Nl,Nat.reduceAdd,Nat.reduceMul,Int.reduceToNat])
   refine Tr.some fun o=>?_
   rw [e]; exact ⟨rfl,o.sub⟩
end Go.EQ

set_option maxRecDepth 10000
namespace Go.EQ
open Go Go.NN
def rPlace (R : RgS) (e name right a n : Int) : Int × Int :=
 match spcGet R.N R.C e name with
 | none=>(0,2)
 | some c =>
  if (bitA .i64 c.rights right == 0) = true then (0,3)
  else if (!within a n c.n || decide (c.obj < 0) || decide (c.obj ≥ R.lo.length)) = true then (0,1)
  else if (!within c.lo a (R.n.getD c.obj.toNat 0) || !within (IntKind.wrap .i64 (c.lo + a)) n (R.n.getD c.obj.toNat 0)) = true then (0,1)
  else (IntKind.wrap .i64 (IntKind.wrap .i64 (R.lo.getD c.obj.toNat 0 + c.lo) + a),0)
theorem int_get {l : List Int} {i : Nat} (h : i < l.length) : (l.map int)[i]? = some (int (l.getD i 0)) := by rw [List.getElem?_map,getD_get 0 h]; rfl
theorem ct_rPlace (g : Nat) (R : RgS) (k : RgOkS R) (e name right a n : Int) : Ct CALL F_ref1_Regions_place [P0 g,int e,int name,int right,int a,int n] [rgC g R] fun v own=>v = v2 (rPlace R e name right a n) ∧ own [rgC g R] := by
 refine Ct.of k_ref1_Regions_place rfl fun h r=>Tr.eq (e_ref1_Regions_place ..) ?_; (try simp only[Nr,Nl,Nat.reduceAdd,Nat.reduceMul,Int.reduceToNat])
 refine tr_open (rgC g R) fun ⟨q,la,lc,za,zc,s⟩=>?_; (try simp only[Nr,Nl,Nat.reduceAdd,Nat.reduceMul,Int.reduceToNat])
 (repeat' first|refine Gu ?_|(with_reducible first|refine Gn fun b h=>?_|apply Gx|apply Gy|rintro px rfl|refine fun(h:H)=>?_|intro hb)|refine Gs ?_|refine Gt ?_|exact Gz rfl|fail)
 refine Tr.xCall (ct_spcGet s R.N R.C k.sp e name) ?_; rintro _ h ⟨rfl,o⟩ <;> (refine (?_ : Tr _ _ _ _) o; (try simp only[Nr,Nl,Nat.reduceAdd,Nat.reduceMul,Int.reduceToNat]); (repeat' first|refine Gu ?_|(with_reducible first|refine Gn fun b h=>?_|apply Gx|apply Gy|rintro px rfl|refine fun(h:H)=>?_|intro hb)|refine Gs ?_|refine Gt ?_|exact Gz rfl|fail))
 simp only [gets6]
 (repeat' first|refine Gu ?_|(with_reducible first|refine Gn fun b h=>?_|apply Gx|apply Gy|rintro px rfl|refine fun(h:H)=>?_|intro hb)|refine Gs ?_|refine Gt ?_|exact Gz rfl|fail)
 cases hg : spcGet R.N R.C e name with
 | none =>
  have e1 : rPlace R e name right a n = (0,2) := by unfold rPlace; rw [hg]
  refine Tr.condT rfl ?_
  refine tr_fold (rgC g R) ⟨q,la,lc,za,zc,s⟩ ?_; (try simp only[Nr,Nl,Nat.reduceAdd,Nat.reduceMul,Int.reduceToNat])
  refine Tr.some fun o=>?_
  rw [e1]; exact ⟨rfl,o.sub⟩
 | some c =>
  simp only [Option.getD_some]
  refine Tr.condF rfl ?_
  (repeat' first|refine Gu ?_|(with_reducible first|refine Gn fun b h=>?_|apply Gx|apply Gy|rintro px rfl|refine fun(h:H)=>?_|intro hb)|refine Gs ?_|refine Gt ?_|exact Gz rfl|fail)
  by_cases h1 : (bitA .i64 c.rights right == 0) = true
  ·have e1 : rPlace R e name right a n = (0,3) := by unfold rPlace; rw [hg]; exact if_pos h1
   refine Tr.condT h1 ?_
   refine tr_fold (rgC g R) ⟨q,la,lc,za,zc,s⟩ ?_; (try simp only[Nr,Nl,Nat.reduceAdd,Nat.reduceMul,Int.reduceToNat])
   refine Tr.some fun o=>?_
   rw [e1]; exact ⟨rfl,o.sub⟩
  refine Tr.condF (by simpa using h1) ?_
  (repeat' first|refine Gu ?_|(with_reducible first|refine Gn fun b h=>?_|apply Gx|apply Gy|rintro px rfl|refine fun(h:H)=>?_|intro hb)|refine Gs ?_|refine Gt ?_|exact Gz rfl|fail)
  by_cases h2 : (!within a n c.n || decide (c.obj < 0) || decide (c.obj ≥ R.lo.length)) = true
  ·have e1 : rPlace R e name right a n = (0,1) := by unfold rPlace; rw [hg]; exact (if_neg h1).trans (if_pos h2)
   refine Tr.condT h2 ?_
   refine tr_fold (rgC g R) ⟨q,la,lc,za,zc,s⟩ ?_; (try simp only[Nr,Nl,Nat.reduceAdd,Nat.reduceMul,Int.reduceToNat])
   refine Tr.some fun o=>?_
   rw [e1]; exact ⟨rfl,o.sub⟩
  refine Tr.condF (by simpa using h2) ?_
  have h2' := h2
  simp only [Bool.or_eq_true,decide_eq_true_eq,not_or] at h2'
  have hq := k.eq
  obtain ⟨⟨_,h2a⟩,h2b⟩ := h2'
  (repeat' first|refine Gu ?_|(with_reducible first|refine Gn fun b h=>?_|apply Gx|apply Gy|rintro px rfl|refine fun(h:H)=>?_|intro hb)|refine Gs ?_|refine Gt ?_|exact Gz rfl|fail)
  refine Tr.xIntS (v := R.n.getD c.obj.toNat 0) (int_get (by omega)) ?_
  (repeat' first|refine Gu ?_|(with_reducible first|refine Gn fun b h=>?_|rintro px rfl|refine fun(h:H)=>?_|intro hb)|refine Gs ?_|refine Gt ?_|exact Gz rfl|fail)
  refine Tr.orG (c := !within (IntKind.wrap .i64 (c.lo + a)) n (R.n.getD c.obj.toNat 0)) (fun _=>?_) ?_
  ·(repeat' first|refine Gu ?_|(with_reducible first|refine Gn fun b h=>?_|apply Gx|apply Gy|rintro px rfl|refine fun(h:H)=>?_|intro hb)|refine Gs ?_|refine Gt ?_|exact Gz rfl|fail)
   refine Tr.xIntS (v := R.n.getD c.obj.toNat 0) (int_get (by omega)) ?_
   (repeat' first|refine Gu ?_|(with_reducible first|refine Gn fun b h=>?_|apply Gx|apply Gy|rintro px rfl|refine fun(h:H)=>?_|intro hb)|refine Gs ?_|refine Gt ?_|exact Gz rfl|fail)
  by_cases h3 : (!within c.lo a (R.n.getD c.obj.toNat 0) || !within (IntKind.wrap .i64 (c.lo + a)) n (R.n.getD c.obj.toNat 0)) = true
  ·have e1 : rPlace R e name right a n = (0,1) := by unfold rPlace; rw [hg]; exact (if_neg h1).trans ((if_neg h2).trans (if_pos h3))
   refine Tr.condT h3 ?_
   refine tr_fold (rgC g R) ⟨q,la,lc,some px,zc,s⟩ ?_; (try simp only[Nr,Nl,Nat.reduceAdd,Nat.reduceMul,Int.reduceToNat])
   refine Tr.some fun o=>?_
   rw [e1]; exact ⟨rfl,o.sub⟩
  have e1 : rPlace R e name right a n = (IntKind.wrap .i64 (IntKind.wrap .i64 (R.lo.getD c.obj.toNat 0 + c.lo) + a),0) := by unfold rPlace; rw [hg]; exact (if_neg h1).trans ((if_neg h2).trans (if_neg h3))
  refine Tr.condF (by simpa using h3) ?_
  (repeat' first|refine Gu ?_|(with_reducible first|refine Gn fun b h=>?_|apply Gx|apply Gy|rintro px rfl|refine fun(h:H)=>?_|intro hb)|refine Gs ?_|refine Gt ?_|exact Gz rfl|fail)
  refine Tr.xIntS (v := R.lo.getD c.obj.toNat 0) (int_get (by omega)) ?_
  (repeat' first|refine Gu ?_|(with_reducible first|refine Gn fun b h=>?_|apply Gx|apply Gy|rintro px rfl|refine fun(h:H)=>?_|intro hb)|refine Gs ?_|refine Gt ?_|exact Gz rfl|fail)
  refine tr_foldI (rgC g R) ⟨q,some _,lc,some _,zc,s⟩ [2,2,2,2,1] rfl ?_; (try simp only[Nr,Nl,Nat.reduceAdd,Nat.reduceMul,Int.reduceToNat])
  refine Tr.some fun o=>?_
  rw [e1]; exact ⟨rfl,o.sub⟩
theorem rPlace_ok {R : RgS} (k : RgOkS R) {e name right a n p : Int} (h : rPlace R e name right a n = (p,0)) : 0 ≤ p ∧ 0 ≤ n ∧ p + n ≤ R.M.length := by
 unfold rPlace at h
 split at h; · cases h
 rename_i c hc
 split at h; · cases h
 split at h; · cases h
 rename_i h1
 split at h; · cases h
 rename_i h2
 have hq := k.eq; have hm := k.mem
 simp only [Bool.or_eq_true,decide_eq_true_eq,not_or,Bool.not_eq_true',Bool.not_eq_false] at h1 h2
 have h3 := h2.1; have h4 := h2.2
 unfold within at h3 h4
 simp only [Bool.and_eq_true,decide_eq_true_eq] at h3 h4
 have hi : c.obj.toNat < R.lo.length := by omega
 have he := k.each c.obj.toNat _ _ (getD_get 0 hi) (getD_get 0 (show c.obj.toNat < R.n.length by omega))
 rw [wrap_eq] at h3 h4
 rw [wrap_eq] at h4
 cases h
 rw [wrap_eq,wrap_eq]
 omega
def rWrite (R : RgS) (e name a : Int) (b : List UInt8) : Int × RgS :=
 if (rPlace R e name 2 a b.length).2 = 0 then (0,{ R with M := R.M.take (rPlace R e name 2 a b.length).1.toNat ++ b ++ R.M.drop ((rPlace R e name 2 a b.length).1.toNat + b.length) }) else ((rPlace R e name 2 a b.length).2,R)
theorem ct_rWrite (g : Nat) (R : RgS) (k : RgOkS R) (e name a : Int) (b : List UInt8) : Ct CALL F_ref1_Regions_Write [P0 g,int e,int name,int a,.string ⟨⟨b⟩⟩] [rgC g R] fun v own=>v = int (rWrite R e name a b).1 ∧ own [rgC g (rWrite R e name a b).2] := by
 have hsz : ByteArray.size ⟨⟨b⟩⟩ = b.length := rfl
 refine Ct.of k_ref1_Regions_Write rfl fun h r=>Tr.eq (e_ref1_Regions_Write ..) ?_; (try simp only[Nr,Nl,Nat.reduceAdd,Nat.reduceMul,Int.reduceToNat])
 rw [hsz]
 refine Tr.xCall (ct_rPlace g R k e name 2 a b.length) ?_; rintro _ h ⟨rfl,o⟩ <;> (refine (?_ : Tr _ _ _ _) o; (try simp only[Nr,Nl,Nat.reduceAdd,Nat.reduceMul,Int.reduceToNat]); (repeat' first|refine Gu ?_|(with_reducible first|refine Gn fun b h=>?_|apply Gx|apply Gy|rintro px rfl|refine fun(h:H)=>?_|intro hb)|refine Gs ?_|refine Gt ?_|exact Gz rfl|fail))
 simp only [v2]
 (repeat' first|refine Gu ?_|(with_reducible first|refine Gn fun b h=>?_|apply Gx|apply Gy|rintro px rfl|refine fun(h:H)=>?_|intro hb)|refine Gs ?_|refine Gt ?_|exact Gz rfl|fail)
 by_cases h0 : (rPlace R e name 2 a b.length).2 = 0
 ·have e1 : rWrite R e name a b = (0,{ R with M := R.M.take (rPlace R e name 2 a b.length).1.toNat ++ b ++ R.M.drop ((rPlace R e name 2 a b.length).1.toNat + b.length) }) := by unfold rWrite; rw [if_pos h0]
  obtain ⟨c1,c2,c3⟩ := rPlace_ok k (show rPlace R e name 2 a b.length = ((rPlace R e name 2 a b.length).1,0) by rw [← h0])
  rw [e1]
  generalize (rPlace R e name 2 a b.length).1 = p at c1 c3
  refine Tr.condF (by simpa using h0) ?_
  refine tr_open (rgC g R) fun ⟨q,la,lc,za,zc,s⟩=>?_; (try simp only[Nr,Nl,Nat.reduceAdd,Nat.reduceMul,Int.reduceToNat])
  (repeat' first|refine Gu ?_|(with_reducible first|refine Gn fun b h=>?_|apply Gx|apply Gy|rintro px rfl|refine fun(h:H)=>?_|intro hb)|refine Gs ?_|refine Gt ?_|exact Gz rfl|fail)
  (try simp only[Nr,Nl,Nat.reduceAdd,Nat.reduceMul,Int.reduceToNat])
  rw [show min b.length (R.M.length - p.toNat) = b.length by omega,List.take_of_length_le (Nat.le_refl _)]
  rw [show pCells (some (⟨q,bif decide (p.toNat < R.M.length) then p.toNat else 0,none⟩ : Addr)) = pAgg ⟨q,bif decide (p.toNat < R.M.length) then p.toNat else 0,none⟩ from rfl]
  have hoff : (bif decide (p.toNat < R.M.length) then p.toNat else 0) = p.toNat ∨ (b = [] ∧ (bif decide (p.toNat < R.M.length) then p.toNat else 0) = 0 ∧ p.toNat = R.M.length) := by
   by_cases hlt : p.toNat < R.M.length
   ·left; simp [hlt]
   ·right; refine ⟨List.eq_nil_of_length_eq_zero (by omega),by simp [hlt],by omega⟩
  refine Tr.xPAgg (cs' := byteCells (R.M.take p.toNat ++ b ++ R.M.drop (p.toNat + b.length))) ⟨?_,byteCells_one _,?_⟩ fun h=>?_
  ·simp only [byteCells_length]; rcases hoff with e | ⟨rfl,e,_⟩ <;> rw [e] <;> (try simp) <;> omega
  ·rw [byteCells_length]
   rcases hoff with e | ⟨rfl,e,e4⟩ <;> rw [e]
   ·rw [byteCells_take,byteCells_drop,byteCells_append,byteCells_append]
   ·simp [e4,byteCells]
  have el : R.M.length = (R.M.take p.toNat ++ b ++ R.M.drop (p.toNat + b.length)).length := by simp; omega
  rw [el]
  refine tr_fold (rgC g { R with M := R.M.take p.toNat ++ b ++ R.M.drop (p.toNat + b.length) }) ⟨q,la,lc,za,zc,s⟩ ?_; (try simp only[Nr,Nl,Nat.reduceAdd,Nat.reduceMul,Int.reduceToNat])
  refine Tr.some fun o=>?_
  exact ⟨rfl,o.sub⟩
 ·have e1 : rWrite R e name a b = ((rPlace R e name 2 a b.length).2,R) := by unfold rWrite; rw [if_neg h0]
  refine Tr.condT (by simpa using h0) ?_
  refine Tr.some fun o=>?_
  rw [e1]; exact ⟨rfl,o.sub⟩
theorem rWrite_ok {R : RgS} (k : RgOkS R) (e name a : Int) (b : List UInt8) : RgOkS (rWrite R e name a b).2 := by
 unfold rWrite
 split
 ·rename_i h0
  obtain ⟨c1,c2,c3⟩ := rPlace_ok k (show rPlace R e name 2 a b.length = ((rPlace R e name 2 a b.length).1,0) by rw [← h0])
  have el : (R.M.take (rPlace R e name 2 a b.length).1.toNat ++ b ++ R.M.drop ((rPlace R e name 2 a b.length).1.toNat + b.length)).length = R.M.length := by simp; omega
  exact ⟨k.sp,k.eq,k.few,by simp only [el]; exact k.mem,fun i lo n h1 h2=>by simp only [el]; exact k.each i lo n h1 h2⟩
 ·exact k
abbrev qtF (q : Nat) (L : List (List Bool)) (x : Option Addr × Nat × List (Option Addr × Nat)) : List HP :=
 [pt q (.cells Y_ref1_Quota false [.slice x.1 L.length x.2.1]),slC false Y_s_bool 1 x.1 L.length x.2.1 (slsV x.2.2 L),pu (x.2.2.length = L.length)]
def qtC (q : Nat) (L : List (List Bool)) : HP := hex fun x=>sl (qtF q L x)
instance {q : Nat} {L : List (List Bool)} : Chk (qtC q L) (qtF q L) := ⟨rfl⟩
def qNew (l : List Int) : List (List Bool) := l.map fun n=>List.replicate (framesOf n).toNat false
theorem ct_NewQuota_L1 (q : Nat) (p : HP) (fa : Option Addr) (fc : Nat) (ro : Bool) (l : List Int) [ks : IsSl p fa ro Y_int 1 l.length fc (l.map int)] (h4 : l.length ≤ 4) : ∀ (m i : Nat) (L : List (List Bool)),l.length - i = m → i ≤ l.length → L = qNew (l.take i) →
  CtJ JUMP F_ref1_NewQuota T_ref1_NewQuota_L1 [(0,.slice fa l.length fc),(3,P0 q),(4,int i)] [qtC q L,p] fun v own=>v = P0 q ∧ own [qtC q (qNew l),p] := by
 intro m
 induction m with
 | zero =>
  intro i L hm hi hL
  obtain rfl : i = l.length := by omega
  rw [List.take_length] at hL
  subst hL
  refine CtJ.of k_ref1_NewQuota fun h r=>Tr.eq (e_ref1_NewQuota_L1 ..) ?_; (try simp only[Nr,Nl,Nat.reduceAdd,Nat.reduceMul,Int.reduceToNat])
  (repeat' first|refine Gu ?_|(with_reducible first|refine Gn fun b h=>?_|apply Gx|apply Gy|rintro px rfl|refine fun(h:H)=>?_|intro hb)|refine Gs ?_|refine Gt ?_|exact Gz rfl|fail)
  refine Tr.condF (by simp) ?_
  refine Tr.some fun o=>?_
  exact ⟨by first | rfl | trivial,o.sub⟩
 | succ m ih =>
  intro i L hm hi hL
  have hlt : i < l.length := by omega
  have hp : l[i]? = some l[i] := List.getElem?_eq_getElem hlt
  have ht : l.take (i + 1) = l.take i ++ [l[i]] := by rw [List.take_add_one,hp]; rfl
  generalize l[i] = n at hp ht
  have hl : L.length = i := by rw [hL]; simp [qNew]; omega
  have e1 : IntKind.wrap .i64 ((i : Int) + 1) = ((i + 1 : Nat) : Int) := by rw [wrap_eq]; omega
  have ef : mm2 false (mm2 true n 0) 64 = framesOf n := by rw [mm2_max,mm2_min]; rfl
  have hf : 0 ≤ framesOf n ∧ framesOf n ≤ 64 := by unfold framesOf; omega
  have ea : L.length + 1 = (L ++ [List.replicate (framesOf n).toNat false]).length := by simp
  refine CtJ.of k_ref1_NewQuota fun h r=>Tr.eq (e_ref1_NewQuota_L1 ..) ?_; (try simp only[Nr,Nl,Nat.reduceAdd,Nat.reduceMul,Int.reduceToNat])
  (repeat' first|refine Gu ?_|(with_reducible first|refine Gn fun b h=>?_|apply Gx|apply Gy|rintro px rfl|refine fun(h:H)=>?_|intro hb)|refine Gs ?_|refine Gt ?_|exact Gz rfl|fail)
  refine Tr.condT (by simp; omega) ?_
  refine tr_open (qtC q L) fun ⟨qa,qc,qs⟩=>?_; (try simp only[Nr,Nl,Nat.reduceAdd,Nat.reduceMul,Int.reduceToNat])
  refine tr_pureAt 2 rfl fun hq=>?_
  (repeat' first|refine Gu ?_|(with_reducible first|refine Gn fun b h=>?_|apply Gx|apply Gy|rintro px rfl|refine fun(h:H)=>?_|intro hb)|refine Gs ?_|refine Gt ?_|exact Gz rfl|fail)
  rw [Int.toNat_natCast]
  refine Tr.xIntS (v := n) (by rw [List.getElem?_map,hp]; rfl) ?_
  rw [ef]
  refine Tr.ck ⟨by omega,by omega,by simp only [most]; omega⟩ ?_
  refine Tr.nw fun bb h=>?_
  (repeat' first|refine Gu ?_|(with_reducible first|refine Gn fun b h=>?_|apply Gx|apply Gy|rintro px rfl|refine fun(h:H)=>?_|intro hb)|refine Gs ?_|refine Gt ?_|exact Gz rfl|fail)
  refine Tr.xApd (new := [.slice (some ⟨bb,0,none⟩) (framesOf n).toNat (framesOf n).toNat]) ⟨rfl,rfl,by simp only [most]; omega⟩ fun a' c' h'=>?_
  (try simp only[Nr,Nl,Nat.reduceAdd,Nat.reduceMul,Int.reduceToNat])
  (repeat' first|refine Gu ?_|(with_reducible first|refine Gn fun b h=>?_|apply Gx|apply Gy|rintro px rfl|refine fun(h:H)=>?_|intro hb)|refine Gs ?_|refine Gt ?_|exact Gz rfl|fail)
  have es : slsV qs L ++ [.slice (some ⟨bb,0,none⟩) (framesOf n).toNat (framesOf n).toNat] = slsV (qs ++ [(some ⟨bb,0,none⟩,(framesOf n).toNat)]) (L ++ [List.replicate (framesOf n).toNat false]) := by
   rw [slsV_app _ _ hq]; simp
  rw [e1,ea,es]
  refine tr_addpure (show (qs ++ [((some ⟨bb,0,none⟩ : Option Addr),(framesOf n).toNat)]).length = (L ++ [List.replicate (framesOf n).toNat false]).length by simp [hq]) ?_
  (try simp only[Nr,Nl,Nat.reduceAdd,Nat.reduceMul,Int.reduceToNat])
  refine tr_fold (qtC q (L ++ [List.replicate (framesOf n).toNat false])) ⟨a',c',qs ++ [((some ⟨bb,0,none⟩ : Option Addr),(framesOf n).toNat)]⟩ ?_; (try simp only[Nr,Nl,Nat.reduceAdd,Nat.reduceMul,Int.reduceToNat])
  refine Tr.xRun (ih (i + 1) (L ++ [List.replicate (framesOf n).toNat false]) (by omega) (by omega) (by rw [ht,hL]; simp [qNew])) ?_
  rintro _ h ⟨rfl,o⟩
  exact ⟨rfl,o.sub⟩
theorem ct_NewQuota (p : HP) (fa : Option Addr) (fc : Nat) (ro : Bool) (l : List Int) [ks : IsSl p fa ro Y_int 1 l.length fc (l.map int)] (h4 : l.length ≤ 4) : Ct CALL F_ref1_NewQuota [.slice fa l.length fc] [p] fun v own=>∃ q,v = P0 q ∧ own [qtC q (qNew l),p] := by
 refine Ct.of k_ref1_NewQuota rfl fun h r=>Tr.eq (e_ref1_NewQuota ..) ?_; (try simp only[Nr,Nl,Nat.reduceAdd,Nat.reduceMul,Int.reduceToNat])
 refine Tr.nw fun q h=>?_
 refine tr_nilSl false Y_s_bool 1 (by omega) ?_
 refine tr_addpure (show ([] : List (Option Addr × Nat)).length = ([] : List (List Bool)).length from rfl) ?_
 refine tr_foldI (qtC q []) ⟨none,0,[]⟩ [2,1,0] rfl ?_; (try simp only[Nr,Nl,Nat.reduceAdd,Nat.reduceMul,Int.reduceToNat])
 refine Tr.xRun (ct_NewQuota_L1 q p fa fc ro l h4 _ 0 [] rfl (by omega) rfl) ?_
 rintro _ h ⟨rfl,o⟩
 exact ⟨q,rfl,o.sub⟩
def qtFirst (L : List (List Bool)) (s : Nat) : Nat := ((L.take s).map List.length).sum
theorem ct_qtFirst_L1 (q : Nat) (L : List (List Bool)) (s : Nat) (hs : s ≤ L.length) (hL : L.length ≤ 4) (hb : ∀ x ∈ L,x.length ≤ 64) : ∀ (m i : Nat),s - i = m → i ≤ s →
  CtPJ JUMP F_ref1_Quota_First T_ref1_Quota_First_L1 [(0,P0 q),(1,int s),(5,int (qtFirst L i)),(6,int i)] [qtC q L] (int (qtFirst L s)) := by
 have hle : ∀ j,qtFirst L j ≤ 64 * j := by
  intro j
  induction j with
  | zero=>simp [qtFirst]
  | succ j ih =>
   unfold qtFirst at *
   rw [List.take_add_one]
   cases h : L[j]? with
   | none=>simp only [Option.toList_none,List.append_nil]; omega
   | some x=>have := hb x (List.mem_of_getElem? h); simp only [Option.toList_some,List.map_append,List.sum_append,List.map_cons,List.map_nil,List.sum_cons,List.sum_nil]; omega
 intro m
 induction m with
 | zero =>
  intro i hm hi
  obtain rfl : i = s := by omega
  refine CtPJ.of k_ref1_Quota_First fun h r=>Tr.eq (e_ref1_Quota_First_L1 ..) ?_; (try simp only[Nr,Nl,Nat.reduceAdd,Nat.reduceMul,Int.reduceToNat])
  refine Tr.condF (by simp) ?_
  (repeat' first|refine Gu ?_|(with_reducible first|refine Gn fun b h=>?_|apply Gx|apply Gy|rintro px rfl|refine fun(h:H)=>?_|intro hb)|refine Gs ?_|refine Gt ?_|exact Gz rfl|fail)
 | succ m ih =>
  intro i hm hi
  have hlt : i < L.length := by omega
  have hp : L[i]? = some L[i] := List.getElem?_eq_getElem hlt
  have hx := hb _ (List.getElem_mem hlt)
  generalize L[i] = x at hp hx
  have en : qtFirst L (i + 1) = qtFirst L i + x.length := by unfold qtFirst; rw [List.take_add_one,hp]; simp
  have hi2 := hle i
  have e1 : IntKind.wrap .i64 ((i : Int) + 1) = ((i + 1 : Nat) : Int) := by rw [wrap_eq]; omega
  have e2 : IntKind.wrap .i64 ((qtFirst L i : Int) + x.length) = ((qtFirst L (i + 1) : Nat) : Int) := by rw [wrap_eq,en]; omega
  refine CtPJ.of k_ref1_Quota_First fun h r=>Tr.eq (e_ref1_Quota_First_L1 ..) ?_; (try simp only[Nr,Nl,Nat.reduceAdd,Nat.reduceMul,Int.reduceToNat])
  refine Tr.condT (by simp; omega) ?_
  refine tr_open (qtC q L) fun ⟨qa,qc,qs⟩=>?_; (try simp only[Nr,Nl,Nat.reduceAdd,Nat.reduceMul,Int.reduceToNat])
  refine tr_pureAt 2 rfl fun hq=>?_
  obtain ⟨y,hy⟩ := gets hq hp
  (repeat' first|refine Gu ?_|(with_reducible first|refine Gn fun b h=>?_|apply Gx|apply Gy|rintro px rfl|refine fun(h:H)=>?_|intro hb)|refine Gs ?_|refine Gt ?_|exact Gz rfl|fail)
  rw [Int.toNat_natCast]
  (try simp only[Nr,Nl,Nat.reduceAdd,Nat.reduceMul,Int.reduceToNat])
  refine Tr.xSlS (x := y.1) (y := x.length) (z := y.2) (slsV_get hy hp) ?_
  rw [e1,e2]
  intro o
  have o2 := Own.foldI (qtC q L) (some px,qc,qs) [0,0,0] o rfl
  refine (?_ : Tr _ _ _ _) o2
  exact tr_prunO (ih (i + 1) (by omega) (by omega)) (r := r) (by simp) fun o=>⟨rfl,rfl⟩
theorem ct_qtFirst (q : Nat) (L : List (List Bool)) (s : Nat) (hs : s ≤ L.length) (hL : L.length ≤ 4) (hb : ∀ x ∈ L,x.length ≤ 64) : CtP CALL F_ref1_Quota_First [P0 q,int s] [qtC q L] (int (qtFirst L s)) := by
 refine CtP.of k_ref1_Quota_First rfl fun h r=>Tr.eq (e_ref1_Quota_First ..) ?_; (try simp only[Nr,Nl,Nat.reduceAdd,Nat.reduceMul,Int.reduceToNat])
 exact tr_prunO (ct_qtFirst_L1 q L s hs hL hb _ 0 rfl (by omega)) (r := r) (by simp) fun o=>⟨rfl,rfl⟩
end Go.EQ

set_option maxRecDepth 10000
namespace Go.EQ
open Go Go.NN
abbrev bs (l : List UInt8) : ByteArray := ⟨⟨l⟩⟩
theorem bs_app (l m : List UInt8) : bs l ++ bs m = bs (l ++ m) := by
 refine ByteArray.ext ?_
 rw [ByteArray.data_append]; simp
theorem bs_size (l : List UInt8) : ByteArray.size (bs l) = l.length := rfl
class BytesC (cs : List Value) (l : outParam (List UInt8)) : Prop where
 ok : cs = byteCells l
instance : BytesC [] [] := ⟨rfl⟩
instance {x : UInt8} {cs : List Value} {l : List UInt8} [k : BytesC cs l] : BytesC (.int .u8 (x.toNat : Int) :: cs) (x :: l) := ⟨by rw [k.ok]; rfl⟩
instance {n : Int} {cs : List Value} {l : List UInt8} [k : BytesC cs l] : BytesC (.int .u8 (IntKind.wrap .u8 n) :: cs) (b8 n :: l) := ⟨by rw [k.ok,b8_val]; rfl⟩
instance {cs : List Value} {l : List UInt8} [k : BytesC cs l] : BytesC (.int .u8 0 :: cs) (0 :: l) := ⟨by rw [k.ok]; rfl⟩
instance {cs : List Value} {l : List UInt8} [k : BytesC cs l] : BytesC (.int .u8 1 :: cs) (1 :: l) := ⟨by rw [k.ok]; rfl⟩
instance {cs : List Value} {l : List UInt8} [k : BytesC cs l] : BytesC (.int .u8 167 :: cs) (167 :: l) := ⟨by rw [k.ok]; rfl⟩
instance {cs : List Value} {l : List UInt8} [k : BytesC cs l] : BytesC (.int .u8 179 :: cs) (179 :: l) := ⟨by rw [k.ok]; rfl⟩
instance {cs : List Value} {l : List UInt8} [k : BytesC cs l] : BytesC (.int .u8 197 :: cs) (197 :: l) := ⟨by rw [k.ok]; rfl⟩
instance {cs : List Value} {l : List UInt8} [k : BytesC cs l] : BytesC (.int .u8 211 :: cs) (211 :: l) := ⟨by rw [k.ok]; rfl⟩
instance {cs : List Value} {n : Nat} {l : List UInt8} [g : LenC cs n] [k : BytesC cs l] : BytesC (List.take n (List.drop 0 cs)) l := ⟨by rw [List.drop_zero,List.take_of_length_le (Nat.le_of_eq g.ok)]; exact k.ok⟩
instance {l : List HP} {h : H} {α : Type} {Q : α → H → Prop} {cs : List Value} {x : List UInt8} {k : List UInt8 → Option (α × H)} [c : BytesC cs x] : StpU (Tr l h (asBytes cs k) Q) (0 = 0) (Tr l h (k x) Q) := ⟨fun _ t=>by rw [c.ok]; exact Tr.asBytes (bytesN1_byteCells _) t⟩
def isum (l : List UInt8) : Int := (l.map fun x=>(x.toNat : Int)).sum
theorem isum_bnd : ∀ (l : List UInt8),0 ≤ isum l ∧ isum l ≤ 255 * l.length
 | []=>by simp [isum]
 | x :: l=>by
  have := isum_bnd l; have := x.toNat_lt
  simp only [isum,List.map_cons,List.sum_cons,List.length_cons] at *; omega
theorem sumF_mod : ∀ (l : List UInt8) (n : Int),sumF (n % 256) l = (n + isum l) % 256
 | [],n=>by simp [sumF,isum]
 | x :: l,n=>by
  have e : sumF (n % 256) (x :: l) = sumF ((n + x.toNat) % 256) l := by
   show sumF (IntKind.wrap .u8 (n % 256 + x.toNat)) l = _
   rw [wrap8]; congr 1; omega
  rw [e,sumF_mod l]
  simp only [isum,List.map_cons,List.sum_cons]; congr 1; omega
theorem sum8_isum (l : List UInt8) : ((sum8 l).toNat : Int) = (l.length + isum l) % 256 := by
 rw [← sum8_val]; unfold sumB; rw [wrap8,sumF_mod]
theorem ct_rSum_L1 (l : List UInt8) (hl : l.length ≤ 100000) : ∀ (m i : Nat),l.length - i = m → i ≤ l.length →
  CtPJ JUMP F_ref1_Sum T_ref1_Sum_L1 [(0,.string (bs l)),(3,int (l.length + isum (l.take i))),(4,int i)] [] (.int .u8 ((sum8 l).toNat : Int)) := by
 intro m
 induction m with
 | zero =>
  intro i hm hi
  obtain rfl : i = l.length := by omega
  refine CtPJ.of k_ref1_Sum fun h r=>Tr.eq (e_ref1_Sum_L1 ..) ?_; (try simp only[Nr,Nl,Nat.reduceAdd,Nat.reduceMul,Int.reduceToNat])
  rw [bs_size,List.take_length]
  refine Tr.condF (by simp) ?_
  refine Tr.some fun o=>?_
  rw [wrap8,sum8_isum]; exact ⟨by first | rfl | trivial,by first | rfl | trivial⟩
 | succ m ih =>
  intro i hm hi
  have hlt : i < l.length := by omega
  have hp : l[i]? = some l[i] := List.getElem?_eq_getElem hlt
  have ht : l.take (i + 1) = l.take i ++ [l[i]] := by rw [List.take_add_one,hp]; rfl
  have hg : List.getD l i 0 = l[i] := by rw [List.getD_eq_getElem?_getD,hp]; rfl
  generalize l[i] = x at hp ht hg
  have hx := x.toNat_lt
  have hb := isum_bnd (l.take i)
  have hk : (l.take i).length = i := by simp; omega
  have e1 : IntKind.wrap .i64 ((i : Int) + 1) = ((i + 1 : Nat) : Int) := by rw [wrap_eq]; omega
  have e2 : isum (l.take (i + 1)) = isum (l.take i) + x.toNat := by rw [ht]; simp [isum]
  refine CtPJ.of k_ref1_Sum fun h r=>Tr.eq (e_ref1_Sum_L1 ..) ?_; (try simp only[Nr,Nl,Nat.reduceAdd,Nat.reduceMul,Int.reduceToNat])
  rw [bs_size]
  refine Tr.condT (by simp; omega) ?_
  (repeat' first|refine Gu ?_|(with_reducible first|refine Gn fun b h=>?_|apply Gx|apply Gy|rintro px rfl|refine fun(h:H)=>?_|intro hb)|refine Gs ?_|refine Gt ?_|exact Gz rfl|fail)
  rw [Int.toNat_natCast,hg,e1,wrap_b,show IntKind.wrap .i64 ((l.length : Int) + isum (l.take i) + x.toNat) = l.length + isum (l.take (i + 1)) by rw [wrap_eq,e2]; omega]
  exact tr_prunO (ih (i + 1) (by omega) (by omega)) (r := r) (by simp) fun o=>⟨rfl,rfl⟩
theorem ct_rSum (l : List UInt8) (hl : l.length ≤ 100000) : CtP CALL F_ref1_Sum [.string (bs l)] [] (.int .u8 ((sum8 l).toNat : Int)) := by
 refine CtP.of k_ref1_Sum rfl fun h r=>Tr.eq (e_ref1_Sum ..) ?_; (try simp only[Nr,Nl,Nat.reduceAdd,Nat.reduceMul,Int.reduceToNat])
 have J := ct_rSum_L1 l hl _ 0 rfl (by omega)
 simp only [List.take_zero,isum,List.map_nil,List.sum_nil,Int.add_zero] at J
 exact tr_prunO J (r := r) (by simp) fun o=>⟨rfl,rfl⟩
theorem ct_rFront (g : Int) : Ct CALL F_ref15_FrontBytes [int g] [] fun v own=>v = .string (bs [b8 g,211,sum8 [b8 g,211],0]) ∧ own [] := by
 refine Ct.of k_ref15_FrontBytes rfl fun h r=>Tr.eq (e_ref15_FrontBytes ..) ?_; (try simp only[Nr,Nl,Nat.reduceAdd,Nat.reduceMul,Int.reduceToNat])
 (repeat' first|refine Gu ?_|(with_reducible first|refine Gn fun b h=>?_|apply Gx|apply Gy|rintro px rfl|refine fun(h:H)=>?_|intro hb)|refine Gs ?_|refine Gt ?_|exact Gz rfl|fail)
 refine Tr.pcall (ct_rSum [b8 g,211] (by simp)) ?_; (try simp only[Nr,Nl,Nat.reduceAdd,Nat.reduceMul,Int.reduceToNat]); (repeat' first|refine Gu ?_|(with_reducible first|refine Gn fun b h=>?_|apply Gx|apply Gy|rintro px rfl|refine fun(h:H)=>?_|intro hb)|refine Gs ?_|refine Gt ?_|exact Gz rfl|fail)
 refine Tr.ck (by simp [ByteArray.size,most]) ?_
 refine Tr.some fun o=>?_
 rw [bs_app]
 exact ⟨rfl,o.sub⟩
theorem ct_rTwo (n : Int) : Ct CALL F_ref1_Two [int n] [] fun v own=>v = .string (bs [b8 (n / 256),b8 n]) ∧ own [] := by
 refine Ct.of k_ref1_Two rfl fun h r=>Tr.eq (e_ref1_Two ..) ?_; (try simp only[Nr,Nl,Nat.reduceAdd,Nat.reduceMul,Int.reduceToNat])
 rw [show Int.fdiv n (2 ^ 8) = n / 256 by rw [Int.fdiv_eq_ediv_of_nonneg _ (by omega)]; rfl]
 (repeat' first|refine Gu ?_|(with_reducible first|refine Gn fun b h=>?_|apply Gx|apply Gy|rintro px rfl|refine fun(h:H)=>?_|intro hb)|refine Gs ?_|refine Gt ?_|exact Gz rfl|fail)
 refine Tr.some fun o=>?_
 exact ⟨rfl,o.sub⟩
theorem ct_rPipeB_L1 (b0 : Nat) (p : PipeS) : ∀ (m i : Nat) (acc : List UInt8),32 - i = m → i ≤ 32 → acc.length ≤ 50 + i →
  CtJ JUMP F_ref11_PipeBytes T_ref11_PipeBytes_L1 [(1,P0 b0),(3,.string (bs acc)),(4,int i)] [pt b0 (.cells Y_api_Pipe false (pipeL p))] fun v own=>v = .string (bs (acc ++ p.data.drop i)) ∧ own [] := by
 have hd := p.len
 intro m
 induction m with
 | zero =>
  intro i acc hm hi ha
  obtain rfl : i = 32 := by omega
  refine CtJ.of k_ref11_PipeBytes fun h r=>Tr.eq (e_ref11_PipeBytes_L1 ..) ?_; (try simp only[Nr,Nl,Nat.reduceAdd,Nat.reduceMul,Int.reduceToNat])
  refine Tr.condF rfl ?_
  refine Tr.some fun o=>?_
  rw [List.drop_eq_nil_of_le (by omega),List.append_nil]
  exact ⟨rfl,o.sub⟩
 | succ m ih =>
  intro i acc hm hi ha
  have hlt : i < p.data.length := by omega
  have hp : p.data[i]? = some p.data[i] := List.getElem?_eq_getElem hlt
  have hdr : p.data.drop i = p.data[i] :: p.data.drop (i + 1) := List.drop_eq_getElem_cons hlt
  generalize p.data[i] = x at hp hdr
  have e1 : IntKind.wrap .i64 ((i : Int) + 1) = ((i + 1 : Nat) : Int) := by rw [wrap_eq]; omega
  refine CtJ.of k_ref11_PipeBytes fun h r=>Tr.eq (e_ref11_PipeBytes_L1 ..) ?_; (try simp only[Nr,Nl,Nat.reduceAdd,Nat.reduceMul,Int.reduceToNat])
  refine Tr.condT (by simp; omega) ?_
  refine Tr.ck (by omega) ?_
  rw [Int.toNat_natCast]
  refine Tr.xInt (n := (x.toNat : Int)) ?_ ?_
  ·rw [show (4 + i : Nat) = i + 1 + 1 + 1 + 1 by omega]
   exact bc_get hp
  (repeat' first|refine Gu ?_|(with_reducible first|refine Gn fun b h=>?_|apply Gx|apply Gy|rintro px rfl|refine fun(h:H)=>?_|intro hb)|refine Gs ?_|refine Gt ?_|exact Gz rfl|fail)
  refine Tr.ck (by simp only [ByteArray.size,most]; simp; omega) ?_
  rw [bs_app,e1,hdr]
  refine Tr.xRun (ih (i + 1) (acc ++ [x]) (by omega) (by omega) (by simp; omega)) ?_
  rintro _ h ⟨rfl,o⟩
  exact ⟨by simp,o.sub⟩
theorem ct_rPipeB (p : PipeS) : Ct CALL F_ref11_PipeBytes [.agg ⟨pipeL p⟩] [] fun v own=>v = .string (bs (encP p)) ∧ own [] := by
 refine Ct.of k_ref11_PipeBytes rfl fun h r=>Tr.eq (e_ref11_PipeBytes ..) ?_; (try simp only[Nr,Nl,Nat.reduceAdd,Nat.reduceMul,Int.reduceToNat])
 refine Tr.nw fun b0 h=>?_
 (repeat' first|refine Gu ?_|(with_reducible first|refine Gn fun b h=>?_|apply Gx|apply Gy|rintro px rfl|refine fun(h:H)=>?_|intro hb)|refine Gs ?_|refine Gt ?_|exact Gz rfl|fail)
 refine Tr.pcall (ct_rSum (headP p) (by simp [headP])) ?_; (try simp only[Nr,Nl,Nat.reduceAdd,Nat.reduceMul,Int.reduceToNat]); (repeat' first|refine Gu ?_|(with_reducible first|refine Gn fun b h=>?_|apply Gx|apply Gy|rintro px rfl|refine fun(h:H)=>?_|intro hb)|refine Gs ?_|refine Gt ?_|exact Gz rfl|fail)
 refine Tr.ck (by simp [ByteArray.size,most]) ?_
 rw [bs_app]
 refine Tr.xRun (ct_rPipeB_L1 b0 p _ 0 (headP p ++ [sum8 (headP p),0]) rfl (by omega) (by simp [headP])) ?_
 rintro _ h ⟨rfl,o⟩
 exact ⟨by simp [encP],o.sub⟩
def two8 (n : Int) : List UInt8 := [b8 (n / 256),b8 n]
def headR (p : ProcS) : List UInt8 := [b8 p.state,b8 p.parent,b8 p.group,b8 p.code] ++ (two8 p.pending ++ (two8 p.mask ++ (two8 p.ignored ++ (two8 p.caught ++ (p.fds.map b8 ++ [167])))))
def encR (p : ProcS) : List UInt8 := headR p ++ [sum8 (headR p),0,0]
theorem ct_rProcB_L1 (b0 : Nat) (p : ProcS) : ∀ (m i : Nat) (acc : List UInt8),8 - i = m → i ≤ 8 → acc.length ≤ 50 + i →
  CtJ JUMP F_ref11_ProcBytes T_ref11_ProcBytes_L1 [(1,P0 b0),(3,.string (bs acc)),(4,int i)] [pt b0 (.cells Y_api_Proc false (procL p))] fun v own =>
   v = .string (bs (acc ++ ((p.fds.drop i).map b8 ++ [167]) ++ [sum8 (acc ++ ((p.fds.drop i).map b8 ++ [167])),0,0])) ∧ own [] := by
 have hd := p.len
 intro m
 induction m with
 | zero =>
  intro i acc hm hi ha
  obtain rfl : i = 8 := by omega
  refine CtJ.of k_ref11_ProcBytes fun h r=>Tr.eq (e_ref11_ProcBytes_L1 ..) ?_; (try simp only[Nr,Nl,Nat.reduceAdd,Nat.reduceMul,Int.reduceToNat])
  refine Tr.condF rfl ?_
  refine Tr.ck (by simp only [ByteArray.size,most]; simp; omega) ?_
  rw [bs_app]
  refine Tr.pcall (ct_rSum (acc ++ [167]) (by simp; omega)) ?_; (try simp only[Nr,Nl,Nat.reduceAdd,Nat.reduceMul,Int.reduceToNat]); (repeat' first|refine Gu ?_|(with_reducible first|refine Gn fun b h=>?_|apply Gx|apply Gy|rintro px rfl|refine fun(h:H)=>?_|intro hb)|refine Gs ?_|refine Gt ?_|exact Gz rfl|fail)
  refine Tr.ck (by simp only [ByteArray.size,most]; simp; omega) ?_
  refine Tr.some fun o=>?_
  rw [List.drop_eq_nil_of_le (by omega),bs_app]
  exact ⟨rfl,o.sub⟩
 | succ m ih =>
  intro i acc hm hi ha
  have hlt : i < p.fds.length := by omega
  have hp : p.fds[i]? = some p.fds[i] := List.getElem?_eq_getElem hlt
  have hdr : p.fds.drop i = p.fds[i] :: p.fds.drop (i + 1) := List.drop_eq_getElem_cons hlt
  generalize p.fds[i] = x at hp hdr
  have e1 : IntKind.wrap .i64 ((i : Int) + 1) = ((i + 1 : Nat) : Int) := by rw [wrap_eq]; omega
  refine CtJ.of k_ref11_ProcBytes fun h r=>Tr.eq (e_ref11_ProcBytes_L1 ..) ?_; (try simp only[Nr,Nl,Nat.reduceAdd,Nat.reduceMul,Int.reduceToNat])
  refine Tr.condT (by simp; omega) ?_
  refine Tr.ck (by omega) ?_
  rw [Int.toNat_natCast]
  refine Tr.xInt (n := x) ?_ ?_
  ·rw [show (8 + i : Nat) = i + 1 + 1 + 1 + 1 + 1 + 1 + 1 + 1 by omega]
   exact map_get hp
  (repeat' first|refine Gu ?_|(with_reducible first|refine Gn fun b h=>?_|apply Gx|apply Gy|rintro px rfl|refine fun(h:H)=>?_|intro hb)|refine Gs ?_|refine Gt ?_|exact Gz rfl|fail)
  refine Tr.ck (by simp only [ByteArray.size,most]; simp; omega) ?_
  rw [bs_app,e1,hdr]
  refine Tr.xRun (ih (i + 1) (acc ++ [b8 x]) (by omega) (by omega) (by simp; omega)) ?_
  rintro _ h ⟨rfl,o⟩
  exact ⟨by simp,o.sub⟩
theorem ct_rProcB (p : ProcS) : Ct CALL F_ref11_ProcBytes [.agg ⟨procL p⟩] [] fun v own=>v = .string (bs (encR p)) ∧ own [] := by
 refine Ct.of k_ref11_ProcBytes rfl fun h r=>Tr.eq (e_ref11_ProcBytes ..) ?_; (try simp only[Nr,Nl,Nat.reduceAdd,Nat.reduceMul,Int.reduceToNat])
 refine Tr.nw fun b0 h=>?_
 (repeat' first|refine Gu ?_|(with_reducible first|refine Gn fun b h=>?_|apply Gx|apply Gy|rintro px rfl|refine fun(h:H)=>?_|intro hb)|refine Gs ?_|refine Gt ?_|exact Gz rfl|fail)
 refine Tr.xCall (ct_rTwo p.pending) ?_; rintro _ h ⟨rfl,o⟩ <;> (refine (?_ : Tr _ _ _ _) o; (try simp only[Nr,Nl,Nat.reduceAdd,Nat.reduceMul,Int.reduceToNat]); (repeat' first|refine Gu ?_|(with_reducible first|refine Gn fun b h=>?_|apply Gx|apply Gy|rintro px rfl|refine fun(h:H)=>?_|intro hb)|refine Gs ?_|refine Gt ?_|exact Gz rfl|fail))
 refine Tr.ck (by simp [ByteArray.size,most]) ?_
 refine Tr.xCall (ct_rTwo p.mask) ?_; rintro _ h ⟨rfl,o⟩ <;> (refine (?_ : Tr _ _ _ _) o; (try simp only[Nr,Nl,Nat.reduceAdd,Nat.reduceMul,Int.reduceToNat]); (repeat' first|refine Gu ?_|(with_reducible first|refine Gn fun b h=>?_|apply Gx|apply Gy|rintro px rfl|refine fun(h:H)=>?_|intro hb)|refine Gs ?_|refine Gt ?_|exact Gz rfl|fail))
 refine Tr.ck (by simp [ByteArray.size,most,bs_app]) ?_
 refine Tr.xCall (ct_rTwo p.ignored) ?_; rintro _ h ⟨rfl,o⟩ <;> (refine (?_ : Tr _ _ _ _) o; (try simp only[Nr,Nl,Nat.reduceAdd,Nat.reduceMul,Int.reduceToNat]); (repeat' first|refine Gu ?_|(with_reducible first|refine Gn fun b h=>?_|apply Gx|apply Gy|rintro px rfl|refine fun(h:H)=>?_|intro hb)|refine Gs ?_|refine Gt ?_|exact Gz rfl|fail))
 refine Tr.ck (by simp [ByteArray.size,most,bs_app]) ?_
 refine Tr.xCall (ct_rTwo p.caught) ?_; rintro _ h ⟨rfl,o⟩ <;> (refine (?_ : Tr _ _ _ _) o; (try simp only[Nr,Nl,Nat.reduceAdd,Nat.reduceMul,Int.reduceToNat]); (repeat' first|refine Gu ?_|(with_reducible first|refine Gn fun b h=>?_|apply Gx|apply Gy|rintro px rfl|refine fun(h:H)=>?_|intro hb)|refine Gs ?_|refine Gt ?_|exact Gz rfl|fail))
 refine Tr.ck (by simp [ByteArray.size,most,bs_app]) ?_
 simp only [bs_app]
 refine Tr.xRun (ct_rProcB_L1 b0 p _ 0 _ rfl (by omega) (by simp)) ?_
 rintro _ h ⟨rfl,o⟩
 exact ⟨by simp [encR,headR,two8],o.sub⟩
theorem bs_zero (n : Nat) : manyN n [.int .u8 0] = byteCells (List.replicate n 0) := by simp [manyN,byteCells]
def blankB : List UInt8 := List.replicate 448 0 ++ (encP ⟨0,0,1,1,List.replicate 32 0,rfl⟩ ++ frontB8 0)
where frontB8 (g : Int) : List UInt8 := [b8 g,211,sum8 [b8 g,211],0]
theorem ct_rBlank : Ct CALL F_ref15_Blank [] [] fun v own=>v = .string (bs blankB) ∧ own [] := by
 have hc : ∀ Z : List UInt8,Z.length = 448 → 0 + 448 ≤ (byteCells Z).length ∧ ((byteCells Z).drop 0).take 448 = byteCells Z := fun Z hz=>⟨by rw [bc_len]; omega,by rw [List.drop_zero,List.take_of_length_le (by rw [bc_len]; omega)]⟩
 refine Ct.of k_ref15_Blank rfl fun h r=>Tr.eq (e_ref15_Blank ..) ?_; (try simp only[Nr,Nl,Nat.reduceAdd,Nat.reduceMul,Int.reduceToNat])
 refine Tr.ck ⟨by omega,by omega,by simp [most]⟩ ?_
 rw [bs_zero]
 have hb : blankB = List.replicate 448 0 ++ (encP ⟨0,0,1,1,List.replicate 32 0,rfl⟩ ++ blankB.frontB8 0) := rfl
 generalize hz : List.replicate 448 (0 : UInt8) = Z at hb ⊢
 have hl : Z.length = 448 := by rw [← hz]; simp
 rw [hb]
 refine Tr.nw fun b0 h=>?_
 refine Tr.xCellsB (hc Z hl) ?_
 (repeat' first|refine Gu ?_|(with_reducible first|refine Gn fun b h=>?_|apply Gx|apply Gy|rintro px rfl|refine fun(h:H)=>?_|intro hb)|refine Gs ?_|refine Gt ?_|exact Gz rfl|fail)
 refine Tr.xCall (ct_rPipeB ⟨0,0,1,1,List.replicate 32 0,rfl⟩) ?_; rintro _ h ⟨rfl,o⟩ <;> (refine (?_ : Tr _ _ _ _) o; (try simp only[Nr,Nl,Nat.reduceAdd,Nat.reduceMul,Int.reduceToNat]); (repeat' first|refine Gu ?_|(with_reducible first|refine Gn fun b h=>?_|rintro px rfl|refine fun(h:H)=>?_|intro hb)|refine Gs ?_|refine Gt ?_|exact Gz rfl|fail))
 refine Tr.xCellsB (hc Z hl) ?_
 (repeat' first|refine Gu ?_|(with_reducible first|refine Gn fun b h=>?_|apply Gx|apply Gy|rintro px rfl|refine fun(h:H)=>?_|intro hb)|refine Gs ?_|refine Gt ?_|exact Gz rfl|fail)
 refine Tr.ck (by rw [bs_size,bs_size,encP_len rfl,hl]; simp [most]) ?_
 rw [bs_app]
 refine Tr.xCall (ct_rFront 0) ?_; rintro _ h ⟨rfl,o⟩ <;> (refine (?_ : Tr _ _ _ _) o; (try simp only[Nr,Nl,Nat.reduceAdd,Nat.reduceMul,Int.reduceToNat]); (repeat' first|refine Gu ?_|(with_reducible first|refine Gn fun b h=>?_|rintro px rfl|refine fun(h:H)=>?_|intro hb)|refine Gs ?_|refine Gt ?_|exact Gz rfl|fail))
 refine Tr.xCellsB (hc Z hl) ?_
 (repeat' first|refine Gu ?_|(with_reducible first|refine Gn fun b h=>?_|apply Gx|apply Gy|rintro px rfl|refine fun(h:H)=>?_|intro hb)|refine Gs ?_|refine Gt ?_|exact Gz rfl|fail)
 refine Tr.ck (by rw [bs_size,bs_size,List.length_append,encP_len rfl,hl]; simp [most]) ?_
 refine Tr.some fun o=>?_
 rw [bs_app,List.append_assoc]
 exact ⟨rfl,o.sub⟩
end Go.EQ

set_option maxRecDepth 10000
namespace Go.EQ
open Go Go.NN
structure PlanS where
 bad : List Bool
 brs : List (Int × Int)
 lease : Int
structure PlA where
 ba : Option Addr
 bc : Nat
 ra : Option Addr
 rc : Nat
def brL (p : Int × Int) : List Value := [int p.1,int p.2]
theorem brL_len (p : Int × Int) : (brL p).length = 2 := rfl
abbrev planL (P : PlanS) (A : PlA) : List Value := [.slice A.ba P.bad.length A.bc,.slice A.ra P.brs.length A.rc,int P.lease]
abbrev planF (P : PlanS) (A : PlA) : List HP := [slC false Y_bool 1 A.ba P.bad.length A.bc (P.bad.map Value.bool),slC false Y_api_Bridge 2 A.ra P.brs.length A.rc (P.brs.flatMap brL)]
def bootS1 (B : BootS) (s : Int) : BootS := { B with frames := B.frames ++ [20],envs := B.envs ++ List.replicate 9 s,sects := B.sects ++ [[s]],shared := B.shared ++ [⟨s,0,0,492,[s]⟩] }
def bootSN (B : BootS) : Nat → Int → BootS
 | 0,_=>B
 | m + 1,s=>bootSN (bootS1 B s) m (s + 1)
def bootB (B : BootS) : Int → List (Int × Int) → BootS
 | _,[]=>B
 | i,x :: l=>bootB { B with shared := B.shared ++ [⟨x.1,8 + i,0,40,[x.1,x.2]⟩] } (i + 1) l
def bootOf (P : PlanS) : BootS := bootB (bootSN ⟨[],[],[],P.lease,[]⟩ P.bad.length 0) 0 P.brs
theorem rep_snoc (m : Nat) (s : Int) (E : List Int) : E ++ [s] ++ List.replicate m s = E ++ List.replicate (m + 1) s := by
 rw [List.append_assoc,List.replicate_succ]; rfl
theorem tr_Boot_L2 (pp xx bb : Nat) (s : Int) (B : BootS) (fa sa ha : Option Addr) (fc sc hc : Nat) {Q : Value → H → Prop} : ∀ (m i : Nat) (E : List Int) (ea : Option Addr) (ec : Nat) (h : H) (l : List HP),9 - i = m → i ≤ 9 → E.length + m ≤ 100000 →
  (∀ ea' ec' h',Tr (pt bb (.cells Y_api_Boot false [.slice fa B.frames.length fc,.slice ea' (E ++ List.replicate m s).length ec',.slice sa B.sects.length sc,int B.lease,.slice ha B.shared.length hc]) :: slC false Y_int 1 ea' (E ++ List.replicate m s).length ec' ((E ++ List.replicate m s).map int) :: l) h'
   (JUMP F_ref15_Boot T_ref15_Boot_L2 [(1,P0 pp),(2,P0 xx),(3,P0 bb),(4,int s),(5,int 9)] h') Q) →
  Tr (pt bb (.cells Y_api_Boot false [.slice fa B.frames.length fc,.slice ea E.length ec,.slice sa B.sects.length sc,int B.lease,.slice ha B.shared.length hc]) :: slC false Y_int 1 ea E.length ec (E.map int) :: l) h
   (JUMP F_ref15_Boot T_ref15_Boot_L2 [(1,P0 pp),(2,P0 xx),(3,P0 bb),(4,int s),(5,int i)] h) Q := by
 intro m
 induction m with
 | zero =>
  intro i E ea ec h l hm hi hE t
  obtain rfl : i = 9 := by omega
  have t0 := t ea ec h
  simp only [List.replicate_zero,List.append_nil] at t0
  exact t0
 | succ m ih =>
  intro i E ea ec h l hm hi hE t
  have e1 : IntKind.wrap .i64 ((i : Int) + 1) = ((i + 1 : Nat) : Int) := by rw [wrap_eq]; omega
  refine Tr.jmp k_ref15_Boot (Tr.eq (e_ref15_Boot_L2 ..) ?_); (try simp only[Nr,Nl,wl,Nat.reduceAdd,Nat.reduceMul,Int.reduceToNat])
  refine Tr.condT (by simp; omega) ?_
  (repeat' first|refine Gu ?_|(with_reducible first|refine Gn fun b h=>?_|apply Gx|apply Gy|rintro px rfl|refine fun(h:H)=>?_|intro hb)|refine Gs ?_|refine Gt ?_|exact Gz rfl|fail)
  refine Tr.xApd ?_ (fun a' c' h=>?_)
  ·exact ⟨by first | rfl | simp,by first | rfl | simp,by simp only [most]; omega⟩
  (try simp only[Nr,Nl,Nat.reduceAdd,Nat.reduceMul,Int.reduceToNat])
  (repeat' first|refine Gu ?_|(with_reducible first|refine Gn fun b h=>?_|apply Gx|apply Gy|rintro px rfl|refine fun(h:H)=>?_|intro hb)|refine Gs ?_|refine Gt ?_|exact Gz rfl|fail)
  (try simp only[Nr,Nl,Nat.reduceAdd,Nat.reduceMul,Int.reduceToNat])
  rw [e1]
  have ee : E.map int ++ [Value.int IntKind.i64 s] = (E ++ [s]).map int := by simp
  rw [ee,show E.length + 1 = (E ++ [s]).length by simp]
  refine tr_order [1,1] 1 rfl rfl ?_
  refine ih (i + 1) (E ++ [s]) a' c' _ l (by omega) (by omega) (by simp; omega) fun ea' ec' h'=>?_
  rw [rep_snoc]
  exact t ea' ec' h'
theorem ct_Boot_L3 (pp xx bb : Nat) (P : PlanS) (PA : PlA) (h4 : P.brs.length ≤ 100) : ∀ (m i : Nat) (B : BootS) (A : BA),P.brs.length - i = m → i ≤ P.brs.length → BaOk B A → B.shared.length ≤ 100 + i →
  CtJ JUMP F_ref15_Boot T_ref15_Boot_L3 [(1,P0 pp),(2,P0 xx),(3,P0 bb),(6,int i)]
   (pt pp (.cells Y_api_Plan false (planL P PA)) :: pt xx (.cells Y_api_Boot false [.slice none 0 0,.slice none 0 0,.slice none 0 0,int 0,.slice none 0 0]) :: pt bb (.cells Y_api_Boot false (bootL B A)) :: (bootF false B A ++ planF P PA))
   fun v own=>∃ A',BaOk (bootB B i (P.brs.drop i)) A' ∧ v = .agg ⟨bootL (bootB B i (P.brs.drop i)) A'⟩ ∧ own (bootF false (bootB B i (P.brs.drop i)) A' ++ planF P PA) := by
 intro m
 induction m with
 | zero =>
  intro i B A hm hi ok hB
  obtain ⟨fa,fc,ea,ec,sa,sc,ss,ha,hc,hs⟩ := A
  refine CtJ.of k_ref15_Boot fun h r=>Tr.eq (e_ref15_Boot_L3 ..) ?_; (try simp only[Nr,Nl,Nat.reduceAdd,Nat.reduceMul,Int.reduceToNat])
  (repeat' first|refine Gu ?_|(with_reducible first|refine Gn fun b h=>?_|apply Gx|apply Gy|rintro px rfl|refine fun(h:H)=>?_|intro hb)|refine Gs ?_|refine Gt ?_|exact Gz rfl|fail)
  refine Tr.condF (by simp; omega) ?_
  (repeat' first|refine Gu ?_|(with_reducible first|refine Gn fun b h=>?_|apply Gx|apply Gy|rintro px rfl|refine fun(h:H)=>?_|intro hb)|refine Gs ?_|refine Gt ?_|exact Gz rfl|fail)
  refine Tr.some fun o=>?_
  rw [List.drop_eq_nil_of_le (by omega),show bootB B i [] = B from rfl]
  exact ⟨⟨fa,fc,ea,ec,sa,sc,ss,ha,hc,hs⟩,ok,rfl,o.sub⟩
 | succ m ih =>
  intro i B A hm hi ok hB
  have hlt : i < P.brs.length := by omega
  have hx : P.brs[i]? = some P.brs[i] := List.getElem?_eq_getElem hlt
  have hd : P.brs.drop i = P.brs[i] :: P.brs.drop (i + 1) := List.drop_eq_getElem_cons hlt
  generalize P.brs[i] = x at hx hd
  have e1 : IntKind.wrap .i64 ((i : Int) + 1) = ((i + 1 : Nat) : Int) := by rw [wrap_eq]; omega
  have e2 : IntKind.wrap .i64 (8 + (i : Int)) = 8 + (i : Int) := by rw [wrap_eq]; omega
  obtain ⟨fa,fc,ea,ec,sa,sc,ss,ha,hc,hs⟩ := A
  obtain ⟨ba,bc,ra,rc⟩ := PA
  have oks := ok.ss; have okh := ok.hs
  simp only at oks okh
  refine CtJ.of k_ref15_Boot fun h r=>Tr.eq (e_ref15_Boot_L3 ..) ?_; (try simp only[Nr,Nl,Nat.reduceAdd,Nat.reduceMul,Int.reduceToNat])
  (repeat' first|refine Gu ?_|(with_reducible first|refine Gn fun b h=>?_|apply Gx|apply Gy|rintro px rfl|refine fun(h:H)=>?_|intro hb)|refine Gs ?_|refine Gt ?_|exact Gz rfl|fail)
  refine Tr.condT (by simp; omega) ?_
  (repeat' first|refine Gu ?_|(with_reducible first|refine Gn fun b h=>?_|apply Gx|apply Gy|rintro px rfl|refine fun(h:H)=>?_|intro hb)|refine Gs ?_|refine Gt ?_|exact Gz rfl|fail)
  rw [Int.toNat_natCast]
  refine Tr.xAggS (xs := brL x) ⟨by omega,by rw [flat_len brL_len]; omega,flat_one brL_len hx⟩ ?_
  refine Tr.nw fun b1 h=>?_
  refine Tr.ck rfl ?_
  refine Tr.xPAgg (cs' := brL x) ⟨Nat.le_of_ble_eq_true rfl,rfl,rfl⟩ fun h=>?_
  (repeat' first|refine Gu ?_|(with_reducible first|apply Gx|apply Gy|rintro px rfl|refine fun(h:H)=>?_|intro hb)|refine Gs ?_|refine Gt ?_|exact Gz rfl|fail)
  rw [e2,e1]
  refine Tr.nw fun b2 h=>?_
  refine Tr.nw fun b3 h=>?_
  (repeat' first|refine Gu ?_|(with_reducible first|refine Gn fun b h=>?_|apply Gx|apply Gy|rintro px rfl|refine fun(h:H)=>?_|intro hb)|refine Gs ?_|refine Gt ?_|exact Gz rfl|fail)
  refine Tr.xApd ?_ (fun a' c' h=>?_)
  ·exact ⟨by first | rfl | simp,by first | rfl | simp,by simp only [most]; omega⟩
  (try simp only[Nr,Nl,Nat.reduceAdd,Nat.reduceMul,Int.reduceToNat])
  (repeat' first|refine Gu ?_|(with_reducible first|refine Gn fun b h=>?_|apply Gx|apply Gy|rintro px rfl|refine fun(h:H)=>?_|intro hb)|refine Gs ?_|refine Gt ?_|exact Gz rfl|fail)
  (try simp only[Nr,Nl,Nat.reduceAdd,Nat.reduceMul,Int.reduceToNat])
  obtain ⟨Z,hZ⟩ : ∃ Z : ShareS,Z = ⟨x.1,8 + (i : Int),0,40,[x.1,x.2]⟩ := ⟨_,rfl⟩
  have en : B.shared.length + 1 = (B.shared ++ [Z]).length := by simp
  have ez : (hs.zip B.shared).flatMap shareL ++ [Value.int IntKind.i64 x.1,Value.int IntKind.i64 (8 + (i : Int)),Value.int IntKind.i64 0,Value.int IntKind.i64 40,.slice (some ⟨b2,0,none⟩) 2 2] = ((hs ++ [((some ⟨b2,0,none⟩ : Option Addr),2)]).zip (B.shared ++ [Z])).flatMap shareL := by
   rw [List.zip_append okh,hZ]; simp [shareL]
  rw [ez,en]
  refine tr_asSl 1 rfl 1 2 rfl (by omega) ?_
  (try simp only[Nr,Nl,Nat.reduceAdd,Nat.reduceMul,Int.reduceToNat])
  refine tr_as (slC false Y_int 1 (some ⟨b2,0,none⟩) 2 2 [int x.1,int x.2]) (toC false (some ⟨b2,0,none⟩,2) Z) (by rw [hZ]; rfl) ?_
  refine tr_snoc2 (toC false) hs B.shared (some ⟨b2,0,none⟩,2) Z okh ?_
  have eb : bootB B i (P.brs.drop i) = bootB { B with shared := B.shared ++ [Z] } ((i + 1 : Nat) : Int) (P.brs.drop (i + 1)) := by rw [hd,hZ]; rfl
  rw [eb]
  refine tr_order [3,3,3,3,3,3,3,3,0,2,2] 2 rfl rfl ?_
  refine Tr.xRun (ih (i + 1) { B with shared := B.shared ++ [Z] } ⟨fa,fc,ea,ec,sa,sc,ss,a',c',hs ++ [((some ⟨b2,0,none⟩ : Option Addr),2)]⟩ (by omega) (by omega) ⟨oks,by simp [okh]⟩ (by simp; omega)) ?_
  rintro _ h ⟨A',ok',rfl,o⟩
  exact ⟨A',ok',rfl,o⟩
theorem ct_Boot_L1 (pp xx bb : Nat) (P : PlanS) (PA : PlA) (h4 : P.brs.length ≤ 100) (hb4 : P.bad.length ≤ 100) : ∀ (m i : Nat) (B : BootS) (A : BA),P.bad.length - i = m → i ≤ P.bad.length → BaOk B A → B.shared.length = i → B.envs.length = 9 * i → B.frames.length = i → B.sects.length = i →
  CtJ JUMP F_ref15_Boot T_ref15_Boot_L1 [(1,P0 pp),(2,P0 xx),(3,P0 bb),(4,int i)]
   (pt pp (.cells Y_api_Plan false (planL P PA)) :: pt xx (.cells Y_api_Boot false [.slice none 0 0,.slice none 0 0,.slice none 0 0,int 0,.slice none 0 0]) :: pt bb (.cells Y_api_Boot false (bootL B A)) :: (bootF false B A ++ planF P PA))
   fun v own=>∃ A',BaOk (bootB (bootSN B m i) 0 P.brs) A' ∧ v = .agg ⟨bootL (bootB (bootSN B m i) 0 P.brs) A'⟩ ∧ own (bootF false (bootB (bootSN B m i) 0 P.brs) A' ++ planF P PA) := by
 intro m
 induction m with
 | zero =>
  intro i B A hm hi ok h1 h2 h3 h5
  refine CtJ.of k_ref15_Boot fun h r=>Tr.eq (e_ref15_Boot_L1 ..) ?_; (try simp only[Nr,Nl,Nat.reduceAdd,Nat.reduceMul,Int.reduceToNat])
  (repeat' first|refine Gu ?_|(with_reducible first|refine Gn fun b h=>?_|apply Gx|apply Gy|rintro px rfl|refine fun(h:H)=>?_|intro hb)|refine Gs ?_|refine Gt ?_|exact Gz rfl|fail)
  refine Tr.condF (by simp; omega) ?_
  refine Tr.xRun (ct_Boot_L3 pp xx bb P PA h4 _ 0 B A rfl (by omega) ok (by omega)) ?_
  rintro _ h ⟨A',ok',rfl,o⟩
  exact ⟨A',ok',rfl,o⟩
 | succ m ih =>
  intro i B A hm hi ok h1 h2 h3 h5
  have e1 : IntKind.wrap .i64 ((i : Int) + 1) = ((i + 1 : Nat) : Int) := by rw [wrap_eq]; omega
  obtain ⟨fa,fc,ea,ec,sa,sc,ss,ha,hc,hs⟩ := A
  obtain ⟨ba,bc,ra,rc⟩ := PA
  have oks := ok.ss; have okh := ok.hs
  simp only at oks okh
  refine CtJ.of k_ref15_Boot fun h r=>Tr.eq (e_ref15_Boot_L1 ..) ?_; (try simp only[Nr,Nl,Nat.reduceAdd,Nat.reduceMul,Int.reduceToNat])
  (repeat' first|refine Gu ?_|(with_reducible first|refine Gn fun b h=>?_|apply Gx|apply Gy|rintro px rfl|refine fun(h:H)=>?_|intro hb)|refine Gs ?_|refine Gt ?_|exact Gz rfl|fail)
  refine Tr.condT (by simp; omega) ?_
  (repeat' first|refine Gu ?_|(with_reducible first|refine Gn fun b h=>?_|apply Gx|apply Gy|rintro px rfl|refine fun(h:H)=>?_|intro hb)|refine Gs ?_|refine Gt ?_|exact Gz rfl|fail)
  refine Tr.xApd ?_ (fun f1 f2 h=>?_)
  ·exact ⟨by first | rfl | simp,by first | rfl | simp,by simp only [most]; omega⟩
  (try simp only[Nr,Nl,Nat.reduceAdd,Nat.reduceMul,Int.reduceToNat])
  (repeat' first|refine Gu ?_|(with_reducible first|refine Gn fun b h=>?_|apply Gx|apply Gy|rintro px rfl|refine fun(h:H)=>?_|intro hb)|refine Gs ?_|refine Gt ?_|exact Gz rfl|fail)
  (try simp only[Nr,Nl,Nat.reduceAdd,Nat.reduceMul,Int.reduceToNat])
  rw [show B.frames.map int ++ [Value.int IntKind.i64 20] = (B.frames ++ [20]).map int by simp,show B.frames.length + 1 = (B.frames ++ [20]).length by simp]
  refine tr_order [3,4] 0 rfl rfl ?_
  (try simp only[Nr,Nl,Nat.reduceAdd,Nat.reduceMul,Int.reduceToNat])
  refine tr_Boot_L2 pp xx bb i { B with frames := B.frames ++ [20] } f1 sa ha f2 sc hc 9 0 B.envs ea ec _ _ rfl (by omega) (by omega) fun ea' ec' h'=>?_
  refine Tr.jmp k_ref15_Boot (Tr.eq (e_ref15_Boot_L2 ..) ?_); (try simp only[Nr,Nl,wl,Nat.reduceAdd,Nat.reduceMul,Int.reduceToNat])
  refine Tr.condF rfl ?_
  (repeat' first|refine Gu ?_|(with_reducible first|apply Gx|apply Gy|rintro px rfl|refine fun(h:H)=>?_|intro hb)|refine Gs ?_|refine Gt ?_|exact Gz rfl|fail)
  refine Tr.nw fun b2 h=>?_
  refine Tr.nw fun b3 h=>?_
  (repeat' first|refine Gu ?_|(with_reducible first|refine Gn fun b h=>?_|apply Gx|apply Gy|rintro px rfl|refine fun(h:H)=>?_|intro hb)|refine Gs ?_|refine Gt ?_|exact Gz rfl|fail)
  refine Tr.xApd ?_ (fun s1 s2 h=>?_)
  ·exact ⟨by first | rfl | simp,by first | rfl | simp,by simp only [most]; omega⟩
  (try simp only[Nr,Nl,Nat.reduceAdd,Nat.reduceMul,Int.reduceToNat])
  (repeat' first|refine Gu ?_|(with_reducible first|apply Gx|apply Gy|rintro px rfl|refine fun(h:H)=>?_|intro hb)|refine Gs ?_|refine Gt ?_|exact Gz rfl|fail)
  (try simp only[Nr,Nl,Nat.reduceAdd,Nat.reduceMul,Int.reduceToNat])
  refine Tr.nw fun b4 h=>?_
  refine Tr.nw fun b5 h=>?_
  (repeat' first|refine Gu ?_|(with_reducible first|refine Gn fun b h=>?_|apply Gx|apply Gy|rintro px rfl|refine fun(h:H)=>?_|intro hb)|refine Gs ?_|refine Gt ?_|exact Gz rfl|fail)
  refine Tr.xApd ?_ (fun z1 z2 h=>?_)
  ·exact ⟨by first | rfl | simp,by first | rfl | simp,by simp only [most]; omega⟩
  (try simp only[Nr,Nl,Nat.reduceAdd,Nat.reduceMul,Int.reduceToNat])
  (repeat' first|refine Gu ?_|(with_reducible first|refine Gn fun b h=>?_|apply Gx|apply Gy|rintro px rfl|refine fun(h:H)=>?_|intro hb)|refine Gs ?_|refine Gt ?_|exact Gz rfl|fail)
  (try simp only[Nr,Nl,Nat.reduceAdd,Nat.reduceMul,Int.reduceToNat])
  rw [e1]
  obtain ⟨Z,hZ⟩ : ∃ Z : ShareS,Z = ⟨i,0,0,492,[(i : Int)]⟩ := ⟨_,rfl⟩
  have en : B.shared.length + 1 = (B.shared ++ [Z]).length := by simp
  have ez : (hs.zip B.shared).flatMap shareL ++ [Value.int IntKind.i64 (i : Int),Value.int IntKind.i64 0,Value.int IntKind.i64 0,Value.int IntKind.i64 492,.slice (some ⟨b4,0,none⟩) 1 1] = ((hs ++ [((some ⟨b4,0,none⟩ : Option Addr),1)]).zip (B.shared ++ [Z])).flatMap shareL := by
   rw [List.zip_append okh,hZ]; simp [shareL]
  have es : B.sects.length + 1 = (B.sects ++ [[(i : Int)]]).length := by simp
  have ev : intsV ss B.sects ++ [Value.slice (some ⟨b2,0,none⟩) 1 1] = intsV (ss ++ [((some ⟨b2,0,none⟩ : Option Addr),1)]) (B.sects ++ [[(i : Int)]]) := (slsV_app (some ⟨b2,0,none⟩,1) [(i : Int)] oks).symm
  rw [ez,en,ev,es]
  refine tr_asSl 1 rfl 1 1 rfl (by omega) ?_
  (try simp only[Nr,Nl,Nat.reduceAdd,Nat.reduceMul,Int.reduceToNat])
  refine tr_asSl 3 rfl 1 1 rfl (by omega) ?_
  (try simp only[Nr,Nl,Nat.reduceAdd,Nat.reduceMul,Int.reduceToNat])
  refine tr_as (slC false Y_int 1 (some ⟨b4,0,none⟩) 1 1 [int i]) (toC false (some ⟨b4,0,none⟩,1) Z) (by rw [hZ]; rfl) ?_
  refine tr_snoc2 (toC false) hs B.shared (some ⟨b4,0,none⟩,1) Z okh ?_
  refine tr_as (slC false Y_int 1 (some ⟨b2,0,none⟩) 1 1 [int i]) (rsC false (some ⟨b2,0,none⟩,1) [(i : Int)]) rfl ?_
  refine tr_snoc2 (rsC false) ss B.sects (some ⟨b2,0,none⟩,1) [(i : Int)] oks ?_
  refine tr_order [7,7,4,6,4,5,0,4,0,3,3] 3 rfl rfl ?_
  have eb : bootSN B (m + 1) i = bootSN { B with frames := B.frames ++ [20],envs := B.envs ++ List.replicate 9 (i : Int),sects := B.sects ++ [[(i : Int)]],shared := B.shared ++ [Z] } m ((i + 1 : Nat) : Int) := by rw [hZ]; rfl
  rw [eb]
  refine Tr.xRun (ih (i + 1) { B with frames := B.frames ++ [20],envs := B.envs ++ List.replicate 9 (i : Int),sects := B.sects ++ [[(i : Int)]],shared := B.shared ++ [Z] }
   ⟨f1,f2,ea',ec',s1,s2,ss ++ [((some ⟨b2,0,none⟩ : Option Addr),1)],z1,z2,hs ++ [((some ⟨b4,0,none⟩ : Option Addr),1)]⟩ (by omega) (by omega) ⟨by simp [oks],by simp [okh]⟩ (by simp; omega) (by simp; omega) (by simp; omega) (by simp; omega)) ?_
  rintro _ h ⟨A',ok',rfl,o⟩
  exact ⟨A',ok',rfl,o⟩
theorem ct_Boot (P : PlanS) (PA : PlA) (h4 : P.brs.length ≤ 100) (hb4 : P.bad.length ≤ 100) : Ct CALL F_ref15_Boot [.agg ⟨planL P PA⟩] (planF P PA) fun v own =>
  ∃ A,BaOk (bootOf P) A ∧ v = .agg ⟨bootL (bootOf P) A⟩ ∧ own (bootF false (bootOf P) A ++ planF P PA) := by
 refine Ct.of k_ref15_Boot rfl fun h r=>Tr.eq (e_ref15_Boot ..) ?_; (try simp only[Nr,Nl,Nat.reduceAdd,Nat.reduceMul,Int.reduceToNat])
 refine Tr.nw fun pp h=>?_
 refine Tr.nw fun xx h=>?_
 (repeat' first|refine Gu ?_|(with_reducible first|apply Gx|apply Gy|rintro px rfl|refine fun(h:H)=>?_|intro hb)|refine Gs ?_|refine Gt ?_|exact Gz rfl|fail)
 refine Tr.nw fun bb h=>?_
 (repeat' first|refine Gu ?_|(with_reducible first|refine Gn fun b h=>?_|apply Gx|apply Gy|rintro px rfl|refine fun(h:H)=>?_|intro hb)|refine Gs ?_|refine Gt ?_|exact Gz rfl|fail)
 refine tr_nilSl false Y_int 1 (by omega) ?_
 refine tr_nilSl false Y_int 1 (by omega) ?_
 refine tr_nilSl false Y_s_int 1 (by omega) ?_
 refine tr_nil2 (rsC false) ?_
 refine tr_nilSl false Y_api_Share 5 (by omega) ?_
 refine tr_nil2 (toC false) ?_
 refine tr_runI (ct_Boot_L1 pp xx bb P PA h4 hb4 _ 0 ⟨[],[],[],P.lease,[]⟩ ⟨none,0,none,0,none,0,[],none,0,[]⟩ rfl (by omega) ⟨rfl,rfl⟩ rfl rfl rfl rfl) [8,7,6,5,4,3,2,1,0,0,0] rfl ?_
 rintro _ h ⟨A',ok',rfl,o⟩
 exact ⟨A',ok',rfl,o⟩
end Go.EQ

set_option maxRecDepth 10000
namespace Go.EQ
open Go Go.NN
structure RSe where
 lease : Int
 who : Int
 stamp : Int
 since : Int
 last : Int
 first : Int
 held : Bool
 now : Int
 queue : List Int
abbrev rseF (t : Nat) (T : RSe) (x : Option Addr × Nat) : List HP := [pt t (.cells Y_ref1_Sect false [int T.lease,int T.who,int T.stamp,int T.since,int T.last,int T.first,.bool T.held,int T.now,.slice x.1 T.queue.length x.2]),slC false Y_int 1 x.1 T.queue.length x.2 (T.queue.map int)]
def rseC (t : Nat) (T : RSe) : HP := hex fun x=>sl (rseF t T x)
instance {t : Nat} {T : RSe} : Chk (rseC t T) (rseF t T) := ⟨rfl⟩
def rse0 (lease : Int) : RSe := ⟨min (max lease 1) 1000,0,0,0,0,0,false,0,[]⟩
theorem ct_rNewSect (lease : Int) : Ct CALL F_ref1_NewSect [int lease] [] fun v own=>∃ t,v = P0 t ∧ own [rseC t (rse0 lease)] := by
 refine Ct.of k_ref1_NewSect rfl fun h r=>Tr.eq (e_ref1_NewSect ..) ?_; (try simp only[Nr,Nl,Nat.reduceAdd,Nat.reduceMul,Int.reduceToNat])
 rw [mm2_max,mm2_min]
 refine Tr.nw fun t h=>?_
 refine tr_nilSl false Y_int 1 (by omega) ?_
 refine tr_foldI (rseC t (rse0 lease)) (none,0) [1,0] rfl ?_; (try simp only[Nr,Nl,Nat.reduceAdd,Nat.reduceMul,Int.reduceToNat])
 refine Tr.some fun o=>?_
 exact ⟨t,rfl,o.sub⟩
theorem ct_rIn_L1 (p : HP) (a : Option Addr) (ro : Bool) (c : Nat) (l : List Int) (s : Int) [ks : IsSl p a ro Y_int 1 l.length c (l.map int)] (hl : l.length ≤ most) : ∀ (m i : Nat),l.length - i = m → i ≤ l.length →
  CtPJ JUMP F_ref1_in T_ref1_in_L1 [(0,.slice a l.length c),(1,int s),(5,int i)] [p] (.bool (decide (s ∈ l.drop i))) := by
 intro m
 induction m with
 | zero =>
  intro i hm hi
  refine CtPJ.of k_ref1_in fun h r=>Tr.eq (e_ref1_in_L1 ..) ?_; (try simp only[Nr,Nl,Nat.reduceAdd,Nat.reduceMul,Int.reduceToNat])
  refine Tr.condF (by simp; omega) ?_
  refine Tr.some fun o=>?_
  rw [List.drop_eq_nil_of_le (by omega)]; exact ⟨by simp,rfl⟩
 | succ m ih =>
  intro i hm hi
  have hlt : i < l.length := by omega
  have hp : l[i]? = some l[i] := List.getElem?_eq_getElem hlt
  have hd : l.drop i = l[i] :: l.drop (i + 1) := List.drop_eq_getElem_cons hlt
  generalize l[i] = x at hp hd
  have e1 : IntKind.wrap .i64 ((i : Int) + 1) = ((i + 1 : Nat) : Int) := by rw [wrap_eq]; simp only [most] at hl; omega
  refine CtPJ.of k_ref1_in fun h r=>Tr.eq (e_ref1_in_L1 ..) ?_; (try simp only[Nr,Nl,Nat.reduceAdd,Nat.reduceMul,Int.reduceToNat])
  refine Tr.condT (by simp; omega) ?_
  (repeat' first|refine Gu ?_|(with_reducible first|refine Gn fun b h=>?_|apply Gx|apply Gy|rintro px rfl|refine fun(h:H)=>?_|intro hb)|refine Gs ?_|refine Gt ?_|exact Gz rfl|fail)
  rw [Int.toNat_natCast]
  refine Tr.xIntS (v := x) (map_get hp) ?_
  rw [hd]
  by_cases hx : x = s
  ·refine Tr.condT (by simpa using hx) ?_
   refine Tr.some fun o=>?_
   exact ⟨by simp [hx],rfl⟩
  ·refine Tr.condF (by simpa using hx) ?_
   rw [e1]
   refine tr_prunO (ih (i + 1) (by omega) (by omega)) (r := r) (by simp) fun o=>⟨?_,rfl⟩
   have : ¬ s = x := fun e=>hx e.symm
   simp [this]
theorem ct_rIn (p : HP) (a : Option Addr) (ro : Bool) (c : Nat) (l : List Int) (s : Int) [ks : IsSl p a ro Y_int 1 l.length c (l.map int)] (hl : l.length ≤ most) : CtP CALL F_ref1_in [.slice a l.length c,int s] [p] (.bool (decide (s ∈ l))) := by
 refine CtP.of k_ref1_in rfl fun h r=>Tr.eq (e_ref1_in ..) ?_; (try simp only[Nr,Nl,Nat.reduceAdd,Nat.reduceMul,Int.reduceToNat])
 have J := ct_rIn_L1 p a ro c l s hl _ 0 rfl (by omega)
 rw [List.drop_zero] at J
 exact tr_prunO J (r := r) (by simp) fun o=>⟨rfl,rfl⟩
structure RKS where
 B : BootS
 Q : List (List Bool)
 R : RgS
 T : List RSe
 now : Int
structure RKA where
 A : BA
 q : Nat
 g : Nat
 ta : Option Addr
 tc : Nat
 ts : List Nat
abbrev rkL (K : RKS) (x : RKA) : List Value := [.slice x.A.fa K.B.frames.length x.A.fc,.slice x.A.ea K.B.envs.length x.A.ec,.slice x.A.sa K.B.sects.length x.A.sc,int K.B.lease,.slice x.A.ha K.B.shared.length x.A.hc,P0 x.q,P0 x.g,.slice x.ta K.T.length x.tc,int K.now]
abbrev rkF (w : Nat) (K : RKS) (x : RKA) : List HP :=
 [pt w (.cells Y_ref1_Kern false (rkL K x)),slC false Y_int 1 x.A.fa K.B.frames.length x.A.fc (K.B.frames.map int),slC false Y_int 1 x.A.ea K.B.envs.length x.A.ec (K.B.envs.map int),slC false Y_s_int 1 x.A.sa K.B.sects.length x.A.sc (intsV x.A.ss K.B.sects),all2 (rsC false) x.A.ss K.B.sects,
   slC false Y_api_Share 5 x.A.ha K.B.shared.length x.A.hc ((List.zip x.A.hs K.B.shared).flatMap shareL),all2 (toC false) x.A.hs K.B.shared,
   qtC x.q K.Q,rgC x.g K.R,slC false Y_p_ref1_Sect 1 x.ta K.T.length x.tc (x.ts.map P0),all2 rseC x.ts K.T,pu (BaOk K.B x.A ∧ x.ts.length = K.T.length)]
def rkC (w : Nat) (K : RKS) : HP := hex fun x=>sl (rkF w K x)
instance {w : Nat} {K : RKS} : Chk (rkC w K) (rkF w K) := ⟨rfl⟩
def rPutFrom (obj n : Int) (to : List Int) : Nat → List Int → List NmL × List (List CapS) → List NmL × List (List CapS)
 | _,[],s=>s
 | j,e :: l,s=>rPutFrom obj n to (j + 1) l (if e ∈ to then (spcPut s.1 s.2 j ⟨obj,3,0,n,0,0⟩).2 else s)
def rShare (K : RKS) (x : ShareS) : RKS :=
 let a := rAdd K.R (64 * ((qtFirst K.Q x.session.toNat : Int) + x.frame) + x.lo) x.n
 let s := rPutFrom a.1.1 x.n x.to 0 K.B.envs (a.2.N,a.2.C)
 { K with R := { a.2 with N := s.1,C := s.2 } }
structure RKOk (K : RKS) : Prop where
 R : RgOkS K.R
 nm : K.R.N.length = K.B.envs.length
 q : K.Q.length ≤ 4
 qe : ∀ x ∈ K.Q,x.length ≤ 64
theorem rAdd_ok {R : RgS} (k : RgOkS R) (lo n : Int) : RgOkS (rAdd R lo n).2 ∧ (rAdd R lo n).2.N = R.N ∧ (rAdd R lo n).2.C = R.C ∧ (rAdd R lo n).2.M = R.M := by
 unfold rAdd
 split
 ·rename_i hw
  split
  ·exact ⟨k,rfl,rfl,rfl⟩
  ·refine ⟨⟨k.sp,by simp [k.eq],by simp; omega,k.mem,fun i l z h1 h2=>?_⟩,rfl,rfl,rfl⟩
   simp only at h1 h2 ⊢
   by_cases hi : i < R.lo.length
   ·rw [List.getElem?_append_left hi] at h1
    rw [List.getElem?_append_left (by rw [k.eq]; exact hi)] at h2
    exact k.each i l z h1 h2
   ·rw [List.getElem?_append_right (by omega)] at h1
    rw [List.getElem?_append_right (by rw [k.eq]; omega)] at h2
    have e1 : i = R.lo.length := by
     have := (List.getElem?_eq_some_iff.1 h1).1
     simp at this; omega
    subst e1
    simp at h1; rw [k.eq] at h2; simp at h2
    subst h1 h2
    have hm := k.mem
    unfold within at hw
    simp only [Bool.and_eq_true,decide_eq_true_eq,wrap_eq] at hw
    omega
 ·exact ⟨k,rfl,rfl,rfl⟩
theorem rPutFrom_ok (obj n : Int) (to : List Int) : ∀ (l : List Int) (j : Nat) (s : List NmL × List (List CapS)),SpOk s.1 s.2 → j + l.length ≤ s.1.length → SpOk (rPutFrom obj n to j l s).1 (rPutFrom obj n to j l s).2 ∧ (rPutFrom obj n to j l s).1.length = s.1.length
 | [],j,s,k,h=>⟨k,rfl⟩
 | e :: l,j,s,k,h=>by
  unfold rPutFrom
  simp only [List.length_cons] at h
  split
  ·have hs := spcPut_ok k j (by omega) ⟨obj,3,0,n,0,0⟩
   have := rPutFrom_ok obj n to l (j + 1) _ hs.1 (by rw [hs.2]; omega)
   exact ⟨this.1,this.2.trans hs.2⟩
  ·exact rPutFrom_ok obj n to l (j + 1) s k (by omega)
theorem rShare_ok {K : RKS} (k : RKOk K) (x : ShareS) : RKOk (rShare K x) := by
 have ha := rAdd_ok k.R (64 * ((qtFirst K.Q x.session.toNat : Int) + x.frame) + x.lo) x.n
 unfold rShare
 generalize rAdd K.R (64 * ((qtFirst K.Q x.session.toNat : Int) + x.frame) + x.lo) x.n = a at ha
 obtain ⟨a1,R'⟩ := a
 obtain ⟨ha1,ha2,_,_⟩ := ha
 simp only at ha1 ha2 ⊢
 have hl : R'.N.length = K.B.envs.length := by rw [ha2]; exact k.nm
 have hs := rPutFrom_ok a1.1 x.n x.to K.B.envs 0 (R'.N,R'.C) ha1.sp (by simp only; omega)
 exact ⟨⟨hs.1,ha1.eq,ha1.few,ha1.mem,ha1.each⟩,hs.2.trans hl,k.q,k.qe⟩
theorem ct_rNewKern_L3 (w b i : Nat) (K : RKS) (x : RKA) (Z : ShareS) (y : Option Addr × Nat) (bx : Nat) (obj : Int) (hZ : K.B.shared[i]? = some Z) (hy : x.A.hs[i]? = some y) (hto : Z.to.length ≤ most) (h40 : K.B.envs.length ≤ 40) (hx : BaOk K.B x.A ∧ x.ts.length = K.T.length)
  (Rq : RKS → Value → (List HP → Prop) → Prop)
  (next : ∀ K' : RKS,RKOk K' → K'.B = K.B → K'.Q = K.Q → K'.T = K.T → CtJ JUMP F_ref1_NewKern T_ref1_NewKern_L2 [(1,P0 b),(3,P0 w),(5,int (IntKind.wrap .i64 ((i : Int) + 1)))] (pt b (.cells Y_api_Boot false (bootL K.B x.A)) :: rkF w K' x) (Rq K')) :
  ∀ (m j : Nat) (K' : RKS),RKOk K' → K'.B = K.B → K'.Q = K.Q → K'.T = K.T → K.B.envs.length - j = m → j ≤ K.B.envs.length →
  CtJ JUMP F_ref1_NewKern T_ref1_NewKern_L3 [(1,P0 b),(3,P0 w),(5,int i),(6,P0 bx),(7,int obj),(9,int j)] (pt bx (.cells Y_api_Share false (shareL (y,Z))) :: pt b (.cells Y_api_Boot false (bootL K.B x.A)) :: rkF w K' x)
   (Rq { K' with R := { K'.R with N := (rPutFrom obj Z.n Z.to j (K.B.envs.drop j) (K'.R.N,K'.R.C)).1,C := (rPutFrom obj Z.n Z.to j (K.B.envs.drop j) (K'.R.N,K'.R.C)).2 } }) := by
 intro m
 induction m with
 | zero =>
  intro j K' ok hB hQ hT hm hj
  obtain ⟨⟨fa,fc,ea,ec,sa,sc,ss,ha,hc,hs⟩,q,g,ta,tc,ts⟩ := x
  obtain ⟨KB,KQ,KR,KT,Kn⟩ := K'
  simp only at hB hQ hT
  subst hB hQ hT
  refine CtJ.of k_ref1_NewKern fun h r=>Tr.eq (e_ref1_NewKern_L3 ..) ?_; (try simp only[Nr,Nl,Nat.reduceAdd,Nat.reduceMul,Int.reduceToNat])
  (repeat' first|refine Gu ?_|(with_reducible first|refine Gn fun b h=>?_|apply Gx|apply Gy|rintro px rfl|refine fun(h:H)=>?_|intro hb)|refine Gs ?_|refine Gt ?_|exact Gz rfl|fail)
  refine Tr.condF (by simp; omega) ?_
  rw [List.drop_eq_nil_of_le (by omega)]
  intro o
  refine (?_ : Tr _ _ _ _) o.tail
  refine Tr.xRun (next ⟨K.B,K.Q,KR,K.T,Kn⟩ ok rfl rfl rfl) ?_
  intro v h q
  exact q
 | succ m ih =>
  intro j K' ok hB hQ hT hm hj
  have hlt : j < K.B.envs.length := by omega
  have hp : K.B.envs[j]? = some K.B.envs[j] := List.getElem?_eq_getElem hlt
  have hd : K.B.envs.drop j = K.B.envs[j] :: K.B.envs.drop (j + 1) := List.drop_eq_getElem_cons hlt
  generalize K.B.envs[j] = e at hp hd
  have e1 : IntKind.wrap .i64 ((j : Int) + 1) = ((j + 1 : Nat) : Int) := by rw [wrap_eq]; omega
  obtain ⟨⟨fa,fc,ea,ec,sa,sc,ss,ha,hc,hs⟩,q,g,ta,tc,ts⟩ := x
  obtain ⟨KB,KQ,KR,KT,Kn⟩ := K'
  simp only at hB hQ hT
  subst hB hQ hT
  have okR := ok.R
  have hnm := ok.nm
  simp only at hnm okR
  refine CtJ.of k_ref1_NewKern fun h r=>Tr.eq (e_ref1_NewKern_L3 ..) ?_; (try simp only[Nr,Nl,Nat.reduceAdd,Nat.reduceMul,Int.reduceToNat])
  (repeat' first|refine Gu ?_|(with_reducible first|refine Gn fun b h=>?_|apply Gx|apply Gy|rintro px rfl|refine fun(h:H)=>?_|intro hb)|refine Gs ?_|refine Gt ?_|exact Gz rfl|fail)
  refine Tr.condT (by simp; omega) ?_
  (repeat' first|refine Gu ?_|(with_reducible first|refine Gn fun b h=>?_|apply Gx|apply Gy|rintro px rfl|refine fun(h:H)=>?_|intro hb)|refine Gs ?_|refine Gt ?_|exact Gz rfl|fail)
  rw [Int.toNat_natCast]
  refine Tr.xIntS (v := e) (map_get hp) ?_
  refine tr_at2 (toC false) hs K.B.shared hy hZ ?_
  obtain ⟨ya,yc⟩ := y
  refine Tr.pcall (ct_rIn (toC false (ya,yc) Z) ya false yc Z.to e hto) ?_; (try simp only[Nr,Nl,Nat.reduceAdd,Nat.reduceMul,Int.reduceToNat]); (repeat' first|refine Gu ?_|(with_reducible first|refine Gn fun b h=>?_|apply Gx|apply Gy|rintro px rfl|refine fun(h:H)=>?_|intro hb)|refine Gs ?_|refine Gt ?_|exact Gz rfl|fail)
  refine tr_back2 (toC false) hs K.B.shared i hy hZ ?_
  rw [hd,e1]
  by_cases he : e ∈ Z.to
  ·refine Tr.condT (by simpa using he) ?_
   have er : rPutFrom obj Z.n Z.to j (e :: K.B.envs.drop (j + 1)) (KR.N,KR.C) = rPutFrom obj Z.n Z.to (j + 1) (K.B.envs.drop (j + 1)) (spcPut KR.N KR.C j ⟨obj,3,0,Z.n,0,0⟩).2 := by
    show rPutFrom obj Z.n Z.to (j + 1) _ (if e ∈ Z.to then _ else _) = _
    rw [if_pos he]
   rw [er]
   have hs2 := spcPut_ok okR.sp j (by omega) ⟨obj,3,0,Z.n,0,0⟩
   refine tr_open (rgC g KR) fun ⟨gq,gla,glc,gza,gzc,gs⟩=>?_; (try simp only[Nr,Nl,Nat.reduceAdd,Nat.reduceMul,Int.reduceToNat])
   (repeat' first|refine Gu ?_|(with_reducible first|refine Gn fun b h=>?_|apply Gx|apply Gy|rintro px rfl|refine fun(h:H)=>?_|intro hb)|refine Gs ?_|refine Gt ?_|exact Gz rfl|fail)
   dsimp only
   (try simp only[Nr,Nl,Nat.reduceAdd,Nat.reduceMul,Int.reduceToNat])
   (repeat' first|refine Gu ?_|(with_reducible first|refine Gn fun b h=>?_|apply Gx|apply Gy|rintro px rfl|refine fun(h:H)=>?_|intro hb)|refine Gs ?_|refine Gt ?_|exact Gz rfl|fail)
   refine Tr.xCall (ct_spcPut gs KR.N KR.C okR.sp j (by omega) ⟨obj,3,0,Z.n,0,0⟩) ?_; rintro _ h ⟨rfl,o⟩ <;> (refine (?_ : Tr _ _ _ _) o; (try simp only[Nr,Nl,Nat.reduceAdd,Nat.reduceMul,Int.reduceToNat]); (repeat' first|refine Gu ?_|(with_reducible first|refine Gn fun b h=>?_|apply Gx|apply Gy|rintro px rfl|refine fun(h:H)=>?_|intro hb)|refine Gs ?_|refine Gt ?_|exact Gz rfl|fail))
   simp only [v2]
   (repeat' first|refine Gu ?_|(with_reducible first|refine Gn fun b h=>?_|apply Gx|apply Gy|rintro px rfl|refine fun(h:H)=>?_|intro hb)|refine Gs ?_|refine Gt ?_|exact Gz rfl|fail)
   generalize hS : (spcPut KR.N KR.C j ⟨obj,3,0,Z.n,0,0⟩).2 = S2 at hs2
   obtain ⟨N2,C2⟩ := S2
   refine tr_fold (rgC g { KR with N := N2,C := C2 }) ⟨gq,gla,glc,gza,gzc,gs⟩ ?_; (try simp only[Nr,Nl,Nat.reduceAdd,Nat.reduceMul,Int.reduceToNat])
   refine Tr.xRun (ih (j + 1) ⟨K.B,K.Q,{ KR with N := N2,C := C2 },K.T,Kn⟩ ⟨⟨hs2.1,okR.eq,okR.few,okR.mem,okR.each⟩,hs2.2.trans hnm,ok.q,ok.qe⟩ rfl rfl rfl (by omega) (by omega)) ?_
   intro v h q
   exact q
  ·refine Tr.condF (by simpa using he) ?_
   have er : rPutFrom obj Z.n Z.to j (e :: K.B.envs.drop (j + 1)) (KR.N,KR.C) = rPutFrom obj Z.n Z.to (j + 1) (K.B.envs.drop (j + 1)) (KR.N,KR.C) := by
    show rPutFrom obj Z.n Z.to (j + 1) _ (if e ∈ Z.to then _ else _) = _
    rw [if_neg he]
   rw [er]
   refine Tr.xRun (ih (j + 1) ⟨K.B,K.Q,KR,K.T,Kn⟩ ok rfl rfl rfl (by omega) (by omega)) ?_
   intro v h q
   exact q
end Go.EQ

set_option maxRecDepth 10000
namespace Go.EQ
open Go Go.NN
structure RBoot (B : BootS) (Q : List (List Bool)) : Prop where
 envs : B.envs.length ≤ 40
 few : B.shared.length ≤ 100
 sects : B.sects.length ≤ 100
 to : ∀ x ∈ B.shared,x.to.length ≤ most
 ok : ∀ x ∈ B.shared,0 ≤ x.session ∧ x.session ≤ Q.length ∧ 0 ≤ x.frame ∧ x.frame ≤ 64 ∧ 0 ≤ x.lo ∧ x.lo ≤ 65536
theorem ct_rNewKern_L2 (w b : Nat) (K0 : RKS) (x : RKA) (bo : RBoot K0.B K0.Q) (hx : BaOk K0.B x.A ∧ x.ts.length = K0.T.length) : ∀ (m i : Nat) (K : RKS),RKOk K → K.B = K0.B → K.Q = K0.Q → K.T = K0.T → K0.B.shared.length - i = m → i ≤ K0.B.shared.length →
  CtJ JUMP F_ref1_NewKern T_ref1_NewKern_L2 [(1,P0 b),(3,P0 w),(5,int i)] (pt b (.cells Y_api_Boot false (bootL K0.B x.A)) :: rkF w K x) fun v own=>v = P0 w ∧ own (rkF w ((K0.B.shared.drop i).foldl rShare K) x) := by
 intro m
 induction m with
 | zero =>
  intro i K ok hB hQ hT hm hi
  obtain ⟨⟨fa,fc,ea,ec,sa,sc,ss,ha,hc,hs⟩,q,g,ta,tc,ts⟩ := x
  refine CtJ.of k_ref1_NewKern fun h r=>Tr.eq (e_ref1_NewKern_L2 ..) ?_; (try simp only[Nr,Nl,Nat.reduceAdd,Nat.reduceMul,Int.reduceToNat])
  (repeat' first|refine Gu ?_|(with_reducible first|refine Gn fun b h=>?_|apply Gx|apply Gy|rintro px rfl|refine fun(h:H)=>?_|intro hb)|refine Gs ?_|refine Gt ?_|exact Gz rfl|fail)
  refine Tr.condF (by simp; omega) ?_
  refine Tr.some fun o=>?_
  rw [List.drop_eq_nil_of_le (by omega)]
  exact ⟨rfl,o.tail⟩
 | succ m ih =>
  intro i K ok hB hQ hT hm hi
  have hlt : i < K0.B.shared.length := by omega
  have hZ : K0.B.shared[i]? = some K0.B.shared[i] := List.getElem?_eq_getElem hlt
  have hd : K0.B.shared.drop i = K0.B.shared[i] :: K0.B.shared.drop (i + 1) := List.drop_eq_getElem_cons hlt
  have hto := bo.to _ (List.getElem_mem hlt)
  have hok := bo.ok _ (List.getElem_mem hlt)
  generalize K0.B.shared[i] = Z at hZ hd hto hok
  have hf := bo.few
  have e1 : IntKind.wrap .i64 ((i : Int) + 1) = ((i + 1 : Nat) : Int) := by rw [wrap_eq]; omega
  obtain ⟨y,hy⟩ := gets hx.1.hs hZ
  obtain ⟨KB,KQ,KR,KT,Kn⟩ := K
  simp only at hB hQ hT
  subst hB hQ hT
  have ok2 := rShare_ok ok Z
  have hle : ∀ j,qtFirst K0.Q j ≤ 256 := by
   intro j
   unfold qtFirst
   have h1 : ∀ (l : List (List Bool)),(∀ x ∈ l,x.length ≤ 64) → (l.map List.length).sum ≤ 64 * l.length := by
    intro l
    induction l with
    | nil=>simp
    | cons x l ih2 =>
     intro h
     have := ih2 fun y hy=>h y (List.mem_cons_of_mem _ hy)
     have := h x (List.mem_cons_self ..)
     simp only [List.map_cons,List.sum_cons,List.length_cons]; omega
   have h2 := h1 (K0.Q.take j) fun x hx=>ok.qe x (List.mem_of_mem_take hx)
   have h3 : (K0.Q.take j).length ≤ 4 := by rw [List.length_take]; have := ok.q; simp only at this; omega
   omega
  have hq1 := hle Z.session.toNat
  have eL : IntKind.wrap .i64 (IntKind.wrap .i64 (64 * IntKind.wrap .i64 ((qtFirst K0.Q Z.session.toNat : Int) + Z.frame)) + Z.lo) = 64 * ((qtFirst K0.Q Z.session.toNat : Int) + Z.frame) + Z.lo := by rw [wrap_eq,wrap_eq,wrap_eq]; omega
  have ha := rAdd_ok ok.R (64 * ((qtFirst K0.Q Z.session.toNat : Int) + Z.frame) + Z.lo) Z.n
  have L3 := fun bx obj=>ct_rNewKern_L3 w b i ⟨K0.B,K0.Q,KR,K0.T,Kn⟩ x Z y bx obj hZ hy hto bo.envs hx (fun K v own=>v = P0 w ∧ own (rkF w ((K0.B.shared.drop (i + 1)).foldl rShare K) x))
   (fun K' okK hB hQ hT=>by rw [e1]; exact ih (i + 1) K' okK hB hQ hT (by omega) (by omega)) _ 0 ⟨K0.B,K0.Q,(rAdd KR (64 * ((qtFirst K0.Q Z.session.toNat : Int) + Z.frame) + Z.lo) Z.n).2,K0.T,Kn⟩ ⟨ha.1,by simp only; rw [ha.2.1]; exact ok.nm,ok.q,ok.qe⟩ rfl rfl rfl rfl (by omega)
  have okR := ok.R
  simp only at okR
  obtain ⟨⟨fa,fc,ea,ec,sa,sc,ss,hha,hc,hs⟩,q,g,ta,tc,ts⟩ := x
  refine CtJ.of k_ref1_NewKern fun h r=>Tr.eq (e_ref1_NewKern_L2 ..) ?_; (try simp only[Nr,Nl,Nat.reduceAdd,Nat.reduceMul,Int.reduceToNat])
  (repeat' first|refine Gu ?_|(with_reducible first|refine Gn fun b h=>?_|apply Gx|apply Gy|rintro px rfl|refine fun(h:H)=>?_|intro hb)|refine Gs ?_|refine Gt ?_|exact Gz rfl|fail)
  refine Tr.condT (by simp; omega) ?_
  (repeat' first|refine Gu ?_|(with_reducible first|refine Gn fun b h=>?_|apply Gx|apply Gy|rintro px rfl|refine fun(h:H)=>?_|intro hb)|refine Gs ?_|refine Gt ?_|exact Gz rfl|fail)
  rw [Int.toNat_natCast]
  have hz := getZip hy hZ
  refine Tr.xAggS (xs := shareL (y,Z)) ⟨by omega,by rw [flat_len shareL_len]; have := hx.1.hs; simp at this ⊢; omega,flat_one shareL_len hz⟩ ?_
  refine Tr.nw fun bx h1=>?_
  refine Tr.ck rfl ?_
  refine Tr.xPAgg (cs' := shareL (y,Z)) ⟨Nat.le_of_ble_eq_true rfl,rfl,rfl⟩ fun h=>?_
  (repeat' first|refine Gu ?_|(with_reducible first|refine Gn fun b h=>?_|apply Gx|apply Gy|rintro px rfl|refine fun(h:H)=>?_|intro hb)|refine Gs ?_|refine Gt ?_|exact Gz rfl|fail)
  have J1 := ct_qtFirst q K0.Q Z.session.toNat (by omega) ok.q ok.qe
  rw [show ((Z.session.toNat : Nat) : Int) = Z.session by omega] at J1
  refine Tr.pcall (J1) ?_; (try simp only[Nr,Nl,Nat.reduceAdd,Nat.reduceMul,Int.reduceToNat]); (repeat' first|refine Gu ?_|(with_reducible first|refine Gn fun b h=>?_|apply Gx|apply Gy|rintro px rfl|refine fun(h:H)=>?_|intro hb)|refine Gs ?_|refine Gt ?_|exact Gz rfl|fail)
  rw [eL]
  refine Tr.xCall (ct_rAdd g KR okR (64 * ((qtFirst K0.Q Z.session.toNat : Int) + Z.frame) + Z.lo) Z.n) ?_; rintro _ h ⟨rfl,o⟩ <;> (refine (?_ : Tr _ _ _ _) o; (try simp only[Nr,Nl,Nat.reduceAdd,Nat.reduceMul,Int.reduceToNat]); (repeat' first|refine Gu ?_|(with_reducible first|refine Gn fun b h=>?_|apply Gx|apply Gy|rintro px rfl|refine fun(h:H)=>?_|intro hb)|refine Gs ?_|refine Gt ?_|exact Gz rfl|fail))
  simp only [v2]
  (repeat' first|refine Gu ?_|(with_reducible first|refine Gn fun b h=>?_|apply Gx|apply Gy|rintro px rfl|refine fun(h:H)=>?_|intro hb)|refine Gs ?_|refine Gt ?_|exact Gz rfl|fail)
  rw [hd]
  refine Tr.xRun (L3 bx (rAdd KR (64 * ((qtFirst K0.Q Z.session.toNat : Int) + Z.frame) + Z.lo) Z.n).1.1) ?_
  rintro v h ⟨rfl,o⟩
  exact ⟨rfl,o⟩
theorem ct_rNewKern_L1 (w b : Nat) (B : BootS) (Q : List (List Bool)) (R : RgS) (bo : RBoot B Q) : ∀ (m i : Nat) (x : RKA) (T : List RSe),RKOk ⟨B,Q,R,T,0⟩ → (BaOk B x.A ∧ x.ts.length = T.length) → B.sects.length - i = m → i ≤ B.sects.length → T = List.replicate i (rse0 B.lease) →
  CtJ JUMP F_ref1_NewKern T_ref1_NewKern_L1 [(1,P0 b),(3,P0 w),(4,int i)] (pt b (.cells Y_api_Boot false (bootL B x.A)) :: rkF w ⟨B,Q,R,T,0⟩ x) fun v own=>v = P0 w ∧ own [rkC w (B.shared.foldl rShare ⟨B,Q,R,List.replicate B.sects.length (rse0 B.lease),0⟩)] := by
 intro m
 induction m with
 | zero =>
  intro i x T ok hx hm hi hT
  obtain rfl : i = B.sects.length := by omega
  subst hT
  have L2 := ct_rNewKern_L2 w b ⟨B,Q,R,List.replicate B.sects.length (rse0 B.lease),0⟩ x bo hx _ 0 ⟨B,Q,R,List.replicate B.sects.length (rse0 B.lease),0⟩ ok rfl rfl rfl rfl (by omega)
  obtain ⟨⟨fa,fc,ea,ec,sa,sc,ss,ha,hc,hs⟩,q,g,ta,tc,ts⟩ := x
  refine CtJ.of k_ref1_NewKern fun h r=>Tr.eq (e_ref1_NewKern_L1 ..) ?_; (try simp only[Nr,Nl,Nat.reduceAdd,Nat.reduceMul,Int.reduceToNat])
  (repeat' first|refine Gu ?_|(with_reducible first|refine Gn fun b h=>?_|apply Gx|apply Gy|rintro px rfl|refine fun(h:H)=>?_|intro hb)|refine Gs ?_|refine Gt ?_|exact Gz rfl|fail)
  refine Tr.condF (by simp) ?_
  refine Tr.xRun L2 ?_
  rintro v h ⟨rfl,o⟩
  exact ⟨rfl,Own.shut (f := rkF w (B.shared.foldl rShare ⟨B,Q,R,List.replicate B.sects.length (rse0 B.lease),0⟩)) _ o⟩
 | succ m ih =>
  intro i x T ok hx hm hi hT
  have hlt : i < B.sects.length := by omega
  have hl : T.length = i := by rw [hT]; simp
  have hs8 := bo.sects
  have e1 : IntKind.wrap .i64 ((i : Int) + 1) = ((i + 1 : Nat) : Int) := by rw [wrap_eq]; omega
  obtain ⟨⟨fa,fc,ea,ec,sa,sc,ss,ha,hc,hs⟩,q,g,ta,tc,ts⟩ := x
  have hts := hx.2
  simp only at hts
  refine CtJ.of k_ref1_NewKern fun h r=>Tr.eq (e_ref1_NewKern_L1 ..) ?_; (try simp only[Nr,Nl,Nat.reduceAdd,Nat.reduceMul,Int.reduceToNat])
  (repeat' first|refine Gu ?_|(with_reducible first|refine Gn fun b h=>?_|apply Gx|apply Gy|rintro px rfl|refine fun(h:H)=>?_|intro hb)|refine Gs ?_|refine Gt ?_|exact Gz rfl|fail)
  refine Tr.condT (by simp; omega) ?_
  (repeat' first|refine Gu ?_|(with_reducible first|refine Gn fun b h=>?_|apply Gx|apply Gy|rintro px rfl|refine fun(h:H)=>?_|intro hb)|refine Gs ?_|refine Gt ?_|exact Gz rfl|fail)
  refine Tr.xCall (ct_rNewSect B.lease) ?_; rintro _ h ⟨t,rfl,o⟩ <;> (refine (?_ : Tr _ _ _ _) o; (try simp only[Nr,Nl,Nat.reduceAdd,Nat.reduceMul,Int.reduceToNat]); (repeat' first|refine Gu ?_|(with_reducible first|refine Gn fun b h=>?_|apply Gx|apply Gy|rintro px rfl|refine fun(h:H)=>?_|intro hb)|refine Gs ?_|refine Gt ?_|exact Gz rfl|fail))
  refine Tr.xApd ?_ (fun a' c' h=>?_)
  ·exact ⟨by first | rfl | simp,by first | rfl | simp,by simp only [most]; omega⟩
  (try simp only[Nr,Nl,Nat.reduceAdd,Nat.reduceMul,Int.reduceToNat])
  (repeat' first|refine Gu ?_|(with_reducible first|refine Gn fun b h=>?_|apply Gx|apply Gy|rintro px rfl|refine fun(h:H)=>?_|intro hb)|refine Gs ?_|refine Gt ?_|exact Gz rfl|fail)
  (try simp only[Nr,Nl,Nat.reduceAdd,Nat.reduceMul,Int.reduceToNat])
  rw [e1,show T.length + 1 = (T ++ [rse0 B.lease]).length by simp,show ts.map P0 ++ [Value.pointer (some ⟨t,0,none⟩)] = (ts ++ [t]).map P0 by simp]
  refine tr_snoc2 rseC ts T t (rse0 B.lease) hts ?_
  refine tr_addpure (show BaOk B ⟨fa,fc,ea,ec,sa,sc,ss,ha,hc,hs⟩ ∧ (ts ++ [t]).length = (T ++ [rse0 B.lease]).length from ⟨hx.1,by simp [hts]⟩) ?_
  refine Tr.xRun (ih (i + 1) ⟨⟨fa,fc,ea,ec,sa,sc,ss,ha,hc,hs⟩,q,g,a',c',ts ++ [t]⟩ (T ++ [rse0 B.lease]) ⟨ok.R,ok.nm,ok.q,ok.qe⟩ ⟨hx.1,by simp [hts]⟩ (by omega) (by omega) (by rw [hT]; exact List.replicate_succ'.symm)) ?_
  rintro v h ⟨rfl,o⟩
  exact ⟨rfl,o.sub⟩
end Go.EQ

set_option maxRecDepth 10000
namespace Go.EQ
open Go Go.NN
def rBase (B : BootS) : RKS := ⟨B,qNew B.frames,⟨List.replicate (64 * qtFirst (qNew B.frames) B.frames.length) 0,[],[],List.replicate B.envs.length (List.replicate 32 (1,false)),List.replicate B.envs.length (List.replicate 32 .zero)⟩,List.replicate B.sects.length (rse0 B.lease),0⟩
def rNew (B : BootS) : RKS := B.shared.foldl rShare (rBase B)
theorem qNew_ok (l : List Int) : ∀ x ∈ qNew l,x.length ≤ 64 := by
 intro x hx
 simp only [qNew,List.mem_map] at hx
 obtain ⟨n,_,rfl⟩ := hx
 simp [framesOf]; omega
theorem qtFirst_le {L : List (List Bool)} (hb : ∀ x ∈ L,x.length ≤ 64) (j : Nat) : qtFirst L j ≤ 64 * L.length := by
 have h1 : ∀ (l : List (List Bool)),(∀ x ∈ l,x.length ≤ 64) → (l.map List.length).sum ≤ 64 * l.length := by
  intro l
  induction l with
  | nil=>simp
  | cons x l ih2 =>
   intro h
   have := ih2 fun y hy=>h y (List.mem_cons_of_mem _ hy)
   have := h x (List.mem_cons_self ..)
   simp only [List.map_cons,List.sum_cons,List.length_cons]; omega
 unfold qtFirst
 have h2 := h1 (L.take j) fun x hx=>hb x (List.mem_of_mem_take hx)
 have h3 : (L.take j).length ≤ L.length := by rw [List.length_take]; omega
 omega
theorem rBase_ok {B : BootS} (h4 : B.frames.length ≤ 4) (h40 : B.envs.length ≤ 40) (T : List RSe) : RKOk { rBase B with T := T } := by
 have hq := qtFirst_le (qNew_ok B.frames) B.frames.length
 have hl : (qNew B.frames).length = B.frames.length := by simp [qNew]
 refine ⟨⟨⟨by simpa [rBase] using h40,by simp [rBase],fun L hL=>?_,fun i L l h1 h2=>?_⟩,rfl,by simp [rBase],by simp [rBase]; omega,fun i lo n h1 h2=>by simp [rBase] at h1⟩,by simp [rBase],by simpa [rBase,qNew] using h4,qNew_ok _⟩
 ·simp only [rBase,List.mem_replicate] at hL
  rw [hL.2]
  refine ⟨by simp,fun p hp=>?_⟩
  rw [List.mem_replicate] at hp
  rw [hp.2]; simp
 ·simp only [rBase,List.getElem?_replicate] at h1 h2
  by_cases hh : i < B.envs.length
  ·rw [if_pos hh] at h1 h2
   cases h1; cases h2; simp
  ·rw [if_neg hh] at h1; cases h1
theorem foldShare_ok : ∀ (l : List ShareS) (K : RKS),RKOk K → RKOk (l.foldl rShare K) ∧ (l.foldl rShare K).B = K.B
 | [],K,k=>⟨k,rfl⟩
 | x :: l,K,k=>by
  have := foldShare_ok l (rShare K x) (rShare_ok k x)
  exact ⟨this.1,this.2⟩
theorem rNew_ok {B : BootS} (h4 : B.frames.length ≤ 4) (h40 : B.envs.length ≤ 40) : RKOk (rNew B) ∧ (rNew B).B = B :=
 foldShare_ok B.shared (rBase B) (rBase_ok h4 h40 _)
instance (priority := low) {cs : List Value} {n : Nat} [k : LenC cs n] : PartC cs 0 n cs := ⟨partN_all k.ok⟩
class OneL (cs : List Value) : Prop where
 ok : cs.all Value.oneCell = true
instance : OneL [] := ⟨rfl⟩
instance {a : Option Addr} {n c : Nat} {cs : List Value} [k : OneL cs] : OneL (.slice a n c :: cs) := ⟨k.ok⟩
instance {a : Option Addr} {cs : List Value} [k : OneL cs] : OneL (.pointer a :: cs) := ⟨k.ok⟩
instance {q : IntKind} {n : Int} {cs : List Value} [k : OneL cs] : OneL (.int q n :: cs) := ⟨k.ok⟩
instance {b : Bool} {cs : List Value} [k : OneL cs] : OneL (.bool b :: cs) := ⟨k.ok⟩
class LenO (cs : List Value) (n : outParam Nat) : Prop where
 ok : cs.length = n
instance : LenO [] 0 := ⟨rfl⟩
instance {v : Value} {cs : List Value} {n : Nat} [k : LenO cs n] : LenO (v :: cs) (n + 1) := ⟨by simp [k.ok]⟩
instance (priority := low) {cs vs : List Value} {n : Nat} [g : LenO vs n] [k : LenC cs n] [o : OneL vs] : SetsC cs 0 vs vs := ⟨setsN_all k.ok g.ok o.ok⟩
class Sm1 (v : Value) : Prop where
 ok : same1 v v = true
instance {a : Option Addr} {n c : Nat} : Sm1 (.slice a n c) := ⟨by simp [same1,sameA_refl]⟩
instance {a : Option Addr} : Sm1 (.pointer a) := ⟨by simp [same1,sameA_refl]⟩
instance {k : IntKind} {n : Int} : Sm1 (.int k n) := ⟨by simp [same1]⟩
instance {b : Bool} : Sm1 (.bool b) := ⟨by simp [same1]⟩
class SmL (cs : List Value) : Prop where
 ok : sameL cs cs = true
instance : SmL [] := ⟨rfl⟩
instance {v : Value} {cs : List Value} [a : Sm1 v] [b : SmL cs] : SmL (v :: cs) := ⟨by simp [sameL,a.ok,b.ok]⟩
instance {cs : List Value} [k : SmL cs] : SameC (.agg ⟨cs⟩) := ⟨k.ok⟩
theorem ct_rNewKern (B : BootS) (A : BA) (ka : BaOk B A) (h4 : B.frames.length ≤ 4) (bo : RBoot B (qNew B.frames)) : Ct CALL F_ref1_NewKern [.agg ⟨bootL B A⟩] (bootF false B A) fun v own=>∃ w,v = P0 w ∧ own [rkC w (rNew B)] := by
 have hq := qtFirst_le (qNew_ok B.frames) B.frames.length
 have hl : (qNew B.frames).length = B.frames.length := by simp [qNew]
 have he := bo.envs
 have e64 : IntKind.wrap .i64 (64 * (qtFirst (qNew B.frames) B.frames.length : Int)) = ((64 * qtFirst (qNew B.frames) B.frames.length : Nat) : Int) := by rw [wrap_eq]; omega
 have okb := rBase_ok h4 he []
 obtain ⟨fa,fc,ea,ec,sa,sc,ss,ha,hc,hs⟩ := A
 refine Ct.of k_ref1_NewKern rfl fun h r=>Tr.eq (e_ref1_NewKern ..) ?_; (try simp only[Nr,Nl,Nat.reduceAdd,Nat.reduceMul,Int.reduceToNat])
 refine Tr.nw fun b h=>?_
 (repeat' first|refine Gu ?_|(with_reducible first|refine Gn fun b h=>?_|apply Gx|apply Gy|rintro px rfl|refine fun(h:H)=>?_|intro hb)|refine Gs ?_|refine Gt ?_|exact Gz rfl|fail)
 refine Tr.xCall (ct_NewQuota (slC false Y_int 1 fa B.frames.length fc (B.frames.map int)) fa fc false B.frames h4) ?_; rintro _ h ⟨q,rfl,o⟩ <;> (refine (?_ : Tr _ _ _ _) o; (try simp only[Nr,Nl,Nat.reduceAdd,Nat.reduceMul,Int.reduceToNat]))
 (repeat' first|refine Gu ?_|(with_reducible first|apply Gx|apply Gy|rintro px rfl|refine fun(h:H)=>?_|intro hb)|refine Gs ?_|refine Gt ?_|exact Gz rfl|fail)
 refine Tr.nw fun w h=>?_
 (try simp only[Nr,Nl,Nat.reduceAdd,Nat.reduceMul,Int.reduceToNat])
 (repeat' first|refine Gu ?_|(with_reducible first|refine Gn fun b h=>?_|apply Gx|apply Gy|rintro px rfl|refine fun(h:H)=>?_|intro hb)|refine Gs ?_|refine Gt ?_|exact Gz rfl|fail)
 refine Tr.pcall (ct_qtFirst q (qNew B.frames) B.frames.length (by omega) (by omega) (qNew_ok _)) ?_; (try simp only[Nr,Nl,Nat.reduceAdd,Nat.reduceMul,Int.reduceToNat]); (repeat' first|refine Gu ?_|(with_reducible first|refine Gn fun b h=>?_|apply Gx|apply Gy|rintro px rfl|refine fun(h:H)=>?_|intro hb)|refine Gs ?_|refine Gt ?_|exact Gz rfl|fail)
 rw [e64]
 refine Tr.ck ⟨by omega,by omega,by simp only [most]; omega⟩ ?_
 rw [Int.toNat_natCast,bs_zero]
 refine Tr.nw fun bq h=>?_
 (repeat' first|refine Gu ?_|(with_reducible first|refine Gn fun b h=>?_|apply Gx|apply Gy|rintro px rfl|refine fun(h:H)=>?_|intro hb)|refine Gs ?_|refine Gt ?_|exact Gz rfl|fail)
 refine Tr.xCall (ct_NewSpace B.envs.length he) ?_; rintro _ h ⟨s,rfl,o⟩ <;> (refine (?_ : Tr _ _ _ _) o; (try simp only[Nr,Nl,Nat.reduceAdd,Nat.reduceMul,Int.reduceToNat]))
 (repeat' first|refine Gu ?_|(with_reducible first|apply Gx|apply Gy|rintro px rfl|refine fun(h:H)=>?_|intro hb)|refine Gs ?_|refine Gt ?_|exact Gz rfl|fail)
 refine Tr.nw fun g h=>?_
 (repeat' first|refine Gu ?_|(with_reducible first|refine Gn fun b h=>?_|apply Gx|apply Gy|rintro px rfl|refine fun(h:H)=>?_|intro hb)|refine Gs ?_|refine Gt ?_|exact Gz rfl|fail)
 refine tr_nilSl false Y_int 1 (by omega) ?_
 refine tr_nilSl false Y_int 1 (by omega) ?_
 have eN : rNew B = B.shared.foldl rShare ⟨B,qNew B.frames,⟨List.replicate (64 * qtFirst (qNew B.frames) B.frames.length) 0,[],[],List.replicate B.envs.length (List.replicate 32 (1,false)),List.replicate B.envs.length (List.replicate 32 .zero)⟩,List.replicate B.sects.length (rse0 B.lease),0⟩ := rfl
 have okb2 : RKOk ⟨B,qNew B.frames,⟨List.replicate (64 * qtFirst (qNew B.frames) B.frames.length) 0,[],[],List.replicate B.envs.length (List.replicate 32 (1,false)),List.replicate B.envs.length (List.replicate 32 .zero)⟩,[],0⟩ := okb
 rw [eN]
 obtain ⟨M,hM⟩ : ∃ M : List UInt8,M = List.replicate (64 * qtFirst (qNew B.frames) B.frames.length) 0 := ⟨_,rfl⟩
 have hl2 : 64 * qtFirst (qNew B.frames) B.frames.length = M.length := by rw [hM]; simp
 rw [← hM] at okb2 ⊢
 rw [hl2]
 refine tr_foldI (rgC g ⟨M,[],[],List.replicate B.envs.length (List.replicate 32 (1,false)),List.replicate B.envs.length (List.replicate 32 .zero)⟩) ⟨bq,none,0,none,0,s⟩ [2,3,0,0,0] rfl ?_; (try simp only[Nr,Nl,Nat.reduceAdd,Nat.reduceMul,Int.reduceToNat])
 refine tr_nilSl false Y_p_ref1_Sect 1 (by omega) ?_
 refine tr_nil2 rseC ?_
 refine tr_addpure (show BaOk B ⟨fa,fc,ea,ec,sa,sc,ss,ha,hc,hs⟩ ∧ ([] : List Nat).length = ([] : List RSe).length from ⟨ka,rfl⟩) ?_
 refine tr_runI (ct_rNewKern_L1 w b B (qNew B.frames) ⟨M,[],[],List.replicate B.envs.length (List.replicate 32 (1,false)),List.replicate B.envs.length (List.replicate 32 .zero)⟩ bo _ 0 ⟨⟨fa,fc,ea,ec,sa,sc,ss,ha,hc,hs⟩,q,g,none,0,[]⟩ [] okb2 ⟨ka,rfl⟩ rfl (by omega) rfl) [7,4,5,5,5,5,5,5,4,3,2,1,0] rfl ?_
 rintro v h ⟨rfl,o⟩
 exact ⟨w,rfl,o⟩
theorem ct_rDoW (w : Nat) (K : RKS) (k : RKOk K) (e : Nat) (he : e < K.B.envs.length) (c : CallS) (h2 : c.op = 2) (hl : c.b.length ≤ most) (p : HP) (ba : Option Addr) (bc : Nat) (ro : Bool) [ks : IsSl p ba ro Y_uint8 1 c.b.length bc (byteCells c.b)] :
  Ct CALL F_ref1_Kern_Do [P0 w,int e,.agg ⟨callL c ba bc⟩] [rkC w K,p] fun v own=>v = .tuple ⟨[int (rWrite K.R e c.cap c.at_ c.b).1,int 0,.string (bs [])]⟩ ∧ own [rkC w { K with R := (rWrite K.R e c.cap c.at_ c.b).2 },p] := by
 refine Ct.of k_ref1_Kern_Do rfl fun h r=>Tr.eq (e_ref1_Kern_Do ..) ?_; (try simp only[Nr,Nl,Nat.reduceAdd,Nat.reduceMul,Int.reduceToNat])
 refine Tr.nw fun b1 h=>?_
 refine tr_open (rkC w K) fun ⟨⟨fa,fc,ea,ec,sa,sc,ss,ha,hc,hs⟩,q,g,ta,tc,ts⟩=>?_; (try simp only[Nr,Nl,Nat.reduceAdd,Nat.reduceMul,Int.reduceToNat])
 (repeat' first|refine Gu ?_|(with_reducible first|refine Gn fun b h=>?_|apply Gx|apply Gy|rintro px rfl|refine fun(h:H)=>?_|intro hb)|refine Gs ?_|refine Gt ?_|exact Gz rfl|fail)
 refine Tr.condF (by simp; omega) ?_
 (repeat' first|refine Gu ?_|(with_reducible first|refine Gn fun b h=>?_|apply Gx|apply Gy|rintro px rfl|refine fun(h:H)=>?_|intro hb)|refine Gs ?_|refine Gt ?_|exact Gz rfl|fail)
 rw [h2]
 (repeat' first|refine Gu ?_|(with_reducible first|refine Gn fun b h=>?_|apply Gx|apply Gy|rintro px rfl|refine fun(h:H)=>?_|intro hb)|refine Gs ?_|refine Gt ?_|exact Gz rfl|((with_reducible apply Gv);·rfl)|refine Tr.condT (by rfl) ?_|refine Tr.condF (by rfl) ?_|fail)
 refine Tr.xCall (ct_rWrite g K.R k.R e c.cap c.at_ c.b) ?_; rintro _ h ⟨rfl,o⟩ <;> (refine (?_ : Tr _ _ _ _) o; (try simp only[Nr,Nl,Nat.reduceAdd,Nat.reduceMul,Int.reduceToNat]); (repeat' first|refine Gu ?_|(with_reducible first|refine Gn fun b h=>?_|apply Gx|apply Gy|rintro px rfl|refine fun(h:H)=>?_|intro hb)|refine Gs ?_|refine Gt ?_|exact Gz rfl|fail))
 refine tr_foldI (rkC w { K with R := (rWrite K.R e c.cap c.at_ c.b).2 }) ⟨⟨fa,fc,ea,ec,sa,sc,ss,ha,hc,hs⟩,q,g,ta,tc,ts⟩ [1,1,1,1,1,1,1,1,0,0,0,0] rfl ?_; (try simp only[Nr,Nl,Nat.reduceAdd,Nat.reduceMul,Int.reduceToNat])
 refine Tr.some fun o=>?_
 exact ⟨rfl,o.sub⟩
theorem rDoW_ok {K : RKS} (k : RKOk K) (e cap a : Int) (b : List UInt8) : RKOk { K with R := (rWrite K.R e cap a b).2 } := by
 refine ⟨rWrite_ok k.R e cap a b,?_,k.q,k.qe⟩
 simp only
 unfold rWrite; split
 ·exact k.nm
 ·exact k.nm
abbrev rcF (m w : Nat) (env : Int) (caps : List Int) (recs : List (Int × Int)) (x : Option Addr × Nat × Option Addr × Nat) : List HP :=
 [pt m (.cells Y_ref15_Commons false [P0 w,int env,.slice x.1 caps.length x.2.1,.slice x.2.2.1 recs.length x.2.2.2]),slC false Y_int 1 x.1 caps.length x.2.1 (caps.map int),slC false Y_api_Rec 2 x.2.2.1 recs.length x.2.2.2 (recs.flatMap brL)]
def rcC (m w : Nat) (env : Int) (caps : List Int) (recs : List (Int × Int)) : HP := hex fun x=>sl (rcF m w env caps recs x)
instance {m w : Nat} {env : Int} {caps : List Int} {recs : List (Int × Int)} : Chk (rcC m w env caps recs) (rcF m w env caps recs) := ⟨rfl⟩
def rCaps (K : RKS) (e : Nat) : List Int := nmAll 0 (K.R.N.getD e [])
theorem ct_rNewCommons (w : Nat) (K : RKS) (k : RKOk K) (e : Nat) (he : e < K.B.envs.length) : Ct CALL F_ref15_NewCommons [P0 w,int e] [rkC w K] fun v own =>
  (rCaps K e ≠ [] ∧ ∃ m,v = P0 m ∧ own [rcC m w e (rCaps K e) [],rkC w K]) ∨ (rCaps K e = [] ∧ v = .pointer none ∧ own [rkC w K]) := by
 have hn := k.nm
 refine Ct.of k_ref15_NewCommons rfl fun h r=>Tr.eq (e_ref15_NewCommons ..) ?_; (try simp only[Nr,Nl,Nat.reduceAdd,Nat.reduceMul,Int.reduceToNat])
 refine tr_open (rkC w K) fun ⟨⟨fa,fc,ea,ec,sa,sc,ss,ha,hc,hs⟩,q,g,ta,tc,ts⟩=>?_; (try simp only[Nr,Nl,Nat.reduceAdd,Nat.reduceMul,Int.reduceToNat])
 refine tr_open (rgC g K.R) fun ⟨gq,gla,glc,gza,gzc,gs⟩=>?_; (try simp only[Nr,Nl,Nat.reduceAdd,Nat.reduceMul,Int.reduceToNat])
 (repeat' first|refine Gu ?_|(with_reducible first|refine Gn fun b h=>?_|apply Gx|apply Gy|rintro px rfl|refine fun(h:H)=>?_|intro hb)|refine Gs ?_|refine Gt ?_|exact Gz rfl|fail)
 dsimp only
 (try simp only[Nr,Nl,Nat.reduceAdd,Nat.reduceMul,Int.reduceToNat])
 (repeat' first|refine Gu ?_|(with_reducible first|refine Gn fun b h=>?_|apply Gx|apply Gy|rintro px rfl|refine fun(h:H)=>?_|intro hb)|refine Gs ?_|refine Gt ?_|exact Gz rfl|fail)
 refine Tr.xCall (ct_spcAll gs K.R.N K.R.C k.R.sp e (by omega)) ?_; rintro _ h ⟨a,c,rfl,o⟩ <;> (refine (?_ : Tr _ _ _ _) o; (try simp only[Nr,Nl,Nat.reduceAdd,Nat.reduceMul,Int.reduceToNat]); (repeat' first|refine Gu ?_|(with_reducible first|refine Gn fun b h=>?_|apply Gx|apply Gy|rintro px rfl|refine fun(h:H)=>?_|intro hb)|refine Gs ?_|refine Gt ?_|exact Gz rfl|fail))
 refine tr_fold (rgC g K.R) ⟨gq,gla,glc,gza,gzc,gs⟩ ?_; (try simp only[Nr,Nl,Nat.reduceAdd,Nat.reduceMul,Int.reduceToNat])
 have hrc : rCaps K e = nmAll 0 (K.R.N.getD e []) := rfl
 rw [← hrc]
 by_cases hz : rCaps K e = []
 ·refine Tr.condT (by simp [hz]) ?_
  refine tr_fold (rkC w K) ⟨⟨fa,fc,ea,ec,sa,sc,ss,ha,hc,hs⟩,q,g,ta,tc,ts⟩ ?_; (try simp only[Nr,Nl,Nat.reduceAdd,Nat.reduceMul,Int.reduceToNat])
  refine Tr.some fun o=>?_
  exact .inr ⟨hz,rfl,o.sub⟩
 ·refine Tr.condF ?_ ?_
  ·rw [beq_eq_false_iff_ne]
   intro h0
   exact hz (List.eq_nil_of_length_eq_zero (by omega))
  refine Tr.nw fun m h=>?_
  refine tr_fold (rkC w K) ⟨⟨fa,fc,ea,ec,sa,sc,ss,ha,hc,hs⟩,q,g,ta,tc,ts⟩ ?_; (try simp only[Nr,Nl,Nat.reduceAdd,Nat.reduceMul,Int.reduceToNat])
  refine tr_nilSl false Y_api_Rec 2 (by omega) ?_
  refine tr_foldI (rcC m w e (rCaps K e) []) (a,c,none,0) [2,2,0] rfl ?_; (try simp only[Nr,Nl,Nat.reduceAdd,Nat.reduceMul,Int.reduceToNat])
  refine Tr.some fun o=>?_
  exact .inl ⟨hz,m,rfl,o.sub⟩
end Go.EQ
