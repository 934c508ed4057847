/- For all numbers and every list of steps the law KernFrames of layer 8 returns true and leaves its arguments as they were. No condition. -/
import Derived.Test.YtkoigngajoefkaaMf
import Derived.KernelRfl
import Derived.Test.YtkoigngajoefkaaRows
set_option linter.unusedVariables false
set_option linter.unusedSimpArgs false
set_option linter.unusedSectionVars false
set_option linter.unusedSimpArgs false
set_option linter.unusedVariables false
set_option maxRecDepth 100000
namespace Go.EQ
open Go Go.NN
def bootA : BootS := ⟨[2, 2], [0, 1], [[0]], 5, [⟨0, 0, 0, 10, [0]⟩]⟩
abbrev callA1 : CallS := ⟨2, 256, 0, 0, 0, 0, [7]⟩
abbrev callA2 : CallS := ⟨1, 256, 0, 1, 0, 0, []⟩
abbrev callA3 : CallS := ⟨8, 0, 0, 0, 0, 0, []⟩
theorem bootA_ok : bootOk bootA = true := by kernel_rfl
theorem bootA_small : Small bootA := ⟨by simp [bootA, most], by simp [bootA, most], by simp [bootA, most]⟩
def SA0 : KS := kNew bootA
abbrev SA1 : KS := (kAns SA0 0 callA1).2
abbrev SA2 : KS := (kAns SA1 0 callA2).2
abbrev SA3 : KS := (kAns SA2 1 callA2).2
abbrev SA4 : KS := (kAns SA3 1 callA3).2
theorem a1 : (kAns SA0 0 callA1).1.1 = 0 := by kernel_rfl
theorem a2 : (kAns SA1 0 callA2).1.2.2 = [7] := by kernel_rfl
theorem a3 : (kAns SA2 1 callA2).1.1 = 2 := by kernel_rfl
theorem a4 : (kAns SA3 1 callA3).1.1 = 8 := by kernel_rfl
theorem ct_awake8 : Ct CALL F_law8_awake [] [] fun v own => v = .bool true ∧ own [] := by
  refine Ct.of k_law8_awake rfl fun h r => Tr.eq (e_law8_awake ..) ?_; (try simp only[nrm,nrmL,aSome_some,Nat.reduceAdd,Nat.reduceMul,Int.reduceToNat])
  refine Tr.nw fun b1 h1 => ?_
  refine Tr.nw fun b2 h2 => ?_
  refine Tr.nw fun b3 h3 => ?_
  refine Tr.nw fun b4 h4 => ?_
  refine Tr.nw fun b5 h5 => ?_
  refine Tr.nw fun b6 h6 => ?_
  refine tr_asSl 0 rfl 5 1 rfl (by omega) ?_; (try simp only[nrm,nrmL,aSome_some,Nat.reduceAdd,Nat.reduceMul,Int.reduceToNat])
  refine tr_asSl 1 rfl 1 1 rfl (by omega) ?_; (try simp only[nrm,nrmL,aSome_some,Nat.reduceAdd,Nat.reduceMul,Int.reduceToNat])
  refine tr_asSl 2 rfl 1 1 rfl (by omega) ?_; (try simp only[nrm,nrmL,aSome_some,Nat.reduceAdd,Nat.reduceMul,Int.reduceToNat])
  refine tr_asSl 3 rfl 1 1 rfl (by omega) ?_; (try simp only[nrm,nrmL,aSome_some,Nat.reduceAdd,Nat.reduceMul,Int.reduceToNat])
  refine tr_asSl 4 rfl 1 2 rfl (by omega) ?_; (try simp only[nrm,nrmL,aSome_some,Nat.reduceAdd,Nat.reduceMul,Int.reduceToNat])
  refine tr_asSl 5 rfl 1 2 rfl (by omega) ?_; (try simp only[nrm,nrmL,aSome_some,Nat.reduceAdd,Nat.reduceMul,Int.reduceToNat])
  refine tr_one2 (toC false) (some ⟨b5, 0, none⟩, 1) (⟨0, 0, 0, 10, [0]⟩ : ShareS) (r := []) 1 rfl ?_; (try simp only[nrm,nrmL,aSome_some,Nat.reduceAdd,Nat.reduceMul,Int.reduceToNat])
  refine tr_one2 (rsC false) (some ⟨b3, 0, none⟩, 1) ([0] : List Int) (r := []) 3 rfl ?_; (try simp only[nrm,nrmL,aSome_some,Nat.reduceAdd,Nat.reduceMul,Int.reduceToNat])
  refine tr_callI (ct_New false bootA ⟨some ⟨b1, 0, none⟩, 2, some ⟨b2, 0, none⟩, 2, some ⟨b4, 0, none⟩, 1, [(some ⟨b3, 0, none⟩, 1)], some ⟨b6, 0, none⟩, 1, [(some ⟨b5, 0, none⟩, 1)]⟩ ⟨rfl, rfl⟩ bootA_small) [5, 4, 3, 0, 1, 0] rfl ?_
  intro v h hv
  rw [if_pos bootA_ok] at hv
  obtain ⟨k, rfl, o⟩ := hv
  refine (?_ : Tr _ _ _ _) o
  (try simp only[nrm,nrmL,aSome_some,Nat.reduceAdd,Nat.reduceMul,Int.reduceToNat])
  (repeat' first|(with_reducible first|refine Ga ?_|refine Gn fun b h=>?_|apply Tr.andG|apply Tr.orG|refine Tr.xFits ?_|rintro px rfl|refine fun(h:H)=>?_|intro hb)|((with_reducible first|apply Gb|apply Gc|apply Gd|apply Ge|apply Gf|apply Gg|apply Gh|apply Gi);·rfl)|((with_reducible first|apply Gj|apply Gk|apply Gl|apply Gm);·first|assumption|rfl)|((with_reducible apply Tr.xV);·exact⟨Nat.le_of_ble_eq_true rfl,rfl,rfl⟩)|((with_reducible apply Tr.xAgg);·exact⟨Nat.le_of_ble_eq_true rfl,rfl⟩)|((with_reducible apply Tr.xPAgg);·exact⟨Nat.le_of_ble_eq_true rfl,rfl,rfl⟩)|((with_reducible first|refine Tr.ck ?_ ?_|apply Tr.xSome|apply Tr.xCells);·first|rfl|omega|(simp only[gnd] at hb;omega))|((with_reducible refine Tr.same ?_ ?_);·first|exact sameV_sl _ _ _|exact sameV_ptr _|exact sameV_int _ _|exact sameV_bool _|exact sameV_str _)|((with_reducible apply Tr.xCellsB);·exact⟨Nat.le_of_ble_eq_true rfl,rfl⟩)|((with_reducible apply Tr.asBytes);·exact bytesN1_byteCells _)|(refine Tr.some fun _=>?_;exact⟨rfl,rfl⟩)|fail)
  refine Tr.condF rfl ?_
  refine Tr.nw fun c1 g1 => ?_
  refine tr_view 0 rfl [] (byteCells [7]) [] rfl 1 0 1 1 (by simp [byteCells]) ?_; (try simp only[nrm,nrmL,aSome_some,Nat.reduceAdd,Nat.reduceMul,Int.reduceToNat])
  refine tr_callI (ct_kDo k SA0 0 (kNew_ok bootA_ok bootA_small) (by omega) 0 callA1 (some ⟨c1, 0, none⟩) 1 false ([], []) (by decide)) [1, 0] rfl ?_
  rintro _ h ⟨x1, d1, rfl, o⟩
  refine (?_ : Tr _ _ _ _) o
  (try simp only[nrm,nrmL,aSome_some,Nat.reduceAdd,Nat.reduceMul,Int.reduceToNat])
  have k1 : KOk 2 SA1 := kAns_ok (kNew_ok bootA_ok bootA_small) (by omega) 0 callA1
  have k2 : KOk 4 SA2 := kAns_ok k1 (by omega) 0 callA2
  have k3 : KOk 6 SA3 := kAns_ok k2 (by omega) 1 callA2
  refine Tr.dx ?_
  refine Tr.nw fun c2 g2 => ?_
  (repeat' first|(with_reducible first|refine Ga ?_|refine Gn fun b h=>?_|apply Tr.andG|apply Tr.orG|refine Tr.xFits ?_|rintro px rfl|refine fun(h:H)=>?_|intro hb)|((with_reducible first|apply Gb|apply Gc|apply Gd|apply Ge|apply Gf|apply Gg|apply Gh|apply Gi);·rfl)|((with_reducible first|apply Gj|apply Gk|apply Gl|apply Gm);·first|assumption|rfl)|((with_reducible apply Tr.xV);·exact⟨Nat.le_of_ble_eq_true rfl,rfl,rfl⟩)|((with_reducible apply Tr.xAgg);·exact⟨Nat.le_of_ble_eq_true rfl,rfl⟩)|((with_reducible apply Tr.xPAgg);·exact⟨Nat.le_of_ble_eq_true rfl,rfl,rfl⟩)|((with_reducible first|refine Tr.ck ?_ ?_|apply Tr.xSome|apply Tr.xCells);·first|rfl|omega|(simp only[gnd] at hb;omega))|((with_reducible refine Tr.same ?_ ?_);·first|exact sameV_sl _ _ _|exact sameV_ptr _|exact sameV_int _ _|exact sameV_bool _|exact sameV_str _)|((with_reducible apply Tr.xCellsB);·exact⟨Nat.le_of_ble_eq_true rfl,rfl⟩)|((with_reducible apply Tr.asBytes);·exact bytesN1_byteCells _)|(refine Tr.some fun _=>?_;exact⟨rfl,rfl⟩)|fail)
  refine Tr.xCall (ct_kDo0 k SA1 2 k1 (by omega) 0 1 256 0 1 0 0 (by decide)) ?_; rintro _ h ⟨x2, d2, rfl, o⟩ <;> (refine (?_ : Tr _ _ _ _) o; (try simp only[nrm,nrmL,aSome_some,Nat.reduceAdd,Nat.reduceMul,Int.reduceToNat]); (repeat' first|(with_reducible first|refine Ga ?_|refine Gn fun b h=>?_|apply Tr.andG|apply Tr.orG|refine Tr.xFits ?_|rintro px rfl|refine fun(h:H)=>?_|intro hb)|((with_reducible first|apply Gb|apply Gc|apply Gd|apply Ge|apply Gf|apply Gg|apply Gh|apply Gi);·rfl)|((with_reducible first|apply Gj|apply Gk|apply Gl|apply Gm);·first|assumption|rfl)|((with_reducible apply Tr.xV);·exact⟨Nat.le_of_ble_eq_true rfl,rfl,rfl⟩)|((with_reducible apply Tr.xAgg);·exact⟨Nat.le_of_ble_eq_true rfl,rfl⟩)|((with_reducible apply Tr.xPAgg);·exact⟨Nat.le_of_ble_eq_true rfl,rfl,rfl⟩)|((with_reducible first|refine Tr.ck ?_ ?_|apply Tr.xSome|apply Tr.xCells);·first|rfl|omega|(simp only[gnd] at hb;omega))|((with_reducible refine Tr.same ?_ ?_);·first|exact sameV_sl _ _ _|exact sameV_ptr _|exact sameV_int _ _|exact sameV_bool _|exact sameV_str _)|((with_reducible apply Tr.xCellsB);·exact⟨Nat.le_of_ble_eq_true rfl,rfl⟩)|((with_reducible apply Tr.asBytes);·exact bytesN1_byteCells _)|(refine Tr.some fun _=>?_;exact⟨rfl,rfl⟩)|fail))
  refine Tr.xCall (ct_kDo0 k SA2 4 k2 (by omega) 1 1 256 0 1 0 0 (by decide)) ?_; rintro _ h ⟨x3, d3, rfl, o⟩ <;> (refine (?_ : Tr _ _ _ _) o; (try simp only[nrm,nrmL,aSome_some,Nat.reduceAdd,Nat.reduceMul,Int.reduceToNat]); (repeat' first|(with_reducible first|refine Ga ?_|refine Gn fun b h=>?_|apply Tr.andG|apply Tr.orG|refine Tr.xFits ?_|rintro px rfl|refine fun(h:H)=>?_|intro hb)|((with_reducible first|apply Gb|apply Gc|apply Gd|apply Ge|apply Gf|apply Gg|apply Gh|apply Gi);·rfl)|((with_reducible first|apply Gj|apply Gk|apply Gl|apply Gm);·first|assumption|rfl)|((with_reducible apply Tr.xV);·exact⟨Nat.le_of_ble_eq_true rfl,rfl,rfl⟩)|((with_reducible apply Tr.xAgg);·exact⟨Nat.le_of_ble_eq_true rfl,rfl⟩)|((with_reducible apply Tr.xPAgg);·exact⟨Nat.le_of_ble_eq_true rfl,rfl,rfl⟩)|((with_reducible first|refine Tr.ck ?_ ?_|apply Tr.xSome|apply Tr.xCells);·first|rfl|omega|(simp only[gnd] at hb;omega))|((with_reducible refine Tr.same ?_ ?_);·first|exact sameV_sl _ _ _|exact sameV_ptr _|exact sameV_int _ _|exact sameV_bool _|exact sameV_str _)|((with_reducible apply Tr.xCellsB);·exact⟨Nat.le_of_ble_eq_true rfl,rfl⟩)|((with_reducible apply Tr.asBytes);·exact bytesN1_byteCells _)|(refine Tr.some fun _=>?_;exact⟨rfl,rfl⟩)|fail))
  refine Tr.xCall (ct_kDo0 k SA3 6 k3 (by omega) 1 8 0 0 0 0 0 (by decide)) ?_; rintro _ h ⟨x4, d4, rfl, o⟩ <;> (refine (?_ : Tr _ _ _ _) o; (try simp only[nrm,nrmL,aSome_some,Nat.reduceAdd,Nat.reduceMul,Int.reduceToNat]); (repeat' first|(with_reducible first|refine Ga ?_|refine Gn fun b h=>?_|apply Tr.andG|apply Tr.orG|refine Tr.xFits ?_|rintro px rfl|refine fun(h:H)=>?_|intro hb)|((with_reducible first|apply Gb|apply Gc|apply Gd|apply Ge|apply Gf|apply Gg|apply Gh|apply Gi);·rfl)|((with_reducible first|apply Gj|apply Gk|apply Gl|apply Gm);·first|assumption|rfl)|((with_reducible apply Tr.xV);·exact⟨Nat.le_of_ble_eq_true rfl,rfl,rfl⟩)|((with_reducible apply Tr.xAgg);·exact⟨Nat.le_of_ble_eq_true rfl,rfl⟩)|((with_reducible apply Tr.xPAgg);·exact⟨Nat.le_of_ble_eq_true rfl,rfl,rfl⟩)|((with_reducible first|refine Tr.ck ?_ ?_|apply Tr.xSome|apply Tr.xCells);·first|rfl|omega|(simp only[gnd] at hb;omega))|((with_reducible refine Tr.same ?_ ?_);·first|exact sameV_sl _ _ _|exact sameV_ptr _|exact sameV_int _ _|exact sameV_bool _|exact sameV_str _)|((with_reducible apply Tr.xCellsB);·exact⟨Nat.le_of_ble_eq_true rfl,rfl⟩)|((with_reducible apply Tr.asBytes);·exact bytesN1_byteCells _)|(refine Tr.some fun _=>?_;exact⟨rfl,rfl⟩)|fail))
  · refine Tr.pcall (ct_kNow k SA4) ?_; (try simp only[nrm,nrmL,aSome_some,Nat.reduceAdd,Nat.reduceMul,Int.reduceToNat]); (repeat' first|(with_reducible first|refine Ga ?_|refine Gn fun b h=>?_|apply Tr.andG|apply Tr.orG|refine Tr.xFits ?_|rintro px rfl|refine fun(h:H)=>?_|intro hb)|((with_reducible first|apply Gb|apply Gc|apply Gd|apply Ge|apply Gf|apply Gg|apply Gh|apply Gi);·rfl)|((with_reducible first|apply Gj|apply Gk|apply Gl|apply Gm);·first|assumption|rfl)|((with_reducible apply Tr.xV);·exact⟨Nat.le_of_ble_eq_true rfl,rfl,rfl⟩)|((with_reducible apply Tr.xAgg);·exact⟨Nat.le_of_ble_eq_true rfl,rfl⟩)|((with_reducible apply Tr.xPAgg);·exact⟨Nat.le_of_ble_eq_true rfl,rfl,rfl⟩)|((with_reducible first|refine Tr.ck ?_ ?_|apply Tr.xSome|apply Tr.xCells);·first|rfl|omega|(simp only[gnd] at hb;omega))|((with_reducible refine Tr.same ?_ ?_);·first|exact sameV_sl _ _ _|exact sameV_ptr _|exact sameV_int _ _|exact sameV_bool _|exact sameV_str _)|((with_reducible apply Tr.xCellsB);·exact⟨Nat.le_of_ble_eq_true rfl,rfl⟩)|((with_reducible apply Tr.asBytes);·exact bytesN1_byteCells _)|(refine Tr.some fun _=>?_;exact⟨rfl,rfl⟩)|fail)
  refine Tr.some fun o => ?_
  exact ⟨congrArg Value.bool (by kernel_rfl), o.sub⟩
end Go.EQ

set_option linter.unusedSimpArgs false
set_option linter.unusedVariables false
set_option maxRecDepth 100000
namespace Go.EQ
open Go Go.NN
end Go.EQ

set_option linter.unusedSimpArgs false
set_option linter.unusedVariables false
set_option maxRecDepth 100000
namespace Go.EQ
open Go Go.NN
structure OpS where
  env : Int
  c : CallS
def opL (p : (Option Addr × Nat) × OpS) : List Value := int p.2.env :: callL p.2.c p.1.1 p.1.2
theorem opL_len (p : (Option Addr × Nat) × OpS) : (opL p).length = 8 := rfl
def opsV (gs : List (Option Addr × Nat)) (ops : List OpS) : List Value := (List.zip gs ops).flatMap opL
theorem opsV_get {gs : List (Option Addr × Nat)} {ops : List OpS} {i : Nat} {g : Option Addr × Nat} {o : OpS} (hg : gs[i]? = some g) (ho : ops[i]? = some o) (j : Nat) (hj : j < 8) : (opsV gs ops)[i * 8 + j]? = (opL (g, o))[j]? :=
  flat_get opL_len (getZip hg ho) (by simpa using hj)
abbrev opC (g : Option Addr × Nat) (o : OpS) : HP := slC true Y_uint8 1 g.1 o.c.b.length g.2 (byteCells o.c.b)
def flagRow (u : List Int) : List Value := (List.range 8).map fun j => Value.bool (decide (u.getD j 0 ≠ 0))
theorem flagRow_len (u : List Int) : (flagRow u).length = 8 := by simp [flagRow]
theorem flagRow_get (u : List Int) (j : Nat) (h : j < 8) : (flagRow u)[j]? = some (.bool (decide (u.getD j 0 ≠ 0))) := by
  simp [flagRow, h]
theorem flagRow_set (u : List Int) (j : Nat) (x : Int) (h : j < u.length) : flagRow (u.set j x) = (flagRow u).set j (.bool (decide (x ≠ 0))) := by
  unfold flagRow
  apply List.ext_getElem?
  intro i
  simp only [List.getElem?_set, List.getElem?_map, List.length_map, List.length_range, List.getElem?_range', List.getD_eq_getElem?_getD]
  by_cases hi : i < 8
  · rw [List.getElem?_range hi]
    by_cases hji : j = i
    · subst hji; simp [h, hi]
    · simp [hji]
  · rw [List.getElem?_eq_none (by simpa using hi)]
    by_cases hji : j = i
    · subst hji; simp [hi]
    · simp [hji]
theorem flagRow_same (u : List Int) (j : Nat) (h : u.getD j 0 = 0) : (flagRow u).set j (.bool false) = flagRow u := by
  apply List.ext_getElem?
  intro i
  rw [List.getElem?_set]
  by_cases hji : j = i
  · subst hji
    by_cases hi : j < 8
    · rw [if_pos rfl, flagRow_len, if_pos hi, flagRow_get u j hi, h]; simp
    · rw [if_pos rfl, flagRow_len, if_neg hi, List.getElem?_eq_none (by rw [flagRow_len]; omega)]
  · rw [if_neg hji]
def flags (us : List (List Int)) : List Value := us.flatMap flagRow
theorem indexV_at {u : List Int} {j : Nat} (hj : u[j]? = some 0) (hb : ∀ (i : Nat) (x : Int), i < j → u[i]? = some x → x ≠ 0) : indexV 0 0 u = j := by
  have h := indexV_spec 0 u 0
  rcases h with ⟨_, h⟩ | ⟨i, h1, h2⟩
  · exact absurd (List.mem_of_getElem? hj) h
  · have : i = j := by
      rcases Nat.lt_trichotomy i j with h3 | h3 | h3
      · exact absurd rfl (hb i 0 h3 h2)
      · exact h3
      · exfalso
        have : ∀ (u : List Int) (a i j : Nat), u[j]? = some 0 → j < i → indexV 0 a u ≠ ((a + i : Nat) : Int) := by
          intro u
          induction u with
          | nil => intro a i j h; simp at h
          | cons x u ih =>
            intro a i j h hlt
            unfold indexV
            by_cases hx : (0 : Int) = x
            · rw [if_pos hx]; omega
            · rw [if_neg hx]
              cases j with
              | zero => simp at h; exact absurd h.symm hx
              | succ j =>
                obtain ⟨i, rfl⟩ : ∃ k, i = k + 1 := ⟨i - 1, by omega⟩
                have := ih (a + 1) i j (by simpa using h) (by omega)
                rw [show a + (i + 1) = a + 1 + i by omega]; exact this
        exact this u 0 i j hj h3 h1
    subst this; rw [h1]; simp
theorem indexV_none {u : List Int} (hb : ∀ (i : Nat) (x : Int), u[i]? = some x → x ≠ 0) : indexV 0 0 u = -1 := by
  rcases indexV_spec 0 u 0 with ⟨h, _⟩ | ⟨i, _, h2⟩
  · exact h
  · exact absurd rfl (hb i 0 h2)
theorem kAns_alloc (S : KS) (env : Int) (h : 0 ≤ env ∧ env < S.envs.length) : kAns S env ⟨6, 0, 0, 0, 0, 0, []⟩ = (((qAlloc S.used (envOf S env)).1.2, (qAlloc S.used (envOf S env)).1.1, []), putUsed S (qAlloc S.used (envOf S env)).2) := by
  unfold kAns; rw [if_neg (by omega)]; rfl
theorem kAns_free (S : KS) (env n : Int) (h : 0 ≤ env ∧ env < S.envs.length) : kAns S env ⟨7, 0, 0, n, 0, 0, []⟩ = (((qFree S.used (envOf S env) n).1, 0, []), putUsed S (qFree S.used (envOf S env) n).2) := by
  unfold kAns; rw [if_neg (by omega)]; rfl
structure FrOk (fs : List Int) (S : KS) : Prop where
  envs : S.envs = [0, 1, 0, 1]
  used : S.used.map (fun u => (u.length : Int)) = fs
  two : S.used.length = 2
  len : ∀ u ∈ S.used, u.length ≤ 7
  bits : ∀ u ∈ S.used, ∀ x ∈ u, x = 0 ∨ x = 1
theorem FrOk.put {fs : List Int} {S : KS} (k : FrOk fs S) {s : Nat} {u u' : List Int} (hu : S.used[s]? = some u) (hl : u'.length = u.length) (hb : ∀ x ∈ u', x = 0 ∨ x = 1) : FrOk fs (putUsed S (S.used.set s u')) where
  envs := k.envs
  used := by
    show (S.used.set s u').map _ = fs
    rw [List.map_set, hl, lset_same (by rw [List.getElem?_map, hu]; rfl)]; exact k.used
  two := by show (S.used.set s u').length = 2; rw [List.length_set]; exact k.two
  len v hv := by
    rcases List.mem_or_eq_of_mem_set hv with h | rfl
    · exact k.len v h
    · rw [hl]; exact k.len u (List.mem_of_getElem? hu)
  bits v hv := by
    rcases List.mem_or_eq_of_mem_set hv with h | rfl
    · exact k.bits v h
    · exact hb
theorem envOf_fr {fs : List Int} {S : KS} (k : FrOk fs S) {e : Int} (h : 0 ≤ e ∧ e < 4) : envOf S e = e % 2 := by
  unfold envOf; rw [k.envs]
  obtain rfl | rfl | rfl | rfl : e = 0 ∨ e = 1 ∨ e = 2 ∨ e = 3 := by omega
  all_goals rfl
theorem fr_free {fs : List Int} {S : KS} (fo : FrOk fs S) {e n : Int} (he : 0 ≤ e ∧ e < 4) (hn : 0 ≤ n ∧ n < 8) {u : List Int} (hu : S.used[(e % 2).toNat]? = some u) :
    (∃ S', kAns S e ⟨7, 0, 0, n, 0, 0, []⟩ = ((0, 0, []), S') ∧ FrOk fs S' ∧ (flags S.used)[(e % 2).toNat * 8 + n.toNat]? = some (.bool true) ∧ (flags S.used).set ((e % 2).toNat * 8 + n.toNat) (.bool false) = flags S'.used) ∨
    (kAns S e ⟨7, 0, 0, n, 0, 0, []⟩ = ((5, 0, []), S) ∧ (flags S.used)[(e % 2).toNat * 8 + n.toNat]? = some (.bool false) ∧ (flags S.used).set ((e % 2).toNat * 8 + n.toNat) (.bool false) = flags S.used) := by
  have hget : (flags S.used)[(e % 2).toNat * 8 + n.toNat]? = some (.bool (decide (u.getD n.toNat 0 ≠ 0))) := by
    rw [flags, flat_get flagRow_len hu (by omega), flagRow_get u n.toNat (by omega)]
  have hin : 0 ≤ e % 2 ∧ e % 2 < S.used.length := by rw [fo.two]; omega
  rw [kAns_free S e n (by rw [fo.envs]; exact he), envOf_fr fo he, hget]
  have hown : qOwns S.used (e % 2) n = decide (u.getD n.toNat 0 ≠ 0) := by
    unfold qOwns idx; rw [if_pos hin.1, hu]; simp only [if_pos hn.1]
    rw [List.getD_eq_getElem?_getD]
    cases hx : u[n.toNat]? with
    | none => simp
    | some x =>
      rcases fo.bits u (List.mem_of_getElem? hu) x (List.mem_of_getElem? hx) with rfl | rfl <;> simp
  by_cases h0 : u.getD n.toNat 0 = 0
  · right
    have hfr : qFree S.used (e % 2) n = (5, S.used) := by
      unfold qFree; rw [if_neg (fun h => h hin), if_pos (by rw [hown]; simp only [h0, ne_eq, not_true_eq_false, decide_false])]
    rw [hfr]
    exact ⟨rfl, by simp only [h0, ne_eq, not_true_eq_false, decide_false], flat_set1 flagRow_len hu (by omega) (flagRow_same u n.toNat h0).symm |>.trans (by rw [lset_same hu]; rfl)⟩
  · left
    have hlt : n.toNat < u.length := by
      rcases Nat.lt_or_ge n.toNat u.length with h | h
      · exact h
      · rw [List.getD_eq_getElem?_getD, List.getElem?_eq_none h] at h0; exact absurd rfl h0
    have hgd : S.used.getD (e % 2).toNat [] = u := by rw [List.getD_eq_getElem?_getD, hu]; rfl
    have hfr : qFree S.used (e % 2) n = (0, S.used.set (e % 2).toNat (u.set n.toNat 0)) := by
      unfold qFree; rw [if_neg (fun h => h hin), if_neg (by rw [hown]; simp only [decide_eq_false_iff_not]; exact fun h => h h0), hgd]
    rw [hfr]
    refine ⟨_, rfl, fo.put hu (by simp) (fun y hy => ?_), by simp only [ne_eq, h0, not_false_eq_true, decide_true], ?_⟩
    · rcases List.mem_or_eq_of_mem_set hy with h | rfl
      · exact fo.bits u (List.mem_of_getElem? hu) y h
      · exact .inl rfl
    · exact flat_set1 flagRow_len hu (by omega) (by rw [flagRow_set _ _ _ hlt]; rfl)
section
variable (gs : List (Option Addr × Nat)) (ops : List OpS) (a : Option Addr) (c : Nat) (fs : List Int) (f1 : Addr) (b3 k : Nat)
abbrev frF (S : KS) : List HP := [kernC k S, slC false Y_int 1 (some f1) 2 2 (fs.map int), pt b3 (.cells Y_2_8_bool false (flags S.used)), slC true Y_law8_Op 8 a ops.length c (opsV gs ops)]
def frGoal (i : Nat) (S : KS) : Prop :=
  CtJ JUMP F_law8_KernFrames T_law8_KernFrames_L1 [(2, .slice a ops.length c), (7, .slice (some f1) 2 2), (8, P0 k), (10, P0 b3), (11, int i)] (frF gs ops a c fs f1 b3 k S) fun v own => v = .bool true
theorem fr_L2 (hfs : fs.length = 2) (i : Nat) (hi : i ≤ 80) (S : KS) (ok : KOk (2 * i) S) (fo : FrOk fs S) (next : ∀ S', KOk (2 * (i + 1)) S' → FrOk fs S' → frGoal gs ops a c fs f1 b3 k (i + 1) S') (e : Int) (he : 0 ≤ e ∧ e < 4) (u : List Int) (hu : S.used[(e % 2).toNat]? = some u) :
    ∀ (m j : Nat), u.length - j = m → j ≤ u.length → (∀ (j' : Nat) (x : Int), j' < j → u[j']? = some x → x ≠ 0) →
    CtJ JUMP F_law8_KernFrames T_law8_KernFrames_L2 [(2, .slice a ops.length c), (7, .slice (some f1) 2 2), (8, P0 k), (10, P0 b3), (11, int i), (12, int e), (13, int (e % 2)), (14, int j)] (frF gs ops a c fs f1 b3 k S) fun v own => v = .bool true := by
  have hul := fo.len u (List.mem_of_getElem? hu)
  have hf : (fs.map int)[(e % 2).toNat]? = some (int u.length) := by
    rw [← fo.used, List.map_map, List.getElem?_map, hu]; rfl
  have e1 : IntKind.wrap .i64 ((i : Int) + 1) = ((i + 1 : Nat) : Int) := by rw [wrap_eq]; omega
  intro m
  induction m with
  | zero =>
    intro j hm hj hb
    refine CtJ.of k_law8_KernFrames fun h r => Tr.eq (e_law8_KernFrames_L2 ..) ?_; (try simp only[nrm,nrmL,aSome_some,Nat.reduceAdd,Nat.reduceMul,Int.reduceToNat])
    obtain rfl : j = u.length := by omega
    have hix : indexV 0 0 u = -1 := indexV_none fun i x hx => hb i x (List.getElem?_eq_some_iff.1 hx).1 hx
    have hal : qAlloc S.used (e % 2) = ((0, 4), S.used) := by
      unfold qAlloc idx; rw [if_pos (by omega), hu]; simp only [hix]; rfl
    have hans : kAns S e ⟨6, 0, 0, 0, 0, 0, []⟩ = ((4, 0, []), S) := by
      rw [kAns_alloc S e (by rw [fo.envs]; exact he), envOf_fr fo he, hal]; rfl
    (repeat' first|(with_reducible first|refine Ga ?_|refine Gn fun b h=>?_|refine Tr.xFits ?_|rintro px rfl|refine fun(h:H)=>?_|intro hb)|((with_reducible first|apply Gb|apply Gc|apply Gd|apply Ge|apply Gf|apply Gg|apply Gh|apply Gi);·first|rfl|assumption)|((with_reducible first|apply Gj|apply Gk|apply Gl|apply Gm);·first|assumption|rfl)|((with_reducible apply Tr.xV);·exact⟨Nat.le_of_ble_eq_true rfl,rfl,rfl⟩)|((with_reducible apply Tr.xAgg);·exact⟨Nat.le_of_ble_eq_true rfl,rfl⟩)|((with_reducible apply Tr.xPAgg);·exact⟨Nat.le_of_ble_eq_true rfl,rfl,rfl⟩)|((with_reducible first|refine Tr.ck ?_ ?_|apply Tr.xSome|apply Tr.xCells);·first|rfl|omega|(simp only[gnd] at hb;omega))|((with_reducible refine Tr.same ?_ ?_);·first|exact sameV_sl _ _ _|exact sameV_ptr _|exact sameV_int _ _|exact sameV_bool _|exact sameV_str _)|((with_reducible apply Tr.xCellsB);·exact⟨Nat.le_of_ble_eq_true rfl,rfl⟩)|((with_reducible apply Tr.asBytes);·exact bytesN1_byteCells _)|(refine Tr.some fun _=>?_;exact⟨rfl,rfl⟩)|fail)
    refine Tr.andG (c := false) (fun hb => absurd hb (by simp)) ?_
    refine Tr.condF (by simp) ?_
    refine Tr.xCall (ct_kDo0 k S (2 * i) ok (by omega) e 6 0 0 0 0 0 (by decide)) ?_; rintro _ h ⟨x2, d2, rfl, o⟩ <;> (refine (?_ : Tr _ _ _ _) o; (try simp only[nrm,nrmL,aSome_some,Nat.reduceAdd,Nat.reduceMul,Int.reduceToNat]); (repeat' first|(with_reducible first|refine Ga ?_|refine Gn fun b h=>?_|refine Tr.xFits ?_|rintro px rfl|refine fun(h:H)=>?_|intro hb)|((with_reducible first|apply Gb|apply Gc|apply Gd|apply Ge|apply Gf|apply Gg|apply Gh|apply Gi);·first|rfl|assumption)|((with_reducible first|apply Gj|apply Gk|apply Gl|apply Gm);·first|assumption|rfl)|((with_reducible apply Tr.xV);·exact⟨Nat.le_of_ble_eq_true rfl,rfl,rfl⟩)|((with_reducible apply Tr.xAgg);·exact⟨Nat.le_of_ble_eq_true rfl,rfl⟩)|((with_reducible apply Tr.xPAgg);·exact⟨Nat.le_of_ble_eq_true rfl,rfl,rfl⟩)|((with_reducible first|refine Tr.ck ?_ ?_|apply Tr.xSome|apply Tr.xCells);·first|rfl|omega|(simp only[gnd] at hb;omega))|((with_reducible refine Tr.same ?_ ?_);·first|exact sameV_sl _ _ _|exact sameV_ptr _|exact sameV_int _ _|exact sameV_bool _|exact sameV_str _)|((with_reducible apply Tr.xCellsB);·exact⟨Nat.le_of_ble_eq_true rfl,rfl⟩)|((with_reducible apply Tr.asBytes);·exact bytesN1_byteCells _)|(refine Tr.some fun _=>?_;exact⟨rfl,rfl⟩)|fail))
    rw [hans]
    (repeat' first|(with_reducible first|refine Ga ?_|refine Gn fun b h=>?_|refine Tr.xFits ?_|rintro px rfl|refine fun(h:H)=>?_|intro hb)|((with_reducible first|apply Gb|apply Gc|apply Gd|apply Ge|apply Gf|apply Gg|apply Gh|apply Gi);·first|rfl|assumption)|((with_reducible first|apply Gj|apply Gk|apply Gl|apply Gm);·first|assumption|rfl)|((with_reducible apply Tr.xV);·exact⟨Nat.le_of_ble_eq_true rfl,rfl,rfl⟩)|((with_reducible apply Tr.xAgg);·exact⟨Nat.le_of_ble_eq_true rfl,rfl⟩)|((with_reducible apply Tr.xPAgg);·exact⟨Nat.le_of_ble_eq_true rfl,rfl,rfl⟩)|((with_reducible first|refine Tr.ck ?_ ?_|apply Tr.xSome|apply Tr.xCells);·first|rfl|omega|(simp only[gnd] at hb;omega))|((with_reducible refine Tr.same ?_ ?_);·first|exact sameV_sl _ _ _|exact sameV_ptr _|exact sameV_int _ _|exact sameV_bool _|exact sameV_str _)|((with_reducible apply Tr.xCellsB);·exact⟨Nat.le_of_ble_eq_true rfl,rfl⟩)|((with_reducible apply Tr.asBytes);·exact bytesN1_byteCells _)|(refine Tr.some fun _=>?_;exact⟨rfl,rfl⟩)|fail)
    simp only [List.length_cons, List.length_nil]
    (try simp only[nrm,nrmL,aSome_some,Nat.reduceAdd,Nat.reduceMul,Int.reduceToNat])
    (repeat' first|(with_reducible first|refine Ga ?_|refine Gn fun b h=>?_|refine Tr.xFits ?_|rintro px rfl|refine fun(h:H)=>?_|intro hb)|((with_reducible first|apply Gb|apply Gc|apply Gd|apply Ge|apply Gf|apply Gg|apply Gh|apply Gi);·first|rfl|assumption)|((with_reducible first|apply Gj|apply Gk|apply Gl|apply Gm);·first|assumption|rfl)|((with_reducible apply Tr.xV);·exact⟨Nat.le_of_ble_eq_true rfl,rfl,rfl⟩)|((with_reducible apply Tr.xAgg);·exact⟨Nat.le_of_ble_eq_true rfl,rfl⟩)|((with_reducible apply Tr.xPAgg);·exact⟨Nat.le_of_ble_eq_true rfl,rfl,rfl⟩)|((with_reducible first|refine Tr.ck ?_ ?_|apply Tr.xSome|apply Tr.xCells);·first|rfl|omega|(simp only[gnd] at hb;omega))|((with_reducible refine Tr.same ?_ ?_);·first|exact sameV_sl _ _ _|exact sameV_ptr _|exact sameV_int _ _|exact sameV_bool _|exact sameV_str _)|((with_reducible apply Tr.xCellsB);·exact⟨Nat.le_of_ble_eq_true rfl,rfl⟩)|((with_reducible apply Tr.asBytes);·exact bytesN1_byteCells _)|(refine Tr.some fun _=>?_;exact⟨rfl,rfl⟩)|fail)
    refine Tr.bnd (Tr.condF (by simp) ?_)
    (repeat' first|(with_reducible first|refine Ga ?_|refine Gn fun b h=>?_|refine Tr.xFits ?_|rintro px rfl|refine fun(h:H)=>?_|intro hb)|((with_reducible first|apply Gb|apply Gc|apply Gd|apply Ge|apply Gf|apply Gg|apply Gh|apply Gi);·first|rfl|assumption)|((with_reducible first|apply Gj|apply Gk|apply Gl|apply Gm);·first|assumption|rfl)|((with_reducible apply Tr.xV);·exact⟨Nat.le_of_ble_eq_true rfl,rfl,rfl⟩)|((with_reducible apply Tr.xAgg);·exact⟨Nat.le_of_ble_eq_true rfl,rfl⟩)|((with_reducible apply Tr.xPAgg);·exact⟨Nat.le_of_ble_eq_true rfl,rfl,rfl⟩)|((with_reducible first|refine Tr.ck ?_ ?_|apply Tr.xSome|apply Tr.xCells);·first|rfl|omega|(simp only[gnd] at hb;omega))|((with_reducible refine Tr.same ?_ ?_);·first|exact sameV_sl _ _ _|exact sameV_ptr _|exact sameV_int _ _|exact sameV_bool _|exact sameV_str _)|((with_reducible apply Tr.xCellsB);·exact⟨Nat.le_of_ble_eq_true rfl,rfl⟩)|((with_reducible apply Tr.asBytes);·exact bytesN1_byteCells _)|(refine Tr.some fun _=>?_;exact⟨rfl,rfl⟩)|fail)
    refine Tr.bnd (Tr.condF rfl ?_)
    refine Tr.some fun o => (?_ : Tr _ _ _ _) o; (try simp only[nrm,nrmL,aSome_some,Nat.reduceAdd,Nat.reduceMul,Int.reduceToNat])
    refine Tr.some fun o => (?_ : Tr _ _ _ _) o; (try simp only[nrm,nrmL,aSome_some,Nat.reduceAdd,Nat.reduceMul,Int.reduceToNat])
    refine Tr.bnd (Tr.condF rfl ?_)
    (repeat' first|(with_reducible first|refine Ga ?_|refine Gn fun b h=>?_|refine Tr.xFits ?_|rintro px rfl|refine fun(h:H)=>?_|intro hb)|((with_reducible first|apply Gb|apply Gc|apply Gd|apply Ge|apply Gf|apply Gg|apply Gh|apply Gi);·first|rfl|assumption)|((with_reducible first|apply Gj|apply Gk|apply Gl|apply Gm);·first|assumption|rfl)|((with_reducible apply Tr.xV);·exact⟨Nat.le_of_ble_eq_true rfl,rfl,rfl⟩)|((with_reducible apply Tr.xAgg);·exact⟨Nat.le_of_ble_eq_true rfl,rfl⟩)|((with_reducible apply Tr.xPAgg);·exact⟨Nat.le_of_ble_eq_true rfl,rfl,rfl⟩)|((with_reducible first|refine Tr.ck ?_ ?_|apply Tr.xSome|apply Tr.xCells);·first|rfl|omega|(simp only[gnd] at hb;omega))|((with_reducible refine Tr.same ?_ ?_);·first|exact sameV_sl _ _ _|exact sameV_ptr _|exact sameV_int _ _|exact sameV_bool _|exact sameV_str _)|((with_reducible apply Tr.xCellsB);·exact⟨Nat.le_of_ble_eq_true rfl,rfl⟩)|((with_reducible apply Tr.asBytes);·exact bytesN1_byteCells _)|(refine Tr.some fun _=>?_;exact⟨rfl,rfl⟩)|fail)
    refine Tr.bnd (Tr.condT rfl ?_)
    (repeat' first|(with_reducible first|refine Ga ?_|refine Gn fun b h=>?_|refine Tr.xFits ?_|rintro px rfl|refine fun(h:H)=>?_|intro hb)|((with_reducible first|apply Gb|apply Gc|apply Gd|apply Ge|apply Gf|apply Gg|apply Gh|apply Gi);·first|rfl|assumption)|((with_reducible first|apply Gj|apply Gk|apply Gl|apply Gm);·first|assumption|rfl)|((with_reducible apply Tr.xV);·exact⟨Nat.le_of_ble_eq_true rfl,rfl,rfl⟩)|((with_reducible apply Tr.xAgg);·exact⟨Nat.le_of_ble_eq_true rfl,rfl⟩)|((with_reducible apply Tr.xPAgg);·exact⟨Nat.le_of_ble_eq_true rfl,rfl,rfl⟩)|((with_reducible first|refine Tr.ck ?_ ?_|apply Tr.xSome|apply Tr.xCells);·first|rfl|omega|(simp only[gnd] at hb;omega))|((with_reducible refine Tr.same ?_ ?_);·first|exact sameV_sl _ _ _|exact sameV_ptr _|exact sameV_int _ _|exact sameV_bool _|exact sameV_str _)|((with_reducible apply Tr.xCellsB);·exact⟨Nat.le_of_ble_eq_true rfl,rfl⟩)|((with_reducible apply Tr.asBytes);·exact bytesN1_byteCells _)|(refine Tr.some fun _=>?_;exact⟨rfl,rfl⟩)|fail)
    refine Tr.some fun o => (?_ : Tr _ _ _ _) o; (try simp only[nrm,nrmL,aSome_some,Nat.reduceAdd,Nat.reduceMul,Int.reduceToNat])
    refine Tr.some fun o => (?_ : Tr _ _ _ _) o; (try simp only[nrm,nrmL,aSome_some,Nat.reduceAdd,Nat.reduceMul,Int.reduceToNat])
    refine Tr.condF rfl ?_
    (repeat' first|(with_reducible first|refine Ga ?_|refine Gn fun b h=>?_|refine Tr.xFits ?_|rintro px rfl|refine fun(h:H)=>?_|intro hb)|((with_reducible first|apply Gb|apply Gc|apply Gd|apply Ge|apply Gf|apply Gg|apply Gh|apply Gi);·first|rfl|assumption)|((with_reducible first|apply Gj|apply Gk|apply Gl|apply Gm);·first|assumption|rfl)|((with_reducible apply Tr.xV);·exact⟨Nat.le_of_ble_eq_true rfl,rfl,rfl⟩)|((with_reducible apply Tr.xAgg);·exact⟨Nat.le_of_ble_eq_true rfl,rfl⟩)|((with_reducible apply Tr.xPAgg);·exact⟨Nat.le_of_ble_eq_true rfl,rfl,rfl⟩)|((with_reducible first|refine Tr.ck ?_ ?_|apply Tr.xSome|apply Tr.xCells);·first|rfl|omega|(simp only[gnd] at hb;omega))|((with_reducible refine Tr.same ?_ ?_);·first|exact sameV_sl _ _ _|exact sameV_ptr _|exact sameV_int _ _|exact sameV_bool _|exact sameV_str _)|((with_reducible apply Tr.xCellsB);·exact⟨Nat.le_of_ble_eq_true rfl,rfl⟩)|((with_reducible apply Tr.asBytes);·exact bytesN1_byteCells _)|(refine Tr.some fun _=>?_;exact⟨rfl,rfl⟩)|fail)
    refine Tr.condF (by simp) ?_
    rw [e1]
    refine Tr.xRun (next S (ok.up (by omega) (by omega)) fo) ?_; rintro _ h rfl
    rfl
  | succ m ih =>
    intro j hm hj hb
    have hlt : j < u.length := by omega
    have hx : u[j]? = some u[j] := List.getElem?_eq_getElem hlt
    have hx2 := fo.bits u (List.mem_of_getElem? hu) _ (List.getElem_mem hlt)
    generalize u[j] = x at hx hx2
    have hg : (flags S.used)[(e % 2).toNat * 8 + j]? = some (.bool (decide (x ≠ 0))) := by
      rw [flags, flat_get flagRow_len hu (by omega), flagRow_get u j (by omega), List.getD_eq_getElem?_getD, hx]; rfl
    have e2 : IntKind.wrap .i64 ((j : Int) + 1) = ((j + 1 : Nat) : Int) := by rw [wrap_eq]; omega
    refine CtJ.of k_law8_KernFrames fun h r => Tr.eq (e_law8_KernFrames_L2 ..) ?_; (try simp only[nrm,nrmL,aSome_some,Nat.reduceAdd,Nat.reduceMul,Int.reduceToNat])
    (repeat' first|(with_reducible first|refine Ga ?_|refine Gn fun b h=>?_|refine Tr.xFits ?_|rintro px rfl|refine fun(h:H)=>?_|intro hb)|((with_reducible first|apply Gb|apply Gc|apply Gd|apply Ge|apply Gf|apply Gg|apply Gh|apply Gi);·first|rfl|assumption)|((with_reducible first|apply Gj|apply Gk|apply Gl|apply Gm);·first|assumption|rfl)|((with_reducible apply Tr.xV);·exact⟨Nat.le_of_ble_eq_true rfl,rfl,rfl⟩)|((with_reducible apply Tr.xAgg);·exact⟨Nat.le_of_ble_eq_true rfl,rfl⟩)|((with_reducible apply Tr.xPAgg);·exact⟨Nat.le_of_ble_eq_true rfl,rfl,rfl⟩)|((with_reducible first|refine Tr.ck ?_ ?_|apply Tr.xSome|apply Tr.xCells);·first|rfl|omega|(simp only[gnd] at hb;omega))|((with_reducible refine Tr.same ?_ ?_);·first|exact sameV_sl _ _ _|exact sameV_ptr _|exact sameV_int _ _|exact sameV_bool _|exact sameV_str _)|((with_reducible apply Tr.xCellsB);·exact⟨Nat.le_of_ble_eq_true rfl,rfl⟩)|((with_reducible apply Tr.asBytes);·exact bytesN1_byteCells _)|(refine Tr.some fun _=>?_;exact⟨rfl,rfl⟩)|fail)
    refine Tr.andG (c := decide (x ≠ 0)) (fun hb => ?_) ?_
    · rw [Int.toNat_natCast]
      (repeat' first|(with_reducible first|refine Ga ?_|refine Gn fun b h=>?_|apply Tr.andG|apply Tr.orG|refine Tr.xFits ?_|rintro px rfl|refine fun(h:H)=>?_|intro hb)|((with_reducible first|apply Gb|apply Gc|apply Gd|apply Ge|apply Gf|apply Gg|apply Gh|apply Gi);·first|rfl|assumption)|((with_reducible first|apply Gj|apply Gk|apply Gl|apply Gm);·first|assumption|rfl)|((with_reducible apply Tr.xV);·exact⟨Nat.le_of_ble_eq_true rfl,rfl,rfl⟩)|((with_reducible apply Tr.xAgg);·exact⟨Nat.le_of_ble_eq_true rfl,rfl⟩)|((with_reducible apply Tr.xPAgg);·exact⟨Nat.le_of_ble_eq_true rfl,rfl,rfl⟩)|((with_reducible first|refine Tr.ck ?_ ?_|apply Tr.xSome|apply Tr.xCells);·first|rfl|omega|(simp only[gnd] at hb;omega))|((with_reducible refine Tr.same ?_ ?_);·first|exact sameV_sl _ _ _|exact sameV_ptr _|exact sameV_int _ _|exact sameV_bool _|exact sameV_str _)|((with_reducible apply Tr.xCellsB);·exact⟨Nat.le_of_ble_eq_true rfl,rfl⟩)|((with_reducible apply Tr.asBytes);·exact bytesN1_byteCells _)|(refine Tr.some fun _=>?_;exact⟨rfl,rfl⟩)|fail)
    by_cases hx0 : x = 0
    · subst hx0
      have hix : indexV 0 0 u = j := indexV_at hx hb
      have hal : qAlloc S.used (e % 2) = (((j : Int), 0), S.used.set (e % 2).toNat (u.set j 1)) := by
        unfold qAlloc idx; rw [if_pos (by omega), hu]; simp only [hix]; rw [if_neg (by omega), Int.toNat_natCast]
      have hans : kAns S e ⟨6, 0, 0, 0, 0, 0, []⟩ = ((0, (j : Int), []), putUsed S (S.used.set (e % 2).toNat (u.set j 1))) := by
        rw [kAns_alloc S e (by rw [fo.envs]; exact he), envOf_fr fo he, hal]
      have ok2 := kAns_ok ok (by omega) e ⟨6, 0, 0, 0, 0, 0, []⟩
      rw [hans] at ok2
      have fo2 : FrOk fs (putUsed S (S.used.set (e % 2).toNat (u.set j 1))) := fo.put hu (by simp) (fun y hy => by
        rcases List.mem_or_eq_of_mem_set hy with h | rfl
        · exact fo.bits u (List.mem_of_getElem? hu) y h
        · exact .inr rfl)
      have hfl : (flags S.used).set ((e % 2).toNat * 8 + j) (.bool true) = flags (putUsed S (S.used.set (e % 2).toNat (u.set j 1))).used :=
        flat_set1 flagRow_len hu (by omega) (by rw [flagRow_set _ _ _ hlt]; rfl)
      refine Tr.condF (by simp) ?_
      refine Tr.xCall (ct_kDo0 k S (2 * i) ok (by omega) e 6 0 0 0 0 0 (by decide)) ?_; rintro _ h ⟨x2, d2, rfl, o⟩ <;> (refine (?_ : Tr _ _ _ _) o; (try simp only[nrm,nrmL,aSome_some,Nat.reduceAdd,Nat.reduceMul,Int.reduceToNat]); (repeat' first|(with_reducible first|refine Ga ?_|refine Gn fun b h=>?_|refine Tr.xFits ?_|rintro px rfl|refine fun(h:H)=>?_|intro hb)|((with_reducible first|apply Gb|apply Gc|apply Gd|apply Ge|apply Gf|apply Gg|apply Gh|apply Gi);·first|rfl|assumption)|((with_reducible first|apply Gj|apply Gk|apply Gl|apply Gm);·first|assumption|rfl)|((with_reducible apply Tr.xV);·exact⟨Nat.le_of_ble_eq_true rfl,rfl,rfl⟩)|((with_reducible apply Tr.xAgg);·exact⟨Nat.le_of_ble_eq_true rfl,rfl⟩)|((with_reducible apply Tr.xPAgg);·exact⟨Nat.le_of_ble_eq_true rfl,rfl,rfl⟩)|((with_reducible first|refine Tr.ck ?_ ?_|apply Tr.xSome|apply Tr.xCells);·first|rfl|omega|(simp only[gnd] at hb;omega))|((with_reducible refine Tr.same ?_ ?_);·first|exact sameV_sl _ _ _|exact sameV_ptr _|exact sameV_int _ _|exact sameV_bool _|exact sameV_str _)|((with_reducible apply Tr.xCellsB);·exact⟨Nat.le_of_ble_eq_true rfl,rfl⟩)|((with_reducible apply Tr.asBytes);·exact bytesN1_byteCells _)|(refine Tr.some fun _=>?_;exact⟨rfl,rfl⟩)|fail))
      rw [hans]
      (repeat' first|(with_reducible first|refine Ga ?_|refine Gn fun b h=>?_|refine Tr.xFits ?_|rintro px rfl|refine fun(h:H)=>?_|intro hb)|((with_reducible first|apply Gb|apply Gc|apply Gd|apply Ge|apply Gf|apply Gg|apply Gh|apply Gi);·first|rfl|assumption)|((with_reducible first|apply Gj|apply Gk|apply Gl|apply Gm);·first|assumption|rfl)|((with_reducible apply Tr.xV);·exact⟨Nat.le_of_ble_eq_true rfl,rfl,rfl⟩)|((with_reducible apply Tr.xAgg);·exact⟨Nat.le_of_ble_eq_true rfl,rfl⟩)|((with_reducible apply Tr.xPAgg);·exact⟨Nat.le_of_ble_eq_true rfl,rfl,rfl⟩)|((with_reducible first|refine Tr.ck ?_ ?_|apply Tr.xSome|apply Tr.xCells);·first|rfl|omega|(simp only[gnd] at hb;omega))|((with_reducible refine Tr.same ?_ ?_);·first|exact sameV_sl _ _ _|exact sameV_ptr _|exact sameV_int _ _|exact sameV_bool _|exact sameV_str _)|((with_reducible apply Tr.xCellsB);·exact⟨Nat.le_of_ble_eq_true rfl,rfl⟩)|((with_reducible apply Tr.asBytes);·exact bytesN1_byteCells _)|(refine Tr.some fun _=>?_;exact⟨rfl,rfl⟩)|fail)
      simp only [List.length_cons, List.length_nil]
      (try simp only[nrm,nrmL,aSome_some,Nat.reduceAdd,Nat.reduceMul,Int.reduceToNat])
      (repeat' first|(with_reducible first|refine Ga ?_|refine Gn fun b h=>?_|refine Tr.xFits ?_|rintro px rfl|refine fun(h:H)=>?_|intro hb)|((with_reducible first|apply Gb|apply Gc|apply Gd|apply Ge|apply Gf|apply Gg|apply Gh|apply Gi);·first|rfl|assumption)|((with_reducible first|apply Gj|apply Gk|apply Gl|apply Gm);·first|assumption|rfl)|((with_reducible apply Tr.xV);·exact⟨Nat.le_of_ble_eq_true rfl,rfl,rfl⟩)|((with_reducible apply Tr.xAgg);·exact⟨Nat.le_of_ble_eq_true rfl,rfl⟩)|((with_reducible apply Tr.xPAgg);·exact⟨Nat.le_of_ble_eq_true rfl,rfl,rfl⟩)|((with_reducible first|refine Tr.ck ?_ ?_|apply Tr.xSome|apply Tr.xCells);·first|rfl|omega|(simp only[gnd] at hb;omega))|((with_reducible refine Tr.same ?_ ?_);·first|exact sameV_sl _ _ _|exact sameV_ptr _|exact sameV_int _ _|exact sameV_bool _|exact sameV_str _)|((with_reducible apply Tr.xCellsB);·exact⟨Nat.le_of_ble_eq_true rfl,rfl⟩)|((with_reducible apply Tr.asBytes);·exact bytesN1_byteCells _)|(refine Tr.some fun _=>?_;exact⟨rfl,rfl⟩)|fail)
      refine Tr.bnd (Tr.condF (by simp [hlt]) ?_)
      (repeat' first|(with_reducible first|refine Ga ?_|refine Gn fun b h=>?_|refine Tr.xFits ?_|rintro px rfl|refine fun(h:H)=>?_|intro hb)|((with_reducible first|apply Gb|apply Gc|apply Gd|apply Ge|apply Gf|apply Gg|apply Gh|apply Gi);·first|rfl|assumption)|((with_reducible first|apply Gj|apply Gk|apply Gl|apply Gm);·first|assumption|rfl)|((with_reducible apply Tr.xV);·exact⟨Nat.le_of_ble_eq_true rfl,rfl,rfl⟩)|((with_reducible apply Tr.xAgg);·exact⟨Nat.le_of_ble_eq_true rfl,rfl⟩)|((with_reducible apply Tr.xPAgg);·exact⟨Nat.le_of_ble_eq_true rfl,rfl,rfl⟩)|((with_reducible first|refine Tr.ck ?_ ?_|apply Tr.xSome|apply Tr.xCells);·first|rfl|omega|(simp only[gnd] at hb;omega))|((with_reducible refine Tr.same ?_ ?_);·first|exact sameV_sl _ _ _|exact sameV_ptr _|exact sameV_int _ _|exact sameV_bool _|exact sameV_str _)|((with_reducible apply Tr.xCellsB);·exact⟨Nat.le_of_ble_eq_true rfl,rfl⟩)|((with_reducible apply Tr.asBytes);·exact bytesN1_byteCells _)|(refine Tr.some fun _=>?_;exact⟨rfl,rfl⟩)|fail)
      refine Tr.bnd (Tr.condT rfl ?_)
      (repeat' first|(with_reducible first|refine Ga ?_|refine Gn fun b h=>?_|refine Tr.xFits ?_|rintro px rfl|refine fun(h:H)=>?_|intro hb)|((with_reducible first|apply Gb|apply Gc|apply Gd|apply Ge|apply Gf|apply Gg|apply Gh|apply Gi);·first|rfl|assumption)|((with_reducible first|apply Gj|apply Gk|apply Gl|apply Gm);·first|assumption|rfl)|((with_reducible apply Tr.xV);·exact⟨Nat.le_of_ble_eq_true rfl,rfl,rfl⟩)|((with_reducible apply Tr.xAgg);·exact⟨Nat.le_of_ble_eq_true rfl,rfl⟩)|((with_reducible apply Tr.xPAgg);·exact⟨Nat.le_of_ble_eq_true rfl,rfl,rfl⟩)|((with_reducible first|refine Tr.ck ?_ ?_|apply Tr.xSome|apply Tr.xCells);·first|rfl|omega|(simp only[gnd] at hb;omega))|((with_reducible refine Tr.same ?_ ?_);·first|exact sameV_sl _ _ _|exact sameV_ptr _|exact sameV_int _ _|exact sameV_bool _|exact sameV_str _)|((with_reducible apply Tr.xCellsB);·exact⟨Nat.le_of_ble_eq_true rfl,rfl⟩)|((with_reducible apply Tr.asBytes);·exact bytesN1_byteCells _)|(refine Tr.some fun _=>?_;exact⟨rfl,rfl⟩)|fail)
      refine Tr.some fun o => (?_ : Tr _ _ _ _) o; (try simp only[nrm,nrmL,aSome_some,Nat.reduceAdd,Nat.reduceMul,Int.reduceToNat])
      refine Tr.some fun o => (?_ : Tr _ _ _ _) o; (try simp only[nrm,nrmL,aSome_some,Nat.reduceAdd,Nat.reduceMul,Int.reduceToNat])
      refine Tr.bnd (Tr.condF (by simp) ?_)
      (repeat' first|(with_reducible first|refine Ga ?_|refine Gn fun b h=>?_|refine Tr.xFits ?_|rintro px rfl|refine fun(h:H)=>?_|intro hb)|((with_reducible first|apply Gb|apply Gc|apply Gd|apply Ge|apply Gf|apply Gg|apply Gh|apply Gi);·first|rfl|assumption)|((with_reducible first|apply Gj|apply Gk|apply Gl|apply Gm);·first|assumption|rfl)|((with_reducible apply Tr.xV);·exact⟨Nat.le_of_ble_eq_true rfl,rfl,rfl⟩)|((with_reducible apply Tr.xAgg);·exact⟨Nat.le_of_ble_eq_true rfl,rfl⟩)|((with_reducible apply Tr.xPAgg);·exact⟨Nat.le_of_ble_eq_true rfl,rfl,rfl⟩)|((with_reducible first|refine Tr.ck ?_ ?_|apply Tr.xSome|apply Tr.xCells);·first|rfl|omega|(simp only[gnd] at hb;omega))|((with_reducible refine Tr.same ?_ ?_);·first|exact sameV_sl _ _ _|exact sameV_ptr _|exact sameV_int _ _|exact sameV_bool _|exact sameV_str _)|((with_reducible apply Tr.xCellsB);·exact⟨Nat.le_of_ble_eq_true rfl,rfl⟩)|((with_reducible apply Tr.asBytes);·exact bytesN1_byteCells _)|(refine Tr.some fun _=>?_;exact⟨rfl,rfl⟩)|fail)
      refine Tr.bnd (Tr.condF rfl ?_)
      refine Tr.some fun o => (?_ : Tr _ _ _ _) o; (try simp only[nrm,nrmL,aSome_some,Nat.reduceAdd,Nat.reduceMul,Int.reduceToNat])
      refine Tr.some fun o => (?_ : Tr _ _ _ _) o; (try simp only[nrm,nrmL,aSome_some,Nat.reduceAdd,Nat.reduceMul,Int.reduceToNat])
      refine Tr.condF rfl ?_
      (repeat' first|(with_reducible first|refine Ga ?_|refine Gn fun b h=>?_|refine Tr.xFits ?_|rintro px rfl|refine fun(h:H)=>?_|intro hb)|((with_reducible first|apply Gb|apply Gc|apply Gd|apply Ge|apply Gf|apply Gg|apply Gh|apply Gi);·first|rfl|assumption)|((with_reducible first|apply Gj|apply Gk|apply Gl|apply Gm);·first|assumption|rfl)|((with_reducible apply Tr.xV);·exact⟨Nat.le_of_ble_eq_true rfl,rfl,rfl⟩)|((with_reducible apply Tr.xAgg);·exact⟨Nat.le_of_ble_eq_true rfl,rfl⟩)|((with_reducible apply Tr.xPAgg);·exact⟨Nat.le_of_ble_eq_true rfl,rfl,rfl⟩)|((with_reducible first|refine Tr.ck ?_ ?_|apply Tr.xSome|apply Tr.xCells);·first|rfl|omega|(simp only[gnd] at hb;omega))|((with_reducible refine Tr.same ?_ ?_);·first|exact sameV_sl _ _ _|exact sameV_ptr _|exact sameV_int _ _|exact sameV_bool _|exact sameV_str _)|((with_reducible apply Tr.xCellsB);·exact⟨Nat.le_of_ble_eq_true rfl,rfl⟩)|((with_reducible apply Tr.asBytes);·exact bytesN1_byteCells _)|(refine Tr.some fun _=>?_;exact⟨rfl,rfl⟩)|fail)
      refine Tr.condT (by simp [hlt]) ?_
      rw [Int.toNat_natCast]
      (repeat' first|(with_reducible first|refine Ga ?_|refine Gn fun b h=>?_|refine Tr.xFits ?_|rintro px rfl|refine fun(h:H)=>?_|intro hb)|((with_reducible first|apply Gb|apply Gc|apply Gd|apply Ge|apply Gf|apply Gg|apply Gh|apply Gi);·first|rfl|assumption)|((with_reducible first|apply Gj|apply Gk|apply Gl|apply Gm);·first|assumption|rfl)|((with_reducible apply Tr.xV);·exact⟨Nat.le_of_ble_eq_true rfl,rfl,rfl⟩)|((with_reducible apply Tr.xAgg);·exact⟨Nat.le_of_ble_eq_true rfl,rfl⟩)|((with_reducible apply Tr.xPAgg);·exact⟨Nat.le_of_ble_eq_true rfl,rfl,rfl⟩)|((with_reducible first|refine Tr.ck ?_ ?_|apply Tr.xSome|apply Tr.xCells);·first|rfl|omega|(simp only[gnd] at hb;omega))|((with_reducible refine Tr.same ?_ ?_);·first|exact sameV_sl _ _ _|exact sameV_ptr _|exact sameV_int _ _|exact sameV_bool _|exact sameV_str _)|((with_reducible apply Tr.xCellsB);·exact⟨Nat.le_of_ble_eq_true rfl,rfl⟩)|((with_reducible apply Tr.asBytes);·exact bytesN1_byteCells _)|(refine Tr.some fun _=>?_;exact⟨rfl,rfl⟩)|fail)
      refine Tr.xV ⟨(List.getElem?_eq_some_iff.1 hg).1, rfl, hfl⟩ fun h => ?_
      rw [e1]
      refine Tr.xRun (next (putUsed S (S.used.set (e % 2).toNat (u.set j 1))) ok2 fo2) ?_; rintro _ h rfl
      rfl
    · refine Tr.condT (by simp [hlt, hx0]) ?_
      rw [e2]
      have hb2 : ∀ (j' : Nat) (y : Int), j' < j + 1 → u[j']? = some y → y ≠ 0 := fun j' y h1 h2 => by
        by_cases hjj : j' = j
        · subst hjj; rw [hx] at h2; cases h2; exact hx0
        · exact hb j' y (by omega) h2
      refine Tr.xRun (ih (j + 1) (by omega) (by omega) hb2) ?_; rintro _ h rfl
      rfl
theorem fr_L1 (hfs : fs.length = 2) (hgs : gs.length = ops.length) : ∀ (m i : Nat) (S : KS), 80 - i = m → i ≤ 80 → KOk (2 * i) S → FrOk fs S → frGoal gs ops a c fs f1 b3 k i S := by
  intro m
  induction m using Nat.strongRecOn with
  | _ m ih =>
    intro i S hm hi ok fo
    unfold frGoal
    by_cases hlt2 : i < ops.length ∧ i < 80
    · obtain ⟨hlt, h80⟩ := hlt2
      have hx : ops[i]? = some ops[i] := List.getElem?_eq_getElem hlt
      obtain ⟨g, hg⟩ : ∃ g, gs[i]? = some g := ⟨gs[i], List.getElem?_eq_getElem (by omega)⟩
      generalize ops[i] = q at hx
      have c0 : (opsV gs ops)[i * 8 + 0]? = some (.int .i64 q.env) := opsV_get hg hx 0 (by omega)
      have c1 : (opsV gs ops)[i * 8 + (1 + 0)]? = some (.int .i64 q.c.op) := opsV_get hg hx 1 (by omega)
      have c4 : (opsV gs ops)[i * 8 + (1 + 3)]? = some (.int .i64 q.c.n) := opsV_get hg hx 4 (by omega)
      have e1 : IntKind.wrap .i64 ((i : Int) + 1) = ((i + 1 : Nat) : Int) := by rw [wrap_eq]; omega
      have next : ∀ S', KOk (2 * (i + 1)) S' → FrOk fs S' → frGoal gs ops a c fs f1 b3 k (i + 1) S' := fun S' k1 f1 => ih (80 - (i + 1)) (by omega) (i + 1) S' rfl (by omega) k1 f1
      obtain ⟨u, hu⟩ : ∃ u, S.used[(q.env % 4 % 2).toNat]? = some u := ⟨S.used[(q.env % 4 % 2).toNat]'(by rw [fo.two]; omega), List.getElem?_eq_getElem _⟩
      refine CtJ.of k_law8_KernFrames fun h r => Tr.eq (e_law8_KernFrames_L1 ..) ?_; (try simp only[nrm,nrmL,aSome_some,Nat.reduceAdd,Nat.reduceMul,Int.reduceToNat])
      rw [Int.toNat_natCast]
      (repeat' first|(with_reducible first|refine Ga ?_|refine Gn fun b h=>?_|refine Tr.xFits ?_|rintro px rfl|refine fun(h:H)=>?_|intro hb)|((with_reducible first|apply Gb|apply Gc|apply Gd|apply Ge|apply Gf|apply Gg|apply Gh|apply Gi);·first|rfl|assumption)|((with_reducible first|apply Gj|apply Gk|apply Gl|apply Gm);·first|assumption|rfl)|((with_reducible apply Tr.xV);·exact⟨Nat.le_of_ble_eq_true rfl,rfl,rfl⟩)|((with_reducible apply Tr.xAgg);·exact⟨Nat.le_of_ble_eq_true rfl,rfl⟩)|((with_reducible apply Tr.xPAgg);·exact⟨Nat.le_of_ble_eq_true rfl,rfl,rfl⟩)|((with_reducible first|refine Tr.ck ?_ ?_|apply Tr.xSome|apply Tr.xCells);·first|rfl|omega|(simp only[gnd] at hb;omega))|((with_reducible refine Tr.same ?_ ?_);·first|exact sameV_sl _ _ _|exact sameV_ptr _|exact sameV_int _ _|exact sameV_bool _|exact sameV_str _)|((with_reducible apply Tr.xCellsB);·exact⟨Nat.le_of_ble_eq_true rfl,rfl⟩)|((with_reducible apply Tr.asBytes);·exact bytesN1_byteCells _)|(refine Tr.some fun _=>?_;exact⟨rfl,rfl⟩)|fail)
      refine Tr.andG (c := decide ((i : Int) < 80)) (fun hb => ?_) ?_
      · (repeat' first|(with_reducible first|refine Ga ?_|refine Gn fun b h=>?_|apply Tr.andG|apply Tr.orG|refine Tr.xFits ?_|rintro px rfl|refine fun(h:H)=>?_|intro hb)|((with_reducible first|apply Gb|apply Gc|apply Gd|apply Ge|apply Gf|apply Gg|apply Gh|apply Gi);·first|rfl|assumption)|((with_reducible first|apply Gj|apply Gk|apply Gl|apply Gm);·first|assumption|rfl)|((with_reducible apply Tr.xV);·exact⟨Nat.le_of_ble_eq_true rfl,rfl,rfl⟩)|((with_reducible apply Tr.xAgg);·exact⟨Nat.le_of_ble_eq_true rfl,rfl⟩)|((with_reducible apply Tr.xPAgg);·exact⟨Nat.le_of_ble_eq_true rfl,rfl,rfl⟩)|((with_reducible first|refine Tr.ck ?_ ?_|apply Tr.xSome|apply Tr.xCells);·first|rfl|omega|(simp only[gnd] at hb;omega))|((with_reducible refine Tr.same ?_ ?_);·first|exact sameV_sl _ _ _|exact sameV_ptr _|exact sameV_int _ _|exact sameV_bool _|exact sameV_str _)|((with_reducible apply Tr.xCellsB);·exact⟨Nat.le_of_ble_eq_true rfl,rfl⟩)|((with_reducible apply Tr.asBytes);·exact bytesN1_byteCells _)|(refine Tr.some fun _=>?_;exact⟨rfl,rfl⟩)|fail)
      refine Tr.condT (by simp; omega) ?_
      (repeat' first|(with_reducible first|refine Ga ?_|refine Gn fun b h=>?_|refine Tr.xFits ?_|rintro px rfl|refine fun(h:H)=>?_|intro hb)|((with_reducible first|apply Gb|apply Gc|apply Gd|apply Ge|apply Gf|apply Gg|apply Gh|apply Gi);·first|rfl|assumption)|((with_reducible first|apply Gj|apply Gk|apply Gl|apply Gm);·first|assumption|rfl)|((with_reducible apply Tr.xV);·exact⟨Nat.le_of_ble_eq_true rfl,rfl,rfl⟩)|((with_reducible apply Tr.xAgg);·exact⟨Nat.le_of_ble_eq_true rfl,rfl⟩)|((with_reducible apply Tr.xPAgg);·exact⟨Nat.le_of_ble_eq_true rfl,rfl,rfl⟩)|((with_reducible first|refine Tr.ck ?_ ?_|apply Tr.xSome|apply Tr.xCells);·first|rfl|omega|(simp only[gnd] at hb;omega))|((with_reducible refine Tr.same ?_ ?_);·first|exact sameV_sl _ _ _|exact sameV_ptr _|exact sameV_int _ _|exact sameV_bool _|exact sameV_str _)|((with_reducible apply Tr.xCellsB);·exact⟨Nat.le_of_ble_eq_true rfl,rfl⟩)|((with_reducible apply Tr.asBytes);·exact bytesN1_byteCells _)|(refine Tr.some fun _=>?_;exact⟨rfl,rfl⟩)|fail)
      rw [bitA_1, bitA_3, bitA_1]
      by_cases h2 : q.c.op % 2 = 0
      · refine Tr.condT (by simpa using h2) ?_
        refine Tr.xRun (fr_L2 gs ops (some px) c fs f1 b3 k hfs i hi S ok fo next (q.env % 4) (by omega) u hu _ 0 rfl (by omega) (fun j' x h => by omega)) ?_; rintro _ h rfl
        rfl
      refine Tr.condF (by simpa using h2) ?_
      (repeat' first|(with_reducible first|refine Ga ?_|refine Gn fun b h=>?_|refine Tr.xFits ?_|rintro px rfl|refine fun(h:H)=>?_|intro hb)|((with_reducible first|apply Gb|apply Gc|apply Gd|apply Ge|apply Gf|apply Gg|apply Gh|apply Gi);·first|rfl|assumption)|((with_reducible first|apply Gj|apply Gk|apply Gl|apply Gm);·first|assumption|rfl)|((with_reducible apply Tr.xV);·exact⟨Nat.le_of_ble_eq_true rfl,rfl,rfl⟩)|((with_reducible apply Tr.xAgg);·exact⟨Nat.le_of_ble_eq_true rfl,rfl⟩)|((with_reducible apply Tr.xPAgg);·exact⟨Nat.le_of_ble_eq_true rfl,rfl,rfl⟩)|((with_reducible first|refine Tr.ck ?_ ?_|apply Tr.xSome|apply Tr.xCells);·first|rfl|omega|(simp only[gnd] at hb;omega))|((with_reducible refine Tr.same ?_ ?_);·first|exact sameV_sl _ _ _|exact sameV_ptr _|exact sameV_int _ _|exact sameV_bool _|exact sameV_str _)|((with_reducible apply Tr.xCellsB);·exact⟨Nat.le_of_ble_eq_true rfl,rfl⟩)|((with_reducible apply Tr.asBytes);·exact bytesN1_byteCells _)|(refine Tr.some fun _=>?_;exact⟨rfl,rfl⟩)|fail)
      simp only [bitA_7]
      have ok2 := kAns_ok ok (by omega) (q.env % 4) ⟨7, 0, 0, q.c.n % 8, 0, 0, []⟩
      refine Tr.xCall (ct_kDo0 k S (2 * i) ok (by omega) (q.env % 4) 7 0 0 (q.c.n % 8) 0 0 (by decide)) ?_; rintro _ h ⟨x2, d2, rfl, o⟩ <;> (refine (?_ : Tr _ _ _ _) o; (try simp only[nrm,nrmL,aSome_some,Nat.reduceAdd,Nat.reduceMul,Int.reduceToNat]); (repeat' first|(with_reducible first|refine Ga ?_|refine Gn fun b h=>?_|refine Tr.xFits ?_|rintro px rfl|refine fun(h:H)=>?_|intro hb)|((with_reducible first|apply Gb|apply Gc|apply Gd|apply Ge|apply Gf|apply Gg|apply Gh|apply Gi);·first|rfl|assumption)|((with_reducible first|apply Gj|apply Gk|apply Gl|apply Gm);·first|assumption|rfl)|((with_reducible apply Tr.xV);·exact⟨Nat.le_of_ble_eq_true rfl,rfl,rfl⟩)|((with_reducible apply Tr.xAgg);·exact⟨Nat.le_of_ble_eq_true rfl,rfl⟩)|((with_reducible apply Tr.xPAgg);·exact⟨Nat.le_of_ble_eq_true rfl,rfl,rfl⟩)|((with_reducible first|refine Tr.ck ?_ ?_|apply Tr.xSome|apply Tr.xCells);·first|rfl|omega|(simp only[gnd] at hb;omega))|((with_reducible refine Tr.same ?_ ?_);·first|exact sameV_sl _ _ _|exact sameV_ptr _|exact sameV_int _ _|exact sameV_bool _|exact sameV_str _)|((with_reducible apply Tr.xCellsB);·exact⟨Nat.le_of_ble_eq_true rfl,rfl⟩)|((with_reducible apply Tr.asBytes);·exact bytesN1_byteCells _)|(refine Tr.some fun _=>?_;exact⟨rfl,rfl⟩)|fail))
      simp only [List.length_cons, List.length_nil]
      (try simp only[nrm,nrmL,aSome_some,Nat.reduceAdd,Nat.reduceMul,Int.reduceToNat])
      rcases fr_free fo (e := q.env % 4) (n := q.c.n % 8) (by omega) (by omega) hu with ⟨S2, hans, fo2, hget, hset⟩ | ⟨hans, hget, hset⟩
      · rw [hans] at ok2 ⊢
        (repeat' first|(with_reducible first|refine Ga ?_|refine Gn fun b h=>?_|refine Tr.xFits ?_|rintro px rfl|refine fun(h:H)=>?_|intro hb)|((with_reducible first|apply Gb|apply Gc|apply Gd|apply Ge|apply Gf|apply Gg|apply Gh|apply Gi);·first|rfl|assumption)|((with_reducible first|apply Gj|apply Gk|apply Gl|apply Gm);·first|assumption|rfl)|((with_reducible apply Tr.xV);·exact⟨Nat.le_of_ble_eq_true rfl,rfl,rfl⟩)|((with_reducible apply Tr.xAgg);·exact⟨Nat.le_of_ble_eq_true rfl,rfl⟩)|((with_reducible apply Tr.xPAgg);·exact⟨Nat.le_of_ble_eq_true rfl,rfl,rfl⟩)|((with_reducible first|refine Tr.ck ?_ ?_|apply Tr.xSome|apply Tr.xCells);·first|rfl|omega|(simp only[gnd] at hb;omega))|((with_reducible refine Tr.same ?_ ?_);·first|exact sameV_sl _ _ _|exact sameV_ptr _|exact sameV_int _ _|exact sameV_bool _|exact sameV_str _)|((with_reducible apply Tr.xCellsB);·exact⟨Nat.le_of_ble_eq_true rfl,rfl⟩)|((with_reducible apply Tr.asBytes);·exact bytesN1_byteCells _)|(refine Tr.some fun _=>?_;exact⟨rfl,rfl⟩)|fail)
        refine Tr.bnd (Tr.condF rfl ?_)
        (repeat' first|(with_reducible first|refine Ga ?_|refine Gn fun b h=>?_|refine Tr.xFits ?_|rintro px rfl|refine fun(h:H)=>?_|intro hb)|((with_reducible first|apply Gb|apply Gc|apply Gd|apply Ge|apply Gf|apply Gg|apply Gh|apply Gi);·first|rfl|assumption)|((with_reducible first|apply Gj|apply Gk|apply Gl|apply Gm);·first|assumption|rfl)|((with_reducible apply Tr.xV);·exact⟨Nat.le_of_ble_eq_true rfl,rfl,rfl⟩)|((with_reducible apply Tr.xAgg);·exact⟨Nat.le_of_ble_eq_true rfl,rfl⟩)|((with_reducible apply Tr.xPAgg);·exact⟨Nat.le_of_ble_eq_true rfl,rfl,rfl⟩)|((with_reducible first|refine Tr.ck ?_ ?_|apply Tr.xSome|apply Tr.xCells);·first|rfl|omega|(simp only[gnd] at hb;omega))|((with_reducible refine Tr.same ?_ ?_);·first|exact sameV_sl _ _ _|exact sameV_ptr _|exact sameV_int _ _|exact sameV_bool _|exact sameV_str _)|((with_reducible apply Tr.xCellsB);·exact⟨Nat.le_of_ble_eq_true rfl,rfl⟩)|((with_reducible apply Tr.asBytes);·exact bytesN1_byteCells _)|(refine Tr.some fun _=>?_;exact⟨rfl,rfl⟩)|fail)
        refine Tr.bnd (Tr.condF rfl ?_)
        refine Tr.some fun o => (?_ : Tr _ _ _ _) o; (try simp only[nrm,nrmL,aSome_some,Nat.reduceAdd,Nat.reduceMul,Int.reduceToNat])
        refine Tr.some fun o => (?_ : Tr _ _ _ _) o; (try simp only[nrm,nrmL,aSome_some,Nat.reduceAdd,Nat.reduceMul,Int.reduceToNat])
        refine Tr.condF rfl ?_
        (repeat' first|(with_reducible first|refine Ga ?_|refine Gn fun b h=>?_|refine Tr.xFits ?_|rintro px rfl|refine fun(h:H)=>?_|intro hb)|((with_reducible first|apply Gb|apply Gc|apply Gd|apply Ge|apply Gf|apply Gg|apply Gh|apply Gi);·first|rfl|assumption)|((with_reducible first|apply Gj|apply Gk|apply Gl|apply Gm);·first|assumption|rfl)|((with_reducible apply Tr.xV);·exact⟨Nat.le_of_ble_eq_true rfl,rfl,rfl⟩)|((with_reducible apply Tr.xAgg);·exact⟨Nat.le_of_ble_eq_true rfl,rfl⟩)|((with_reducible apply Tr.xPAgg);·exact⟨Nat.le_of_ble_eq_true rfl,rfl,rfl⟩)|((with_reducible first|refine Tr.ck ?_ ?_|apply Tr.xSome|apply Tr.xCells);·first|rfl|omega|(simp only[gnd] at hb;omega))|((with_reducible refine Tr.same ?_ ?_);·first|exact sameV_sl _ _ _|exact sameV_ptr _|exact sameV_int _ _|exact sameV_bool _|exact sameV_str _)|((with_reducible apply Tr.xCellsB);·exact⟨Nat.le_of_ble_eq_true rfl,rfl⟩)|((with_reducible apply Tr.asBytes);·exact bytesN1_byteCells _)|(refine Tr.some fun _=>?_;exact⟨rfl,rfl⟩)|fail)
        refine Tr.xV ⟨(List.getElem?_eq_some_iff.1 hget).1, rfl, hset⟩ fun h => ?_
        rw [e1]
        refine Tr.xRun (next S2 ok2 fo2) ?_; rintro _ h rfl
        rfl
      · rw [hans] at ok2 ⊢
        (repeat' first|(with_reducible first|refine Ga ?_|refine Gn fun b h=>?_|refine Tr.xFits ?_|rintro px rfl|refine fun(h:H)=>?_|intro hb)|((with_reducible first|apply Gb|apply Gc|apply Gd|apply Ge|apply Gf|apply Gg|apply Gh|apply Gi);·first|rfl|assumption)|((with_reducible first|apply Gj|apply Gk|apply Gl|apply Gm);·first|assumption|rfl)|((with_reducible apply Tr.xV);·exact⟨Nat.le_of_ble_eq_true rfl,rfl,rfl⟩)|((with_reducible apply Tr.xAgg);·exact⟨Nat.le_of_ble_eq_true rfl,rfl⟩)|((with_reducible apply Tr.xPAgg);·exact⟨Nat.le_of_ble_eq_true rfl,rfl,rfl⟩)|((with_reducible first|refine Tr.ck ?_ ?_|apply Tr.xSome|apply Tr.xCells);·first|rfl|omega|(simp only[gnd] at hb;omega))|((with_reducible refine Tr.same ?_ ?_);·first|exact sameV_sl _ _ _|exact sameV_ptr _|exact sameV_int _ _|exact sameV_bool _|exact sameV_str _)|((with_reducible apply Tr.xCellsB);·exact⟨Nat.le_of_ble_eq_true rfl,rfl⟩)|((with_reducible apply Tr.asBytes);·exact bytesN1_byteCells _)|(refine Tr.some fun _=>?_;exact⟨rfl,rfl⟩)|fail)
        refine Tr.bnd (Tr.condF rfl ?_)
        (repeat' first|(with_reducible first|refine Ga ?_|refine Gn fun b h=>?_|refine Tr.xFits ?_|rintro px rfl|refine fun(h:H)=>?_|intro hb)|((with_reducible first|apply Gb|apply Gc|apply Gd|apply Ge|apply Gf|apply Gg|apply Gh|apply Gi);·first|rfl|assumption)|((with_reducible first|apply Gj|apply Gk|apply Gl|apply Gm);·first|assumption|rfl)|((with_reducible apply Tr.xV);·exact⟨Nat.le_of_ble_eq_true rfl,rfl,rfl⟩)|((with_reducible apply Tr.xAgg);·exact⟨Nat.le_of_ble_eq_true rfl,rfl⟩)|((with_reducible apply Tr.xPAgg);·exact⟨Nat.le_of_ble_eq_true rfl,rfl,rfl⟩)|((with_reducible first|refine Tr.ck ?_ ?_|apply Tr.xSome|apply Tr.xCells);·first|rfl|omega|(simp only[gnd] at hb;omega))|((with_reducible refine Tr.same ?_ ?_);·first|exact sameV_sl _ _ _|exact sameV_ptr _|exact sameV_int _ _|exact sameV_bool _|exact sameV_str _)|((with_reducible apply Tr.xCellsB);·exact⟨Nat.le_of_ble_eq_true rfl,rfl⟩)|((with_reducible apply Tr.asBytes);·exact bytesN1_byteCells _)|(refine Tr.some fun _=>?_;exact⟨rfl,rfl⟩)|fail)
        refine Tr.bnd (Tr.condT rfl ?_)
        (repeat' first|(with_reducible first|refine Ga ?_|refine Gn fun b h=>?_|refine Tr.xFits ?_|rintro px rfl|refine fun(h:H)=>?_|intro hb)|((with_reducible first|apply Gb|apply Gc|apply Gd|apply Ge|apply Gf|apply Gg|apply Gh|apply Gi);·first|rfl|assumption)|((with_reducible first|apply Gj|apply Gk|apply Gl|apply Gm);·first|assumption|rfl)|((with_reducible apply Tr.xV);·exact⟨Nat.le_of_ble_eq_true rfl,rfl,rfl⟩)|((with_reducible apply Tr.xAgg);·exact⟨Nat.le_of_ble_eq_true rfl,rfl⟩)|((with_reducible apply Tr.xPAgg);·exact⟨Nat.le_of_ble_eq_true rfl,rfl,rfl⟩)|((with_reducible first|refine Tr.ck ?_ ?_|apply Tr.xSome|apply Tr.xCells);·first|rfl|omega|(simp only[gnd] at hb;omega))|((with_reducible refine Tr.same ?_ ?_);·first|exact sameV_sl _ _ _|exact sameV_ptr _|exact sameV_int _ _|exact sameV_bool _|exact sameV_str _)|((with_reducible apply Tr.xCellsB);·exact⟨Nat.le_of_ble_eq_true rfl,rfl⟩)|((with_reducible apply Tr.asBytes);·exact bytesN1_byteCells _)|(refine Tr.some fun _=>?_;exact⟨rfl,rfl⟩)|fail)
        refine Tr.some fun o => (?_ : Tr _ _ _ _) o; (try simp only[nrm,nrmL,aSome_some,Nat.reduceAdd,Nat.reduceMul,Int.reduceToNat])
        refine Tr.some fun o => (?_ : Tr _ _ _ _) o; (try simp only[nrm,nrmL,aSome_some,Nat.reduceAdd,Nat.reduceMul,Int.reduceToNat])
        refine Tr.condF rfl ?_
        (repeat' first|(with_reducible first|refine Ga ?_|refine Gn fun b h=>?_|refine Tr.xFits ?_|rintro px rfl|refine fun(h:H)=>?_|intro hb)|((with_reducible first|apply Gb|apply Gc|apply Gd|apply Ge|apply Gf|apply Gg|apply Gh|apply Gi);·first|rfl|assumption)|((with_reducible first|apply Gj|apply Gk|apply Gl|apply Gm);·first|assumption|rfl)|((with_reducible apply Tr.xV);·exact⟨Nat.le_of_ble_eq_true rfl,rfl,rfl⟩)|((with_reducible apply Tr.xAgg);·exact⟨Nat.le_of_ble_eq_true rfl,rfl⟩)|((with_reducible apply Tr.xPAgg);·exact⟨Nat.le_of_ble_eq_true rfl,rfl,rfl⟩)|((with_reducible first|refine Tr.ck ?_ ?_|apply Tr.xSome|apply Tr.xCells);·first|rfl|omega|(simp only[gnd] at hb;omega))|((with_reducible refine Tr.same ?_ ?_);·first|exact sameV_sl _ _ _|exact sameV_ptr _|exact sameV_int _ _|exact sameV_bool _|exact sameV_str _)|((with_reducible apply Tr.xCellsB);·exact⟨Nat.le_of_ble_eq_true rfl,rfl⟩)|((with_reducible apply Tr.asBytes);·exact bytesN1_byteCells _)|(refine Tr.some fun _=>?_;exact⟨rfl,rfl⟩)|fail)
        refine Tr.xV ⟨(List.getElem?_eq_some_iff.1 hget).1, rfl, hset⟩ fun h => ?_
        rw [e1]
        refine Tr.xRun (next S ok2 fo) ?_; rintro _ h rfl
        rfl
    · refine CtJ.of k_law8_KernFrames fun h r => Tr.eq (e_law8_KernFrames_L1 ..) ?_; (try simp only[nrm,nrmL,aSome_some,Nat.reduceAdd,Nat.reduceMul,Int.reduceToNat])
      refine Tr.andG (c := decide ((i : Int) < 80)) (fun hb => ?_) ?_
      · (repeat' first|(with_reducible first|refine Ga ?_|refine Gn fun b h=>?_|apply Tr.andG|apply Tr.orG|refine Tr.xFits ?_|rintro px rfl|refine fun(h:H)=>?_|intro hb)|((with_reducible first|apply Gb|apply Gc|apply Gd|apply Ge|apply Gf|apply Gg|apply Gh|apply Gi);·first|rfl|assumption)|((with_reducible first|apply Gj|apply Gk|apply Gl|apply Gm);·first|assumption|rfl)|((with_reducible apply Tr.xV);·exact⟨Nat.le_of_ble_eq_true rfl,rfl,rfl⟩)|((with_reducible apply Tr.xAgg);·exact⟨Nat.le_of_ble_eq_true rfl,rfl⟩)|((with_reducible apply Tr.xPAgg);·exact⟨Nat.le_of_ble_eq_true rfl,rfl,rfl⟩)|((with_reducible first|refine Tr.ck ?_ ?_|apply Tr.xSome|apply Tr.xCells);·first|rfl|omega|(simp only[gnd] at hb;omega))|((with_reducible refine Tr.same ?_ ?_);·first|exact sameV_sl _ _ _|exact sameV_ptr _|exact sameV_int _ _|exact sameV_bool _|exact sameV_str _)|((with_reducible apply Tr.xCellsB);·exact⟨Nat.le_of_ble_eq_true rfl,rfl⟩)|((with_reducible apply Tr.asBytes);·exact bytesN1_byteCells _)|(refine Tr.some fun _=>?_;exact⟨rfl,rfl⟩)|fail)
      refine Tr.condF (by simp; omega) ?_
      refine Tr.xCall (ct_awake8) ?_; rintro _ h ⟨rfl, o⟩ <;> (refine (?_ : Tr _ _ _ _) o; (try simp only[nrm,nrmL,aSome_some,Nat.reduceAdd,Nat.reduceMul,Int.reduceToNat]); (repeat' first|(with_reducible first|refine Ga ?_|refine Gn fun b h=>?_|refine Tr.xFits ?_|rintro px rfl|refine fun(h:H)=>?_|intro hb)|((with_reducible first|apply Gb|apply Gc|apply Gd|apply Ge|apply Gf|apply Gg|apply Gh|apply Gi);·first|rfl|assumption)|((with_reducible first|apply Gj|apply Gk|apply Gl|apply Gm);·first|assumption|rfl)|((with_reducible apply Tr.xV);·exact⟨Nat.le_of_ble_eq_true rfl,rfl,rfl⟩)|((with_reducible apply Tr.xAgg);·exact⟨Nat.le_of_ble_eq_true rfl,rfl⟩)|((with_reducible apply Tr.xPAgg);·exact⟨Nat.le_of_ble_eq_true rfl,rfl,rfl⟩)|((with_reducible first|refine Tr.ck ?_ ?_|apply Tr.xSome|apply Tr.xCells);·first|rfl|omega|(simp only[gnd] at hb;omega))|((with_reducible refine Tr.same ?_ ?_);·first|exact sameV_sl _ _ _|exact sameV_ptr _|exact sameV_int _ _|exact sameV_bool _|exact sameV_str _)|((with_reducible apply Tr.xCellsB);·exact⟨Nat.le_of_ble_eq_true rfl,rfl⟩)|((with_reducible apply Tr.asBytes);·exact bytesN1_byteCells _)|(refine Tr.some fun _=>?_;exact⟨rfl,rfl⟩)|fail))
      refine Tr.some fun o => ?_
      rfl
end
end Go.EQ

set_option maxRecDepth 100000
namespace Go.EQ
open Go Go.NN Go.Proofs Go.ChangeShapes Go.WideShapes Go.RowKit
theorem globsOk : ∀ f, (cutsOf f).globs ≤ PR.globals.size := by
  intro f; unfold cutsOf; split <;> exact Nat.zero_le _
theorem mixedOk : PR.follows .mixedOrders = true := by kernel_rfl
theorem laidOk : laidOutB PR = true := by kernel_rfl
theorem ownOk : ownKnob PR.godebug = none := by kernel_rfl
end Go.EQ

set_option maxRecDepth 100000
namespace Go.EQ
open Go Go.NN Go.Proofs Go.ChangeShapes Go.WideShapes Go.RowKit
theorem callT {W : World} : ImpT PR W Y_api_Call (fun (g : Option Addr × Nat) (c : CallS) => callL c g.1 g.2) (fun g c => slC true Y_uint8 1 g.1 c.b.length g.2 (byteCells c.b)) (fun _ => True) :=
  (ImpT.struct u_api_Call (by kernel_rfl) (ImpL.cons (ImpT.int u_int) (ImpL.cons (ImpT.int u_int) (ImpL.cons (ImpT.int u_int) (ImpL.cons (ImpT.int u_int) (ImpL.cons (ImpT.int u_int) (ImpL.cons (ImpT.int u_int) (ImpL.cons (ImpT.bytes Y_uint8 u_s_uint8 u_uint8 (by kernel_rfl)) ImpL.nil)))))))).as
    fun ⟨op, cap, at_, n, to, on, b, _⟩ _ => ⟨⟨op, cap, at_, n, to, on, b⟩, trivial, fun ⟨_, _, _, _, _, _, g, _⟩ => ⟨g, rfl, fun hh r o => (((((((o.of_sl 1 rfl).of_sl 1 rfl).of_sl 1 rfl).of_sl 1 rfl).of_sl 1 rfl).of_sl 1 rfl).of_sl 0 rfl)⟩⟩
theorem opT {W : World} : ImpT PR W Y_law8_Op (fun (g : Option Addr × Nat) (o : OpS) => opL (g, o)) (fun g o => opC g o) (fun _ => True) :=
  (ImpT.struct u_law8_Op (by kernel_rfl) (ImpL.cons (ImpT.int u_int) (ImpL.cons callT ImpL.nil))).as
    fun ⟨env, c, _⟩ _ => ⟨⟨env, c⟩, trivial, fun ⟨_, g, _⟩ => ⟨g, by simp [opL], fun hh r o => (o.of_sl 1 rfl).of_sl 0 rfl⟩⟩
theorem opsT {W : World} : ImpT PR W Y_s_law8_Op (fun (g : (Option Addr × Nat) × List (Option Addr × Nat)) (ops : List OpS) => [.slice g.1.1 ops.length g.1.2])
    (fun g ops => sl [slC true Y_law8_Op 8 g.1.1 ops.length g.1.2 (opsV g.2 ops), all2 opC g.2 ops, pu (g.2.length = ops.length)]) (fun ops => ops.length ≤ maxLen ∧ ∀ o ∈ ops, True) :=
  ImpT.slice Y_law8_Op u_s_law8_Op (by kernel_rfl) (by omega) (fun g y => opL_len (g, y)) opT
end Go.EQ

set_option linter.unusedSimpArgs false
set_option linter.unusedVariables false
set_option maxRecDepth 100000
namespace Go.EQ
open Go Go.NN
def bootF1 (x y : Int) : BootS := ⟨[x, y], [0, 1, 0, 1], [], 1, []⟩
theorem bootF1_ok (x y : Int) : bootOk (bootF1 x y) = true := by
  simp [bootOk, bootF1, sizesOk, noneB, sharesOk]
theorem bootF1_small (x y : Int) : Small (bootF1 x y) := ⟨by simp [bootF1, most], by simp [bootF1], by simp [bootF1]⟩
theorem flagRow_zero (n : Nat) : flagRow (List.replicate n 0) = List.replicate 8 (.bool false) := by
  have : ∀ j, (List.replicate n (0 : Int)).getD j 0 = 0 := fun j => by
    rw [List.getD_eq_getElem?_getD, List.getElem?_replicate]; split <;> rfl
  simp only [flagRow, this]; rfl
theorem frNew (x y : Int) (hx : 0 ≤ x ∧ x < 8) (hy : 0 ≤ y ∧ y < 8) : FrOk [x, y] (kNew (bootF1 x y)) ∧ flags (kNew (bootF1 x y)).used = List.replicate 16 (.bool false) := by
  have hu : (kNew (bootF1 x y)).used = [newRow x, newRow y] := rfl
  refine ⟨⟨rfl, ?_, by rw [hu]; rfl, ?_, ?_⟩, ?_⟩
  · rw [hu]; simp only [List.map_cons, List.map_nil, List.length_replicate]
    rw [show ((min (max x 0) 64).toNat : Int) = x by omega, show ((min (max y 0) 64).toNat : Int) = y by omega]
  · rw [hu]; intro u h
    simp only [List.mem_cons, List.not_mem_nil, or_false] at h
    rcases h with rfl | rfl <;> rw [List.length_replicate] <;> omega
  · rw [hu]; intro u h z hz
    simp only [List.mem_cons, List.not_mem_nil, or_false] at h
    rcases h with rfl | rfl <;> exact .inl (List.eq_of_mem_replicate hz)
  · rw [hu]; simp only [flags, List.flatMap_cons, List.flatMap_nil, flagRow_zero]; rfl
theorem ct_KernFrames (x y : Int) (gs : List (Option Addr × Nat)) (ops : List OpS) (hgs : gs.length = ops.length) (a : Option Addr) (c : Nat) :
    Ct CALL F_law8_KernFrames [int x, int y, .slice a ops.length c] [slC true Y_law8_Op 8 a ops.length c (opsV gs ops)] fun v own => v = .bool true := by
  refine Ct.of k_law8_KernFrames rfl fun h r => Tr.eq (e_law8_KernFrames ..) ?_; (try simp only[nrm,nrmL,aSome_some,Nat.reduceAdd,Nat.reduceMul,Int.reduceToNat])
  rw [bitA_7, bitA_7]
  refine Tr.nw fun b1 h1 => ?_
  refine Tr.nw fun b2 h2 => ?_
  refine tr_asSl 0 rfl 1 4 rfl (by omega) ?_; (try simp only[nrm,nrmL,aSome_some,Nat.reduceAdd,Nat.reduceMul,Int.reduceToNat])
  refine tr_asSl 1 rfl 1 2 rfl (by omega) ?_; (try simp only[nrm,nrmL,aSome_some,Nat.reduceAdd,Nat.reduceMul,Int.reduceToNat])
  refine tr_nilSl false Y_s_int 1 (by omega) ?_
  refine tr_nilSl false Y_api_Share 5 (by omega) ?_
  refine tr_nil2 (rsC false) ?_
  refine tr_nil2 (toC false) ?_
  refine tr_callI (ct_New false (bootF1 (x % 8) (y % 8)) ⟨some ⟨b1, 0, none⟩, 2, some ⟨b2, 0, none⟩, 4, none, 0, [], none, 0, []⟩ ⟨rfl, rfl⟩ (bootF1_small _ _)) [5, 4, 3, 1, 1, 0] rfl ?_
  intro v h hv
  rw [if_pos (bootF1_ok _ _)] at hv
  obtain ⟨k, rfl, o⟩ := hv
  refine (?_ : Tr _ _ _ _) o
  (try simp only[nrm,nrmL,aSome_some,Nat.reduceAdd,Nat.reduceMul,Int.reduceToNat])
  (repeat' first|(with_reducible first|refine Ga ?_|refine Gn fun b h=>?_|apply Tr.andG|apply Tr.orG|refine Tr.xFits ?_|rintro px rfl|refine fun(h:H)=>?_|intro hb)|((with_reducible first|apply Gb|apply Gc|apply Gd|apply Ge|apply Gf|apply Gg|apply Gh|apply Gi);·first|rfl|assumption)|((with_reducible first|apply Gj|apply Gk|apply Gl|apply Gm);·first|assumption|rfl)|((with_reducible apply Tr.xV);·exact⟨Nat.le_of_ble_eq_true rfl,rfl,rfl⟩)|((with_reducible apply Tr.xAgg);·exact⟨Nat.le_of_ble_eq_true rfl,rfl⟩)|((with_reducible apply Tr.xPAgg);·exact⟨Nat.le_of_ble_eq_true rfl,rfl,rfl⟩)|((with_reducible first|refine Tr.ck ?_ ?_|apply Tr.xSome|apply Tr.xCells);·first|rfl|omega|(simp only[gnd] at hb;omega))|((with_reducible refine Tr.same ?_ ?_);·first|exact sameV_sl _ _ _|exact sameV_ptr _|exact sameV_int _ _|exact sameV_bool _|exact sameV_str _)|((with_reducible apply Tr.xCellsB);·exact⟨Nat.le_of_ble_eq_true rfl,rfl⟩)|((with_reducible apply Tr.asBytes);·exact bytesN1_byteCells _)|(refine Tr.some fun _=>?_;exact⟨rfl,rfl⟩)|fail)
  refine Tr.condF rfl ?_
  refine Tr.nw fun b3 h3 => ?_
  obtain ⟨fo, hfl⟩ := frNew (x % 8) (y % 8) (by omega) (by omega)
  have sp := fr_L1 gs ops a c [x % 8, y % 8] ⟨b1, 0, none⟩ b3 k rfl hgs 80 0 (kNew (bootF1 (x % 8) (y % 8))) rfl (by omega) (kNew_ok (bootF1_ok _ _) (bootF1_small _ _)) fo
  unfold frGoal frF at sp
  rw [hfl] at sp
  refine tr_runI sp [1, 1, 0, 5] rfl ?_
  rintro _ h rfl
  rfl
end Go.EQ

set_option maxRecDepth 100000
namespace Go.EQ
open Go Go.NN Go.Proofs Go.Proofs.Ytkoigngajoefkaa Go.ChangeShapes Go.WideShapes Go.RowKit
theorem framesCalls {H : Type} {enc : TypeId × Value → H} {W : World} {v0 v1 v2 : Value} {d0 d1 d2 : DataW H} {p0 p1 p2 : List MemPlace} {b0 : Nat} (k0 : Value.okWide PR W .any b0 Y_int v0) (k1 : Value.okWide PR W .any b0 Y_int v1) (k2 : Value.okWide PR W .any b0 Y_s_law8_Op v2)
    (h0 : DataW.Trod enc PR W 0 (fun _ => true) true Y_int v0 d0 p0) (h1 : DataW.Trod enc PR W 0 (fun _ => true) true Y_int v1 d1 p1) (h2 : DataW.Trod enc PR W 0 (fun _ => true) true Y_s_law8_Op v2 d2 p2) :
    Calls PR F_law8_KernFrames #[v0, v1, v2] W fun e W' => e = .returned (.bool true) ∧ Below W.heap.size W W' := by
  obtain ⟨x, _, i0⟩ := ImpT.argInt u_int k0 h0
  obtain ⟨y, _, i1⟩ := ImpT.argInt u_int k1 h1
  obtain ⟨ops, _, i2⟩ := (opsT (W := W)).arg (cells_slice u_s_law8_Op k2) h2
  refine ((i0.app i1).app i2).run mixedOk globsOk fun vs ps ⟨_, _, _, _, hv, hp, ⟨_, _, _, _, h3, h4, ⟨h5, h6⟩, h7, h8⟩, g, h9, h10⟩ hh r o => ?_
  subst h5; subst h6; subst h7; subst h8; subst h3; subst h4; subst h9; subst h10; subst hv; subst hp
  have hg := (o.of_sl 2 rfl).pure
  obtain ⟨v, h', e, rfl⟩ := ct_KernFrames x y g.2 ops hg g.1.1 g.1.2 hh r (o.of_sl 0 rfl)
  exact ⟨h', e⟩
theorem framesLifted (os : Os) (started : os.Started) (H : Type) (enc : TypeId × Value → H) :
    ReturnsInHanded {} Try.checked os F_law8_KernFrames .any (Rows.kernFramesSpec.pre6 enc Try.prog Try.f3 Rows.kernFramesRow.domain false) (Rows.kernFramesSpec.post enc Try.prog Try.f3 false true false false) := by
  refine returnsInHanded_of_change (C := Try.checked) ownOk started (by kernel_rfl) Try.func3
    (ChangeSpec.witness6 (enc := enc) (C := Try.checked) false ⟨#[], #[.int .i64 0, .int .i64 0, .slice none 0 0], []⟩ 8 (by kernel_rfl) (by kernel_rfl) (by kernel_rfl) (by kernel_rfl)) ?_
  intro W base args ds gs before hval hW hcnd _
  have hW' := hW
  obtain ⟨p, q, hA, hV, rfl, hfz, hnd⟩ := hW
  rw [Try.params3] at hA hval
  obtain ⟨v0, v1, v2, d0, d1, d2, p0, p1, p2, rfl, rfl, rfl, h0, h1, h2⟩ := trodAll_three hA
  refine (framesCalls (hval 0 _ v0 rfl rfl) (hval 1 _ v1 rfl rfl) (hval 2 _ v2 rfl rfl) h0 h1 h2).mono fun e W' ⟨he, hb⟩ => ?_
  subst he
  refine ⟨_, rfl, post_true laidOk ?_ rfl u_bool rfl (fun ds gs hl => ?_) hW' hb⟩
  · rw [Try.params3]; intro t ht; simp at ht; rcases ht with rfl | rfl <;> exact ⟨by kernel_rfl, of_decide_eq_true (by kernel_rfl)⟩
  · replace hl : ds.length = 3 := hl
    cases gs with
    | cons _ _ => exact .inr (by simp)
    | nil => match ds, hl with | [_, _, _], _ => exact .inl rfl
theorem KernFrames_holds : Rows.KernFramesSaid :=
  OpenClaim.holds_of_wide F_law8_KernFrames Try.f3 rfl rfl rfl rfl rfl rfl rfl ⟨rfl, rfl, rfl, rfl, rfl⟩ rfl rfl rfl rfl rfl (by kernel_rfl) Try.func3 (by kernel_rfl)
    (of_decide_eq_true (by kernel_rfl)) (by unfold Func.isWrapper; first | (rw [if_pos (by decide +kernel)]; kernel_rfl) | (rw [if_neg (by decide +kernel)]; exact ⟨rfl, rfl⟩))
    (fun os started H enc _ => framesLifted os started H enc)
end Go.EQ
