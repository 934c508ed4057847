/- TaintCloses returns true whatever it is given: a plan, whole numbers, a whole number; and the card ties the two tables that its code names to the program's text. No condition. -/
import Derived.Test.YtnkokamjidjnpaaGreatDoorMg
set_option linter.unusedVariables false
set_option linter.unusedSimpArgs false
set_option linter.unusedSectionVars false
namespace Go.EQ
set_option linter.unusedVariables false
def getB (o : List Bool) (i : Nat) : Bool := o.getD i false
def step (o : List Bool) (x : Nat × Nat) : List Bool := if (getB o x.1 || getB o x.2) = true then (o.set x.1 true).set x.2 true else o
def step2 (s : List Bool × Bool) (x : Nat × Nat) : List Bool × Bool := if (getB s.1 x.1 == getB s.1 x.2) = true then s else ((s.1.set x.1 true).set x.2 true, true)
def R (l : List (Nat × Nat)) (o : List Bool) : List Bool := l.foldl step o
def R2 (l : List (Nat × Nat)) (s : List Bool × Bool) : List Bool × Bool := l.foldl step2 s
def itR (l : List (Nat × Nat)) : Nat → List Bool → List Bool
  | 0, o => o
  | k + 1, o => itR l k (R l o)
def Fits (n : Nat) (l : List (Nat × Nat)) : Prop := ∀ x ∈ l, x.1 < n ∧ x.2 < n
theorem step_len (o : List Bool) (x : Nat × Nat) : (step o x).length = o.length := by unfold step; split <;> simp
theorem R_len (l : List (Nat × Nat)) : ∀ o, (R l o).length = o.length := by
  induction l with
  | nil => intro o; rfl
  | cons x l ih => intro o; show (R l (step o x)).length = _; rw [ih, step_len]
theorem set_same {o : List Bool} {i : Nat} (h : getB o i = true) : o.set i true = o := by
  unfold getB at h
  rw [List.getD_eq_getElem?_getD] at h
  cases hi : o[i]? with
  | none => rw [hi] at h; cases h
  | some v =>
    rw [hi] at h
    have hv : v = true := h
    subst hv
    apply List.ext_getElem?
    intro j
    by_cases hj : i = j
    · subst hj
      rw [List.getElem?_set_self (List.getElem?_eq_some_iff.1 hi).1, hi]
    · rw [List.getElem?_set_ne hj]
theorem step_both {o : List Bool} {x : Nat × Nat} (h : (getB o x.1 == getB o x.2) = true) : step o x = o := by
  unfold step
  split
  · rename_i h2
    have e := eq_of_beq h
    have h1 : getB o x.1 = true := by
      cases hx : getB o x.1
      · rw [← e, hx] at h2; cases h2
      · rfl
    rw [set_same h1, set_same (e ▸ h1)]
  · rfl
theorem step2_fst (s : List Bool × Bool) (x : Nat × Nat) : (step2 s x).1 = step s.1 x := by
  unfold step2
  split
  · rename_i h; rw [step_both h]
  · rename_i h
    unfold step
    rw [if_pos]
    cases h1 : getB s.1 x.1 <;> cases h2 : getB s.1 x.2 <;> simp_all
theorem R2_fst (l : List (Nat × Nat)) : ∀ s, (R2 l s).1 = R l s.1 := by
  induction l with
  | nil => intro s; rfl
  | cons x l ih => intro s; show (R2 l (step2 s x)).1 = R l (step s.1 x); rw [ih, step2_fst]
def cnt (o : List Bool) : Nat := o.count true
theorem cnt_set (o : List Bool) (i : Nat) : cnt o ≤ cnt (o.set i true) := by
  unfold cnt
  induction o generalizing i with
  | nil => simp
  | cons b o ih =>
    cases i with
    | zero => cases b <;> simp [List.count_cons]
    | succ i => simp only [List.set_cons_succ, List.count_cons]; have := ih i; omega
theorem cnt_set_lt (o : List Bool) (i : Nat) (hi : i < o.length) (h : getB o i = false) : cnt o < cnt (o.set i true) := by
  unfold cnt
  induction o generalizing i with
  | nil => simp at hi
  | cons b o ih =>
    cases i with
    | zero =>
      have : b = false := h
      subst this; simp [List.count_cons]
    | succ i =>
      simp only [List.set_cons_succ, List.count_cons]
      have := ih i (by simpa using hi) h
      omega
theorem step2_cnt {n : Nat} (s : List Bool × Bool) (x : Nat × Nat) (hs : s.1.length = n) (hx : x.1 < n ∧ x.2 < n) : cnt s.1 ≤ cnt (step2 s x).1 ∧ ((step2 s x).2 = true → s.2 = true ∨ cnt s.1 < cnt (step2 s x).1) := by
  unfold step2
  split
  · exact ⟨Nat.le_refl _, fun h => .inl h⟩
  · rename_i h
    have h1 := cnt_set s.1 x.1
    have h2 := cnt_set (s.1.set x.1 true) x.2
    refine ⟨Nat.le_trans h1 h2, fun _ => .inr ?_⟩
    cases ha : getB s.1 x.1 with
    | false => exact Nat.lt_of_lt_of_le (cnt_set_lt s.1 x.1 (by omega) ha) h2
    | true =>
      have hb : getB s.1 x.2 = false := by
        cases hb : getB s.1 x.2
        · rfl
        · rw [ha, hb] at h; exact absurd rfl h
      rw [set_same ha]
      exact cnt_set_lt s.1 x.2 (by omega) hb
theorem R2_cnt {n : Nat} (l : List (Nat × Nat)) (hf : Fits n l) : ∀ s : List Bool × Bool, s.1.length = n → cnt s.1 ≤ cnt (R2 l s).1 ∧ ((R2 l s).2 = true → s.2 = true ∨ cnt s.1 < cnt (R2 l s).1) := by
  induction l with
  | nil => intro s hs; exact ⟨Nat.le_refl _, fun h => .inl h⟩
  | cons x l ih =>
    intro s hs
    have h1 := step2_cnt s x hs (hf x (by simp))
    have h2 := ih (fun y hy => hf y (by simp [hy])) (step2 s x) (by rw [step2_fst, step_len]; exact hs)
    refine ⟨Nat.le_trans h1.1 h2.1, fun h => ?_⟩
    show s.2 = true ∨ cnt s.1 < cnt (R2 l (step2 s x)).1
    rcases h2.2 h with h3 | h3
    · rcases h1.2 h3 with h4 | h4
      · exact .inl h4
      · exact .inr (Nat.lt_of_lt_of_le h4 h2.1)
    · exact .inr (Nat.lt_of_le_of_lt h1.1 h3)
theorem R2_still (l : List (Nat × Nat)) : ∀ s : List Bool × Bool, (R2 l s).2 = false → s.2 = false ∧ R l s.1 = s.1 := by
  induction l with
  | nil => intro s h; exact ⟨h, rfl⟩
  | cons x l ih =>
    intro s h
    have h2 := ih (step2 s x) h
    have h3 : (getB s.1 x.1 == getB s.1 x.2) = true := by
      cases hb : (getB s.1 x.1 == getB s.1 x.2)
      · have : (step2 s x).2 = true := by unfold step2; rw [hb]; rfl
        rw [this] at h2; cases h2.1
      · rfl
    have h4 : step2 s x = s := by unfold step2; rw [if_pos h3]
    rw [h4] at h2
    refine ⟨h2.1, ?_⟩
    show R l (step s.1 x) = s.1
    rw [step_both h3]; exact h2.2
theorem itR_fix {l : List (Nat × Nat)} {o : List Bool} (h : R l o = o) : ∀ k, itR l k o = o
  | 0 => rfl
  | k + 1 => by show itR l k (R l o) = o; rw [h]; exact itR_fix h k
theorem cnt_le (o : List Bool) : cnt o ≤ o.length := List.count_le_length
theorem itR_still {n : Nat} (l : List (Nat × Nat)) (hf : Fits n l) : ∀ (m : Nat) (o : List Bool), o.length = n → n - cnt o ≤ m → R l (itR l m o) = itR l m o
  | m, o, hl, hm => by
    cases h2 : (R2 l (o, false)).2 with
    | false =>
      have h3 := (R2_still l (o, false) h2).2
      rw [itR_fix h3]; exact h3
    | true =>
      have h4 := (R2_cnt l hf (o, false) hl).2 h2
      rcases h4 with h4 | h4
      · cases h4
      · rw [R2_fst] at h4
        replace h4 : cnt o < cnt (R l o) := h4
        have h5 := cnt_le (R l o)
        rw [R_len, hl] at h5
        cases m with
        | zero => omega
        | succ m =>
          show R l (itR l m (R l o)) = itR l m (R l o)
          exact itR_still l hf m (R l o) (by rw [R_len]; exact hl) (by omega)
theorem itR_comm (l : List (Nat × Nat)) : ∀ (k : Nat) (o : List Bool), itR l k (R l o) = R l (itR l k o)
  | 0, o => rfl
  | k + 1, o => itR_comm l k (R l o)
end Go.EQ

set_option linter.unusedSimpArgs false
set_option linter.unusedVariables false
set_option maxRecDepth 10000
namespace Go.EQ
open Go Go.NN
abbrev int (n : Int) : Value := .int .i64 n
abbrev P0 (b : Nat) : Value := .pointer (some ⟨b, 0, none⟩)
def brL (x : Int × Int) : List Value := [int x.1, int x.2]
def badB (n : Int) (x : Int × Int) : Bool := decide (x.1 < 0) || decide (x.1 ≥ n) || decide (x.2 < 0) || decide (x.2 ≥ n) || (x.1 == x.2)
theorem badB_eq (n : Int) (x : Int × Int) : badB n x = true ↔ ¬ (0 ≤ x.1 ∧ x.1 < n ∧ 0 ≤ x.2 ∧ x.2 < n ∧ x.1 ≠ x.2) := by
  simp only [badB, Bool.or_eq_true, decide_eq_true_eq, beq_iff_eq, ge_iff_le]; omega
def flat (l : List (Int × Int)) : List Value := l.flatMap brL
theorem flat_len (l : List (Int × Int)) : (flat l).length = l.length * 2 := by
  induction l with
  | nil => rfl
  | cons x l ih => simp only [flat, List.flatMap_cons, List.length_append] at ih ⊢; rw [ih]; simp [brL]; omega
theorem flat_at : ∀ (l : List (Int × Int)) (i : Nat) (x : Int × Int), l[i]? = some x → ((flat l).drop (i * 2)).take 2 = brL x
  | y :: l, 0, x, h => by
    simp at h; subst h
    simp [flat, brL]
  | y :: l, i + 1, x, h => by
    have := flat_at l i x (by simpa using h)
    rw [← this]
    have e : (i + 1) * 2 = 2 + i * 2 := by omega
    rw [e, ← List.drop_drop]
    simp [flat, brL]
def planOkB (n : Nat) (l : List (Int × Int)) (lease : Int) : Bool := decide (1 ≤ n) && decide (n ≤ 4) && decide (l.length ≤ 4) && decide (1 ≤ lease) && decide (lease ≤ 1000) && !l.any (badB n)
abbrev planL (a0 : Option Addr) (n c0 : Nat) (a1 : Option Addr) (m c1 : Nat) (lease : Int) : List Value := [.slice a0 n c0, .slice a1 m c1, int lease]
theorem ct_PlanOk_L1 (b : Nat) (a0 : Option Addr) (n c0 : Nat) (a1 : Option Addr) (ro : Bool) (c1 : Nat) (l : List (Int × Int)) (lease : Int) (hl : l.length ≤ most) : ∀ (m i : Nat), l.length - i = m → i ≤ l.length →
    CtJ JUMP F_ref15_PlanOk T_ref15_PlanOk_L1 [(1, P0 b), (3, int i)] [pt b (.cells Y_api_Plan false (planL a0 n c0 a1 l.length c1 lease)), slC ro Y_api_Bridge 2 a1 l.length c1 (flat l)]
      fun v own => v = .bool (!(l.drop i).any (badB n)) ∧ own [slC ro Y_api_Bridge 2 a1 l.length c1 (flat l)] := by
  intro m
  induction m with
  | zero =>
    intro i hm hi
    refine CtJ.of k_ref15_PlanOk fun h r => Tr.eq (e_ref15_PlanOk_L1 ..) ?_; (try simp only[nrm,nrmL,aSome_some,Nat.reduceAdd,Nat.reduceMul,Int.reduceToNat])
    (repeat' first|(with_reducible first|refine Ga ?_|refine Gn fun b h=>?_|apply Tr.andG|apply Tr.orG|refine Tr.xFits ?_|rintro px rfl|refine fun(h:H)=>?_|intro hb)|((with_reducible first|apply Gb|apply Gc|apply Gd|apply Ge|apply Gf|apply Gg|apply Gh|apply Gi);·first|rfl|assumption)|((with_reducible first|apply Gj|apply Gk|apply Gl|apply Gm);·first|assumption|rfl)|((with_reducible apply Tr.xV);·exact⟨Nat.le_of_ble_eq_true rfl,rfl,rfl⟩)|((with_reducible apply Tr.xAgg);·exact⟨Nat.le_of_ble_eq_true rfl,rfl⟩)|((with_reducible apply Tr.xPAgg);·exact⟨Nat.le_of_ble_eq_true rfl,rfl,rfl⟩)|((with_reducible first|refine Tr.ck ?_ ?_|apply Tr.xSome|apply Tr.xCells);·first|rfl|omega|(simp only[gnd] at hb;omega))|((with_reducible refine Tr.same ?_ ?_);·first|exact sameV_sl _ _ _|exact sameV_ptr _|exact sameV_int _ _|exact sameV_bool _|exact sameV_str _)|((with_reducible apply Tr.xCellsB);·exact⟨Nat.le_of_ble_eq_true rfl,rfl⟩)|((with_reducible apply Tr.asBytes);·exact bytesN1_byteCells _)|(refine Tr.some fun _=>?_;exact⟨rfl,rfl⟩)|fail)
    refine Tr.condF (by simp; omega) ?_
    refine Tr.some fun o => ?_
    rw [List.drop_eq_nil_of_le (by omega)]; exact ⟨by first | rfl | trivial, o.sub⟩
  | succ m ih =>
    intro i hm hi
    have hlt : i < l.length := by omega
    have hp : l[i]? = some l[i] := List.getElem?_eq_getElem hlt
    have hd : l.drop i = l[i] :: l.drop (i + 1) := List.drop_eq_getElem_cons hlt
    have hx := flat_at l i _ hp
    generalize l[i] = x at hp hd hx
    have hfl := flat_len l
    have e1 : IntKind.wrap .i64 ((i : Int) + 1) = ((i + 1 : Nat) : Int) := by rw [wrap_eq]; simp only [most] at hl; omega
    obtain ⟨f, t⟩ := x
    refine CtJ.of k_ref15_PlanOk fun h r => Tr.eq (e_ref15_PlanOk_L1 ..) ?_; (try simp only[nrm,nrmL,aSome_some,Nat.reduceAdd,Nat.reduceMul,Int.reduceToNat])
    (repeat' first|(with_reducible first|refine Ga ?_|refine Gn fun b h=>?_|apply Tr.andG|apply Tr.orG|refine Tr.xFits ?_|rintro px rfl|refine fun(h:H)=>?_|intro hb)|((with_reducible first|apply Gb|apply Gc|apply Gd|apply Ge|apply Gf|apply Gg|apply Gh|apply Gi);·first|rfl|assumption)|((with_reducible first|apply Gj|apply Gk|apply Gl|apply Gm);·first|assumption|rfl)|((with_reducible apply Tr.xV);·exact⟨Nat.le_of_ble_eq_true rfl,rfl,rfl⟩)|((with_reducible apply Tr.xAgg);·exact⟨Nat.le_of_ble_eq_true rfl,rfl⟩)|((with_reducible apply Tr.xPAgg);·exact⟨Nat.le_of_ble_eq_true rfl,rfl,rfl⟩)|((with_reducible first|refine Tr.ck ?_ ?_|apply Tr.xSome|apply Tr.xCells);·first|rfl|omega|(simp only[gnd] at hb;omega))|((with_reducible refine Tr.same ?_ ?_);·first|exact sameV_sl _ _ _|exact sameV_ptr _|exact sameV_int _ _|exact sameV_bool _|exact sameV_str _)|((with_reducible apply Tr.xCellsB);·exact⟨Nat.le_of_ble_eq_true rfl,rfl⟩)|((with_reducible apply Tr.asBytes);·exact bytesN1_byteCells _)|(refine Tr.some fun _=>?_;exact⟨rfl,rfl⟩)|fail)
    refine Tr.condT (by simp; omega) ?_
    (repeat' first|(with_reducible first|refine Ga ?_|refine Gn fun b h=>?_|apply Tr.andG|apply Tr.orG|refine Tr.xFits ?_|rintro px rfl|refine fun(h:H)=>?_|intro hb)|((with_reducible first|apply Gb|apply Gc|apply Gd|apply Ge|apply Gf|apply Gg|apply Gh|apply Gi);·first|rfl|assumption)|((with_reducible first|apply Gj|apply Gk|apply Gl|apply Gm);·first|assumption|rfl)|((with_reducible apply Tr.xV);·exact⟨Nat.le_of_ble_eq_true rfl,rfl,rfl⟩)|((with_reducible apply Tr.xAgg);·exact⟨Nat.le_of_ble_eq_true rfl,rfl⟩)|((with_reducible apply Tr.xPAgg);·exact⟨Nat.le_of_ble_eq_true rfl,rfl,rfl⟩)|((with_reducible first|refine Tr.ck ?_ ?_|apply Tr.xSome|apply Tr.xCells);·first|rfl|omega|(simp only[gnd] at hb;omega))|((with_reducible refine Tr.same ?_ ?_);·first|exact sameV_sl _ _ _|exact sameV_ptr _|exact sameV_int _ _|exact sameV_bool _|exact sameV_str _)|((with_reducible apply Tr.xCellsB);·exact⟨Nat.le_of_ble_eq_true rfl,rfl⟩)|((with_reducible apply Tr.asBytes);·exact bytesN1_byteCells _)|(refine Tr.some fun _=>?_;exact⟨rfl,rfl⟩)|fail)
    refine Tr.xAggS (xs := brL (f, t)) ⟨by omega, by simp; omega, by simpa using hx⟩ ?_
    simp only [brL]
    (repeat' first|(with_reducible first|refine Ga ?_|refine Gn fun b h=>?_|apply Tr.andG|apply Tr.orG|refine Tr.xFits ?_|rintro px rfl|refine fun(h:H)=>?_|intro hb)|((with_reducible first|apply Gb|apply Gc|apply Gd|apply Ge|apply Gf|apply Gg|apply Gh|apply Gi);·first|rfl|assumption)|((with_reducible first|apply Gj|apply Gk|apply Gl|apply Gm);·first|assumption|rfl)|((with_reducible apply Tr.xV);·exact⟨Nat.le_of_ble_eq_true rfl,rfl,rfl⟩)|((with_reducible apply Tr.xAgg);·exact⟨Nat.le_of_ble_eq_true rfl,rfl⟩)|((with_reducible apply Tr.xPAgg);·exact⟨Nat.le_of_ble_eq_true rfl,rfl,rfl⟩)|((with_reducible first|refine Tr.ck ?_ ?_|apply Tr.xSome|apply Tr.xCells);·first|rfl|omega|(simp only[gnd] at hb;omega))|((with_reducible refine Tr.same ?_ ?_);·first|exact sameV_sl _ _ _|exact sameV_ptr _|exact sameV_int _ _|exact sameV_bool _|exact sameV_str _)|((with_reducible apply Tr.xCellsB);·exact⟨Nat.le_of_ble_eq_true rfl,rfl⟩)|((with_reducible apply Tr.asBytes);·exact bytesN1_byteCells _)|(refine Tr.some fun _=>?_;exact⟨rfl,rfl⟩)|fail)
    refine Tr.ck (by rfl) ?_
    refine Tr.xPAgg (cs' := [int f, int t]) ⟨by simp, by rfl, by simp⟩ fun h' => ?_
    (repeat' first|(with_reducible first|refine Ga ?_|refine Gn fun b h=>?_|apply Tr.andG|apply Tr.orG|refine Tr.xFits ?_|rintro px rfl|refine fun(h:H)=>?_|intro hb)|((with_reducible first|apply Gb|apply Gc|apply Gd|apply Ge|apply Gf|apply Gg|apply Gh|apply Gi);·first|rfl|assumption)|((with_reducible first|apply Gj|apply Gk|apply Gl|apply Gm);·first|assumption|rfl)|((with_reducible apply Tr.xV);·exact⟨Nat.le_of_ble_eq_true rfl,rfl,rfl⟩)|((with_reducible apply Tr.xAgg);·exact⟨Nat.le_of_ble_eq_true rfl,rfl⟩)|((with_reducible apply Tr.xPAgg);·exact⟨Nat.le_of_ble_eq_true rfl,rfl,rfl⟩)|((with_reducible first|refine Tr.ck ?_ ?_|apply Tr.xSome|apply Tr.xCells);·first|rfl|omega|(simp only[gnd] at hb;omega))|((with_reducible refine Tr.same ?_ ?_);·first|exact sameV_sl _ _ _|exact sameV_ptr _|exact sameV_int _ _|exact sameV_bool _|exact sameV_str _)|((with_reducible apply Tr.xCellsB);·exact⟨Nat.le_of_ble_eq_true rfl,rfl⟩)|((with_reducible apply Tr.asBytes);·exact bytesN1_byteCells _)|(refine Tr.some fun _=>?_;exact⟨rfl,rfl⟩)|fail)
    cases hb : badB n (f, t) with
    | true =>
      refine Tr.condT (by simpa [badB] using hb) ?_
      refine Tr.some fun o => ?_
      rw [hd]; simp only [List.any_cons, hb, Bool.true_or, Bool.not_true]; exact ⟨by first | rfl | trivial, o.sub⟩
    | false =>
      refine Tr.condF (by simpa [badB] using hb) ?_
      rw [e1]
      refine Tr.xRun (ih (i + 1) (by omega) (by omega)) ?_; rintro _ h ⟨rfl, o⟩
      rw [hd]; simp only [List.any_cons, hb, Bool.false_or]; exact ⟨by first | rfl | trivial, o.sub⟩
theorem ct_PlanOk (a0 : Option Addr) (n c0 : Nat) (a1 : Option Addr) (ro : Bool) (c1 : Nat) (l : List (Int × Int)) (lease : Int) (hl : l.length ≤ most) :
    Ct CALL F_ref15_PlanOk [.agg ⟨planL a0 n c0 a1 l.length c1 lease⟩] [slC ro Y_api_Bridge 2 a1 l.length c1 (flat l)] fun v own => v = .bool (planOkB n l lease) ∧ own [slC ro Y_api_Bridge 2 a1 l.length c1 (flat l)] := by
  refine Ct.of k_ref15_PlanOk rfl fun h r => Tr.eq (e_ref15_PlanOk ..) ?_; (try simp only[nrm,nrmL,aSome_some,Nat.reduceAdd,Nat.reduceMul,Int.reduceToNat])
  (repeat' first|(with_reducible first|refine Ga ?_|refine Gn fun b h=>?_|apply Tr.andG|apply Tr.orG|refine Tr.xFits ?_|rintro px rfl|refine fun(h:H)=>?_|intro hb)|((with_reducible first|apply Gb|apply Gc|apply Gd|apply Ge|apply Gf|apply Gg|apply Gh|apply Gi);·first|rfl|assumption)|((with_reducible first|apply Gj|apply Gk|apply Gl|apply Gm);·first|assumption|rfl)|((with_reducible apply Tr.xV);·exact⟨Nat.le_of_ble_eq_true rfl,rfl,rfl⟩)|((with_reducible apply Tr.xAgg);·exact⟨Nat.le_of_ble_eq_true rfl,rfl⟩)|((with_reducible apply Tr.xPAgg);·exact⟨Nat.le_of_ble_eq_true rfl,rfl,rfl⟩)|((with_reducible first|refine Tr.ck ?_ ?_|apply Tr.xSome|apply Tr.xCells);·first|rfl|omega|(simp only[gnd] at hb;omega))|((with_reducible refine Tr.same ?_ ?_);·first|exact sameV_sl _ _ _|exact sameV_ptr _|exact sameV_int _ _|exact sameV_bool _|exact sameV_str _)|((with_reducible apply Tr.xCellsB);·exact⟨Nat.le_of_ble_eq_true rfl,rfl⟩)|((with_reducible apply Tr.asBytes);·exact bytesN1_byteCells _)|(refine Tr.some fun _=>?_;exact⟨rfl,rfl⟩)|fail)
  cases hC : (decide ((n : Int) < 1) || decide ((n : Int) > 4) || decide ((l.length : Int) > 4) || decide (lease < 1) || decide (lease > 1000)) with
  | true =>
    refine Tr.condT rfl ?_
    refine Tr.some fun o => ?_
    refine ⟨?_, o.sub⟩
    have : planOkB n l lease = false := by
      simp only [Bool.or_eq_true, Bool.and_eq_false_iff, decide_eq_true_eq, decide_eq_false_iff_not, planOkB] at hC ⊢
      omega
    rw [this]
  | false =>
    refine Tr.condF rfl ?_
    refine Tr.xRun (ct_PlanOk_L1 b a0 n c0 a1 ro c1 l lease hl _ 0 rfl (by omega)) ?_; rintro _ h ⟨rfl, o⟩
    have : planOkB n l lease = !(l.drop 0).any (badB n) := by
      simp only [Bool.or_eq_false_iff, decide_eq_false_iff_not] at hC
      unfold planOkB
      rw [decide_eq_true (by omega), decide_eq_true (by omega), decide_eq_true (by omega), decide_eq_true (by omega), decide_eq_true (by omega)]
      rfl
    rw [this]; exact ⟨by first | rfl | trivial, o.sub⟩
theorem ct_WCheck_L1 (a1 : Option Addr) (ro : Bool) (c1 : Nat) (n : Int) (l : List (Int × Int)) (hl : l.length ≤ most) : ∀ (m i : Nat), l.length - i = m → i ≤ l.length →
    CtJ JUMP F_world_Check T_world_Check_L1 [(3, int n), (32, .slice a1 l.length c1), (33, int l.length), (34, int i)] [slC ro Y_api_Bridge 2 a1 l.length c1 (flat l)]
      fun v own => v = int (if (l.drop i).any (badB n) = true then 1 else 0) ∧ own [slC ro Y_api_Bridge 2 a1 l.length c1 (flat l)] := by
  intro m
  induction m with
  | zero =>
    intro i hm hi
    refine CtJ.of k_world_Check fun h r => Tr.eq (e_world_Check_L1 ..) ?_; (try simp only[nrm,nrmL,aSome_some,Nat.reduceAdd,Nat.reduceMul,Int.reduceToNat])
    refine Tr.condF (by simp; omega) ?_
    refine Tr.some fun o => ?_
    rw [List.drop_eq_nil_of_le (by omega)]; exact ⟨by first | rfl | trivial, o.sub⟩
  | succ m ih =>
    intro i hm hi
    have hlt : i < l.length := by omega
    have hp : l[i]? = some l[i] := List.getElem?_eq_getElem hlt
    have hd : l.drop i = l[i] :: l.drop (i + 1) := List.drop_eq_getElem_cons hlt
    have hx := flat_at l i _ hp
    generalize l[i] = x at hp hd hx
    have hfl := flat_len l
    have e1 : IntKind.wrap .i64 ((i : Int) + 1) = ((i + 1 : Nat) : Int) := by rw [wrap_eq]; simp only [most] at hl; omega
    obtain ⟨f, t⟩ := x
    refine CtJ.of k_world_Check fun h r => Tr.eq (e_world_Check_L1 ..) ?_; (try simp only[nrm,nrmL,aSome_some,Nat.reduceAdd,Nat.reduceMul,Int.reduceToNat])
    refine Tr.condT (by simp; omega) ?_
    (repeat' first|(with_reducible first|refine Ga ?_|refine Gn fun b h=>?_|apply Tr.andG|apply Tr.orG|refine Tr.xFits ?_|rintro px rfl|refine fun(h:H)=>?_|intro hb)|((with_reducible first|apply Gb|apply Gc|apply Gd|apply Ge|apply Gf|apply Gg|apply Gh|apply Gi);·first|rfl|assumption)|((with_reducible first|apply Gj|apply Gk|apply Gl|apply Gm);·first|assumption|rfl)|((with_reducible apply Tr.xV);·exact⟨Nat.le_of_ble_eq_true rfl,rfl,rfl⟩)|((with_reducible apply Tr.xAgg);·exact⟨Nat.le_of_ble_eq_true rfl,rfl⟩)|((with_reducible apply Tr.xPAgg);·exact⟨Nat.le_of_ble_eq_true rfl,rfl,rfl⟩)|((with_reducible first|refine Tr.ck ?_ ?_|apply Tr.xSome|apply Tr.xCells);·first|rfl|omega|(simp only[gnd] at hb;omega))|((with_reducible refine Tr.same ?_ ?_);·first|exact sameV_sl _ _ _|exact sameV_ptr _|exact sameV_int _ _|exact sameV_bool _|exact sameV_str _)|((with_reducible apply Tr.xCellsB);·exact⟨Nat.le_of_ble_eq_true rfl,rfl⟩)|((with_reducible apply Tr.asBytes);·exact bytesN1_byteCells _)|(refine Tr.some fun _=>?_;exact⟨rfl,rfl⟩)|fail)
    refine Tr.xAggS (xs := brL (f, t)) ⟨by omega, by simp; omega, by simpa using hx⟩ ?_
    simp only [brL]
    (repeat' first|(with_reducible first|refine Ga ?_|refine Gn fun b h=>?_|apply Tr.andG|apply Tr.orG|refine Tr.xFits ?_|rintro px rfl|refine fun(h:H)=>?_|intro hb)|((with_reducible first|apply Gb|apply Gc|apply Gd|apply Ge|apply Gf|apply Gg|apply Gh|apply Gi);·first|rfl|assumption)|((with_reducible first|apply Gj|apply Gk|apply Gl|apply Gm);·first|assumption|rfl)|((with_reducible apply Tr.xV);·exact⟨Nat.le_of_ble_eq_true rfl,rfl,rfl⟩)|((with_reducible apply Tr.xAgg);·exact⟨Nat.le_of_ble_eq_true rfl,rfl⟩)|((with_reducible apply Tr.xPAgg);·exact⟨Nat.le_of_ble_eq_true rfl,rfl,rfl⟩)|((with_reducible first|refine Tr.ck ?_ ?_|apply Tr.xSome|apply Tr.xCells);·first|rfl|omega|(simp only[gnd] at hb;omega))|((with_reducible refine Tr.same ?_ ?_);·first|exact sameV_sl _ _ _|exact sameV_ptr _|exact sameV_int _ _|exact sameV_bool _|exact sameV_str _)|((with_reducible apply Tr.xCellsB);·exact⟨Nat.le_of_ble_eq_true rfl,rfl⟩)|((with_reducible apply Tr.asBytes);·exact bytesN1_byteCells _)|(refine Tr.some fun _=>?_;exact⟨rfl,rfl⟩)|fail)
    refine Tr.ck (by rfl) ?_
    refine Tr.xPAgg (cs' := [int f, int t]) ⟨by simp, by rfl, by simp⟩ fun h' => ?_
    (repeat' first|(with_reducible first|refine Ga ?_|refine Gn fun b h=>?_|apply Tr.andG|apply Tr.orG|refine Tr.xFits ?_|rintro px rfl|refine fun(h:H)=>?_|intro hb)|((with_reducible first|apply Gb|apply Gc|apply Gd|apply Ge|apply Gf|apply Gg|apply Gh|apply Gi);·first|rfl|assumption)|((with_reducible first|apply Gj|apply Gk|apply Gl|apply Gm);·first|assumption|rfl)|((with_reducible apply Tr.xV);·exact⟨Nat.le_of_ble_eq_true rfl,rfl,rfl⟩)|((with_reducible apply Tr.xAgg);·exact⟨Nat.le_of_ble_eq_true rfl,rfl⟩)|((with_reducible apply Tr.xPAgg);·exact⟨Nat.le_of_ble_eq_true rfl,rfl,rfl⟩)|((with_reducible first|refine Tr.ck ?_ ?_|apply Tr.xSome|apply Tr.xCells);·first|rfl|omega|(simp only[gnd] at hb;omega))|((with_reducible refine Tr.same ?_ ?_);·first|exact sameV_sl _ _ _|exact sameV_ptr _|exact sameV_int _ _|exact sameV_bool _|exact sameV_str _)|((with_reducible apply Tr.xCellsB);·exact⟨Nat.le_of_ble_eq_true rfl,rfl⟩)|((with_reducible apply Tr.asBytes);·exact bytesN1_byteCells _)|(refine Tr.some fun _=>?_;exact⟨rfl,rfl⟩)|fail)
    cases hb : badB n (f, t) with
    | true =>
      refine Tr.condT (by simpa [badB] using hb) ?_
      refine Tr.some fun o => ?_
      rw [hd]; simp only [List.any_cons, hb, Bool.true_or, if_true]; exact ⟨by first | rfl | trivial, o.sub⟩
    | false =>
      refine Tr.condF (by simpa [badB] using hb) ?_
      rw [e1]
      refine Tr.xRun (ih (i + 1) (by omega) (by omega)) ?_; rintro _ h ⟨rfl, o⟩
      rw [hd]; simp only [List.any_cons, hb, Bool.false_or]; exact ⟨by first | rfl | trivial, o.sub⟩
theorem ct_WCheck (a0 : Option Addr) (n c0 : Nat) (a1 : Option Addr) (ro : Bool) (c1 : Nat) (l : List (Int × Int)) (lease : Int) (hl : l.length ≤ most) :
    Ct CALL F_world_Check [.agg ⟨planL a0 n c0 a1 l.length c1 lease⟩] [slC ro Y_api_Bridge 2 a1 l.length c1 (flat l)] fun v own => v = int (if planOkB n l lease = true then 0 else 1) ∧ own [slC ro Y_api_Bridge 2 a1 l.length c1 (flat l)] := by
  refine Ct.of k_world_Check rfl fun h r => Tr.eq (e_world_Check ..) ?_; (try simp only[nrm,nrmL,aSome_some,Nat.reduceAdd,Nat.reduceMul,Int.reduceToNat])
  (repeat' first|(with_reducible first|refine Ga ?_|refine Gn fun b h=>?_|apply Tr.andG|apply Tr.orG|refine Tr.xFits ?_|rintro px rfl|refine fun(h:H)=>?_|intro hb)|((with_reducible first|apply Gb|apply Gc|apply Gd|apply Ge|apply Gf|apply Gg|apply Gh|apply Gi);·first|rfl|assumption)|((with_reducible first|apply Gj|apply Gk|apply Gl|apply Gm);·first|assumption|rfl)|((with_reducible apply Tr.xV);·exact⟨Nat.le_of_ble_eq_true rfl,rfl,rfl⟩)|((with_reducible apply Tr.xAgg);·exact⟨Nat.le_of_ble_eq_true rfl,rfl⟩)|((with_reducible apply Tr.xPAgg);·exact⟨Nat.le_of_ble_eq_true rfl,rfl,rfl⟩)|((with_reducible first|refine Tr.ck ?_ ?_|apply Tr.xSome|apply Tr.xCells);·first|rfl|omega|(simp only[gnd] at hb;omega))|((with_reducible refine Tr.same ?_ ?_);·first|exact sameV_sl _ _ _|exact sameV_ptr _|exact sameV_int _ _|exact sameV_bool _|exact sameV_str _)|((with_reducible apply Tr.xCellsB);·exact⟨Nat.le_of_ble_eq_true rfl,rfl⟩)|((with_reducible apply Tr.asBytes);·exact bytesN1_byteCells _)|(refine Tr.some fun _=>?_;exact⟨rfl,rfl⟩)|fail)
  cases hC : (decide ((n : Int) < 1) || decide ((n : Int) > 4) || decide ((l.length : Int) > 4) || decide (lease < 1) || decide (lease > 1000)) with
  | true =>
    refine Tr.condT rfl ?_
    refine Tr.some fun o => ?_
    refine ⟨?_, o.sub⟩
    have : planOkB n l lease = false := by
      simp only [Bool.or_eq_true, Bool.and_eq_false_iff, decide_eq_true_eq, decide_eq_false_iff_not, planOkB] at hC ⊢
      omega
    rw [this]; rfl
  | false =>
    refine Tr.condF rfl ?_
    (repeat' first|(with_reducible first|refine Ga ?_|refine Gn fun b h=>?_|apply Tr.andG|apply Tr.orG|refine Tr.xFits ?_|rintro px rfl|refine fun(h:H)=>?_|intro hb)|((with_reducible first|apply Gb|apply Gc|apply Gd|apply Ge|apply Gf|apply Gg|apply Gh|apply Gi);·first|rfl|assumption)|((with_reducible first|apply Gj|apply Gk|apply Gl|apply Gm);·first|assumption|rfl)|((with_reducible apply Tr.xV);·exact⟨Nat.le_of_ble_eq_true rfl,rfl,rfl⟩)|((with_reducible apply Tr.xAgg);·exact⟨Nat.le_of_ble_eq_true rfl,rfl⟩)|((with_reducible apply Tr.xPAgg);·exact⟨Nat.le_of_ble_eq_true rfl,rfl,rfl⟩)|((with_reducible first|refine Tr.ck ?_ ?_|apply Tr.xSome|apply Tr.xCells);·first|rfl|omega|(simp only[gnd] at hb;omega))|((with_reducible refine Tr.same ?_ ?_);·first|exact sameV_sl _ _ _|exact sameV_ptr _|exact sameV_int _ _|exact sameV_bool _|exact sameV_str _)|((with_reducible apply Tr.xCellsB);·exact⟨Nat.le_of_ble_eq_true rfl,rfl⟩)|((with_reducible apply Tr.asBytes);·exact bytesN1_byteCells _)|(refine Tr.some fun _=>?_;exact⟨rfl,rfl⟩)|fail)
    refine Tr.xRun (ct_WCheck_L1 a1 ro c1 n l hl _ 0 rfl (by omega)) ?_; rintro _ h ⟨rfl, o⟩
    have : planOkB n l lease = !(l.drop 0).any (badB n) := by
      simp only [Bool.or_eq_false_iff, decide_eq_false_iff_not] at hC
      unfold planOkB
      rw [decide_eq_true (by omega), decide_eq_true (by omega), decide_eq_true (by omega), decide_eq_true (by omega), decide_eq_true (by omega)]
      rfl
    rw [this]
    refine ⟨?_, o.sub⟩
    cases (l.drop 0).any (badB n) <;> rfl
abbrev bools (o : List Bool) : List Value := o.map Value.bool
theorem ct_cloneB (ro : Bool) (a : Option Addr) (c : Nat) (l : List Bool) (hn : l.length ≤ most) :
    Ct CALL F_slices_Clone_s_bool_bool [.slice a l.length c] [slC ro Y_bool 1 a l.length c (bools l)] fun v own => ∃ a' c', v = .slice a' l.length c' ∧ own [slC false Y_bool 1 a' l.length c' (bools l), slC ro Y_bool 1 a l.length c (bools l)] := by
  refine Ct.of k_slices_Clone_s_bool_bool rfl fun h r => Tr.eq (e_slices_Clone_s_bool_bool ..) ?_; (try simp only[nrm,nrmL,aSome_some,Nat.reduceAdd,Nat.reduceMul,Int.reduceToNat])
  refine tr_slFact 0 rfl fun hl hc _ => ?_
  refine Tr.cond (fun hb => ?_) fun hb => ?_
  · obtain rfl : a = none := by simpa using hb
    refine tr_nilSl false Y_bool 1 (by omega) ?_
    intro o
    have o1 := (o.tail).slNone
    obtain rfl : l = [] := by simpa using o1.2.2.1
    obtain rfl : c = 0 := o1.2.1
    exact ⟨_, _, rfl, none, 0, rfl, o⟩
  · (repeat' first|(with_reducible first|refine Ga ?_|refine Gn fun b h=>?_|apply Tr.andG|apply Tr.orG|refine Tr.xFits ?_|rintro px rfl|refine fun(h:H)=>?_|intro hb)|((with_reducible first|apply Gb|apply Gc|apply Gd|apply Ge|apply Gf|apply Gg|apply Gh|apply Gi);·first|rfl|assumption)|((with_reducible first|apply Gj|apply Gk|apply Gl|apply Gm);·first|assumption|rfl)|((with_reducible apply Tr.xV);·exact⟨Nat.le_of_ble_eq_true rfl,rfl,rfl⟩)|((with_reducible apply Tr.xAgg);·exact⟨Nat.le_of_ble_eq_true rfl,rfl⟩)|((with_reducible apply Tr.xPAgg);·exact⟨Nat.le_of_ble_eq_true rfl,rfl,rfl⟩)|((with_reducible first|refine Tr.ck ?_ ?_|apply Tr.xSome|apply Tr.xCells);·first|rfl|omega|(simp only[gnd] at hb;omega))|((with_reducible refine Tr.same ?_ ?_);·first|exact sameV_sl _ _ _|exact sameV_ptr _|exact sameV_int _ _|exact sameV_bool _|exact sameV_str _)|((with_reducible apply Tr.xCellsB);·exact⟨Nat.le_of_ble_eq_true rfl,rfl⟩)|((with_reducible apply Tr.asBytes);·exact bytesN1_byteCells _)|(refine Tr.some fun _=>?_;exact⟨rfl,rfl⟩)|fail)
    refine tr_asSl 0 rfl 1 0 rfl (by omega) ?_; (try simp only[nrm,nrmL,aSome_some,Nat.reduceAdd,Nat.reduceMul,Int.reduceToNat])
    (repeat' first|(with_reducible first|refine Ga ?_|refine Gn fun b h=>?_|apply Tr.andG|apply Tr.orG|refine Tr.xFits ?_|rintro px rfl|refine fun(h:H)=>?_|intro hb)|((with_reducible first|apply Gb|apply Gc|apply Gd|apply Ge|apply Gf|apply Gg|apply Gh|apply Gi);·first|rfl|assumption)|((with_reducible first|apply Gj|apply Gk|apply Gl|apply Gm);·first|assumption|rfl)|((with_reducible apply Tr.xV);·exact⟨Nat.le_of_ble_eq_true rfl,rfl,rfl⟩)|((with_reducible apply Tr.xAgg);·exact⟨Nat.le_of_ble_eq_true rfl,rfl⟩)|((with_reducible apply Tr.xPAgg);·exact⟨Nat.le_of_ble_eq_true rfl,rfl,rfl⟩)|((with_reducible first|refine Tr.ck ?_ ?_|apply Tr.xSome|apply Tr.xCells);·first|rfl|omega|(simp only[gnd] at hb;omega))|((with_reducible refine Tr.same ?_ ?_);·first|exact sameV_sl _ _ _|exact sameV_ptr _|exact sameV_int _ _|exact sameV_bool _|exact sameV_str _)|((with_reducible apply Tr.xCellsB);·exact⟨Nat.le_of_ble_eq_true rfl,rfl⟩)|((with_reducible apply Tr.asBytes);·exact bytesN1_byteCells _)|(refine Tr.some fun _=>?_;exact⟨rfl,rfl⟩)|fail)
    refine Tr.xApd ⟨by simp, by simp [Value.oneCell], by omega⟩ fun a' c' h' => ?_
    (try simp only[nrm,nrmL,aSome_some,Nat.reduceAdd,Nat.reduceMul,Int.reduceToNat])
    refine Tr.some fun o => ⟨a', c', by simp, by simpa using o⟩
end Go.EQ

set_option linter.unusedSimpArgs false
set_option linter.unusedVariables false
set_option maxRecDepth 10000
namespace Go.EQ
open Go Go.NN
def nb (x : Int × Int) : Nat × Nat := (x.1.toNat, x.2.toNat)
theorem ok_at {n : Nat} {l : List (Int × Int)} (hok : l.any (badB n) = false) {x : Int × Int} (hx : x ∈ l) : ∃ f t : Nat, x = ((f : Int), (t : Int)) ∧ f < n ∧ t < n ∧ f ≠ t := by
  have hbad : badB n x = false := by
    cases h : badB n x with
    | false => rfl
    | true => rw [List.any_eq_true.2 ⟨_, hx, h⟩] at hok; cases hok
  obtain ⟨f, t⟩ := x
  have hb : 0 ≤ f ∧ f < n ∧ 0 ≤ t ∧ t < n ∧ f ≠ t := by
    by_cases h : (0 ≤ f ∧ f < n ∧ 0 ≤ t ∧ t < n ∧ f ≠ t)
    · exact h
    · rw [(badB_eq n (f, t)).2 h] at hbad; cases hbad
  exact ⟨f.toNat, t.toNat, by ext <;> simp <;> omega, by omega, by omega, by omega⟩
theorem fits_of {n : Nat} {l : List (Int × Int)} (hok : l.any (badB n) = false) : Fits n (l.map nb) := fun x hx => by
  obtain ⟨y, hy, rfl⟩ := List.mem_map.1 hx
  obtain ⟨f, t, rfl, h1, h2, _⟩ := ok_at hok hy
  exact ⟨by simpa [nb] using h1, by simpa [nb] using h2⟩
theorem bools_at {o : List Bool} {i : Nat} (h : i < o.length) : (bools o)[i]? = some (.bool (getB o i)) := by
  unfold getB
  rw [List.getElem?_map, List.getD_eq_getElem?_getD, List.getElem?_eq_getElem h]; rfl
theorem bools_set (o : List Bool) (i : Nat) : (bools o).set i (.bool true) = bools (o.set i true) := (List.map_set ..).symm
abbrev tcC (pb : Nat) (a0 : Option Addr) (n c0 : Nat) (a1 : Option Addr) (ro : Bool) (c1 : Nat) (l : List (Int × Int)) (lease : Int) (a : Option Addr) (c : Nat) (o : List Bool) : List HP :=
  [pt pb (.cells Y_api_Plan false (planL a0 n c0 a1 l.length c1 lease)), slC false Y_bool 1 a n c (bools o), slC ro Y_api_Bridge 2 a1 l.length c1 (flat l)]
theorem ct_TC_L2 (pb : Nat) (a0 : Option Addr) (n c0 : Nat) (a1 : Option Addr) (ro : Bool) (c1 : Nat) (l : List (Int × Int)) (lease : Int) (a : Option Addr) (c k : Nat) (hk : k < 1000) (hl : l.length ≤ most) (hok : l.any (badB n) = false) (Ψ : Value → (List HP → Prop) → Prop) : ∀ (m i : Nat) (o : List Bool), l.length - i = m → i ≤ l.length → o.length = n →
    CtJ JUMP F_taint_Closure T_taint_Closure_L1 [(1, P0 pb), (3, .slice a n c), (14, int n), (15, int (k + 1 : Nat))] (tcC pb a0 n c0 a1 ro c1 l lease a c (R ((l.drop i).map nb) o)) Ψ →
    CtJ JUMP F_taint_Closure T_taint_Closure_L2 [(1, P0 pb), (3, .slice a n c), (14, int n), (15, int k), (18, .slice a1 l.length c1), (19, int l.length), (20, int i)] (tcC pb a0 n c0 a1 ro c1 l lease a c o) Ψ := by
  have e0 : IntKind.wrap .i64 ((k : Int) + 1) = ((k + 1 : Nat) : Int) := by rw [wrap_eq]; omega
  intro m
  induction m with
  | zero =>
    intro i o hm hi ho J
    rw [List.drop_eq_nil_of_le (by omega)] at J
    refine CtJ.of k_taint_Closure fun h r => Tr.eq (e_taint_Closure_L2 ..) ?_; (try simp only[nrm,nrmL,aSome_some,Nat.reduceAdd,Nat.reduceMul,Int.reduceToNat])
    refine Tr.condF (by simp; omega) ?_
    rw [e0]
    intro ow
    exact J h r ow
  | succ m ih =>
    intro i o hm hi ho J
    have hlt : i < l.length := by omega
    have hp : l[i]? = some l[i] := List.getElem?_eq_getElem hlt
    have hd : l.drop i = l[i] :: l.drop (i + 1) := List.drop_eq_getElem_cons hlt
    have hx := flat_at l i _ hp
    obtain ⟨f, t, hft, hf, ht, hne⟩ := ok_at hok (List.getElem_mem hlt)
    rw [hft] at hp hd hx
    have hfl := flat_len l
    have e1 : IntKind.wrap .i64 ((i : Int) + 1) = ((i + 1 : Nat) : Int) := by rw [wrap_eq]; simp only [most] at hl; omega
    rw [hd] at J
    have eJ : R (((((f : Int), (t : Int)) :: l.drop (i + 1))).map nb) o = R ((l.drop (i + 1)).map nb) (step o (f, t)) := by
      simp [R, nb]
    rw [eJ] at J
    refine CtJ.of k_taint_Closure fun h r => Tr.eq (e_taint_Closure_L2 ..) ?_; (try simp only[nrm,nrmL,aSome_some,Nat.reduceAdd,Nat.reduceMul,Int.reduceToNat])
    refine Tr.condT (by simp; omega) ?_
    (repeat' first|(with_reducible first|refine Ga ?_|refine Gn fun b h=>?_|apply Tr.andG|apply Tr.orG|refine Tr.xFits ?_|rintro px rfl|refine fun(h:H)=>?_|intro hb)|((with_reducible first|apply Gb|apply Gc|apply Gd|apply Ge|apply Gf|apply Gg|apply Gh|apply Gi);·first|rfl|assumption)|((with_reducible first|apply Gj|apply Gk|apply Gl|apply Gm);·first|assumption|rfl)|((with_reducible apply Tr.xV);·exact⟨Nat.le_of_ble_eq_true rfl,rfl,rfl⟩)|((with_reducible apply Tr.xAgg);·exact⟨Nat.le_of_ble_eq_true rfl,rfl⟩)|((with_reducible apply Tr.xPAgg);·exact⟨Nat.le_of_ble_eq_true rfl,rfl,rfl⟩)|((with_reducible first|refine Tr.ck ?_ ?_|apply Tr.xSome|apply Tr.xCells);·first|rfl|omega|(simp only[gnd] at hb;omega))|((with_reducible refine Tr.same ?_ ?_);·first|exact sameV_sl _ _ _|exact sameV_ptr _|exact sameV_int _ _|exact sameV_bool _|exact sameV_str _)|((with_reducible apply Tr.xCellsB);·exact⟨Nat.le_of_ble_eq_true rfl,rfl⟩)|((with_reducible apply Tr.asBytes);·exact bytesN1_byteCells _)|(refine Tr.some fun _=>?_;exact⟨rfl,rfl⟩)|fail)
    refine Tr.xAggS (xs := brL ((f : Int), (t : Int))) ⟨by omega, by simp; omega, by simpa using hx⟩ ?_
    simp only [brL]
    (repeat' first|(with_reducible first|refine Ga ?_|refine Gn fun b h=>?_|apply Tr.andG|apply Tr.orG|refine Tr.xFits ?_|rintro px rfl|refine fun(h:H)=>?_|intro hb)|((with_reducible first|apply Gb|apply Gc|apply Gd|apply Ge|apply Gf|apply Gg|apply Gh|apply Gi);·first|rfl|assumption)|((with_reducible first|apply Gj|apply Gk|apply Gl|apply Gm);·first|assumption|rfl)|((with_reducible apply Tr.xV);·exact⟨Nat.le_of_ble_eq_true rfl,rfl,rfl⟩)|((with_reducible apply Tr.xAgg);·exact⟨Nat.le_of_ble_eq_true rfl,rfl⟩)|((with_reducible apply Tr.xPAgg);·exact⟨Nat.le_of_ble_eq_true rfl,rfl,rfl⟩)|((with_reducible first|refine Tr.ck ?_ ?_|apply Tr.xSome|apply Tr.xCells);·first|rfl|omega|(simp only[gnd] at hb;omega))|((with_reducible refine Tr.same ?_ ?_);·first|exact sameV_sl _ _ _|exact sameV_ptr _|exact sameV_int _ _|exact sameV_bool _|exact sameV_str _)|((with_reducible apply Tr.xCellsB);·exact⟨Nat.le_of_ble_eq_true rfl,rfl⟩)|((with_reducible apply Tr.asBytes);·exact bytesN1_byteCells _)|(refine Tr.some fun _=>?_;exact⟨rfl,rfl⟩)|fail)
    refine Tr.ck (by rfl) ?_
    refine Tr.xPAgg (cs' := [int f, int t]) ⟨by simp, by rfl, by simp⟩ fun h' => ?_
    (repeat' first|(with_reducible first|refine Ga ?_|refine Gn fun b h=>?_|apply Tr.andG|apply Tr.orG|refine Tr.xFits ?_|rintro px rfl|refine fun(h:H)=>?_|intro hb)|((with_reducible first|apply Gb|apply Gc|apply Gd|apply Ge|apply Gf|apply Gg|apply Gh|apply Gi);·first|rfl|assumption)|((with_reducible first|apply Gj|apply Gk|apply Gl|apply Gm);·first|assumption|rfl)|((with_reducible apply Tr.xV);·exact⟨Nat.le_of_ble_eq_true rfl,rfl,rfl⟩)|((with_reducible apply Tr.xAgg);·exact⟨Nat.le_of_ble_eq_true rfl,rfl⟩)|((with_reducible apply Tr.xPAgg);·exact⟨Nat.le_of_ble_eq_true rfl,rfl,rfl⟩)|((with_reducible first|refine Tr.ck ?_ ?_|apply Tr.xSome|apply Tr.xCells);·first|rfl|omega|(simp only[gnd] at hb;omega))|((with_reducible refine Tr.same ?_ ?_);·first|exact sameV_sl _ _ _|exact sameV_ptr _|exact sameV_int _ _|exact sameV_bool _|exact sameV_str _)|((with_reducible apply Tr.xCellsB);·exact⟨Nat.le_of_ble_eq_true rfl,rfl⟩)|((with_reducible apply Tr.asBytes);·exact bytesN1_byteCells _)|(refine Tr.some fun _=>?_;exact⟨rfl,rfl⟩)|fail)
    rw [Int.toNat_natCast]
    refine Tr.xBoolS (v := getB o f) (bools_at (by omega)) ?_
    apply Tr.orG
    · intro hb
      (repeat' first|(with_reducible first|refine Ga ?_|refine Gn fun b h=>?_|apply Tr.andG|apply Tr.orG|refine Tr.xFits ?_|rintro px rfl|refine fun(h:H)=>?_|intro hb)|((with_reducible first|apply Gb|apply Gc|apply Gd|apply Ge|apply Gf|apply Gg|apply Gh|apply Gi);·first|rfl|assumption)|((with_reducible first|apply Gj|apply Gk|apply Gl|apply Gm);·first|assumption|rfl)|((with_reducible apply Tr.xV);·exact⟨Nat.le_of_ble_eq_true rfl,rfl,rfl⟩)|((with_reducible apply Tr.xAgg);·exact⟨Nat.le_of_ble_eq_true rfl,rfl⟩)|((with_reducible apply Tr.xPAgg);·exact⟨Nat.le_of_ble_eq_true rfl,rfl,rfl⟩)|((with_reducible first|refine Tr.ck ?_ ?_|apply Tr.xSome|apply Tr.xCells);·first|rfl|omega|(simp only[gnd] at hb;omega))|((with_reducible refine Tr.same ?_ ?_);·first|exact sameV_sl _ _ _|exact sameV_ptr _|exact sameV_int _ _|exact sameV_bool _|exact sameV_str _)|((with_reducible apply Tr.xCellsB);·exact⟨Nat.le_of_ble_eq_true rfl,rfl⟩)|((with_reducible apply Tr.asBytes);·exact bytesN1_byteCells _)|(refine Tr.some fun _=>?_;exact⟨rfl,rfl⟩)|fail)
      rw [Int.toNat_natCast]
      refine Tr.xBoolS (v := getB o t) (bools_at (by omega)) ?_
      refine Tr.some fun _ => ⟨rfl, rfl⟩
    cases hb : (getB o f || getB o t) with
    | true =>
      refine Tr.condT rfl ?_
      (repeat' first|(with_reducible first|refine Ga ?_|refine Gn fun b h=>?_|apply Tr.andG|apply Tr.orG|refine Tr.xFits ?_|rintro px rfl|refine fun(h:H)=>?_|intro hb)|((with_reducible first|apply Gb|apply Gc|apply Gd|apply Ge|apply Gf|apply Gg|apply Gh|apply Gi);·first|rfl|assumption)|((with_reducible first|apply Gj|apply Gk|apply Gl|apply Gm);·first|assumption|rfl)|((with_reducible apply Tr.xV);·exact⟨Nat.le_of_ble_eq_true rfl,rfl,rfl⟩)|((with_reducible apply Tr.xAgg);·exact⟨Nat.le_of_ble_eq_true rfl,rfl⟩)|((with_reducible apply Tr.xPAgg);·exact⟨Nat.le_of_ble_eq_true rfl,rfl,rfl⟩)|((with_reducible first|refine Tr.ck ?_ ?_|apply Tr.xSome|apply Tr.xCells);·first|rfl|omega|(simp only[gnd] at hb;omega))|((with_reducible refine Tr.same ?_ ?_);·first|exact sameV_sl _ _ _|exact sameV_ptr _|exact sameV_int _ _|exact sameV_bool _|exact sameV_str _)|((with_reducible apply Tr.xCellsB);·exact⟨Nat.le_of_ble_eq_true rfl,rfl⟩)|((with_reducible apply Tr.asBytes);·exact bytesN1_byteCells _)|(refine Tr.some fun _=>?_;exact⟨rfl,rfl⟩)|fail)
      rw [Int.toNat_natCast]
      refine Tr.xVS (cs' := bools (o.set f true)) ⟨by simp; omega, rfl, bools_set _ _⟩ fun h' => ?_
      (repeat' first|(with_reducible first|refine Ga ?_|refine Gn fun b h=>?_|apply Tr.andG|apply Tr.orG|refine Tr.xFits ?_|rintro px rfl|refine fun(h:H)=>?_|intro hb)|((with_reducible first|apply Gb|apply Gc|apply Gd|apply Ge|apply Gf|apply Gg|apply Gh|apply Gi);·first|rfl|assumption)|((with_reducible first|apply Gj|apply Gk|apply Gl|apply Gm);·first|assumption|rfl)|((with_reducible apply Tr.xV);·exact⟨Nat.le_of_ble_eq_true rfl,rfl,rfl⟩)|((with_reducible apply Tr.xAgg);·exact⟨Nat.le_of_ble_eq_true rfl,rfl⟩)|((with_reducible apply Tr.xPAgg);·exact⟨Nat.le_of_ble_eq_true rfl,rfl,rfl⟩)|((with_reducible first|refine Tr.ck ?_ ?_|apply Tr.xSome|apply Tr.xCells);·first|rfl|omega|(simp only[gnd] at hb;omega))|((with_reducible refine Tr.same ?_ ?_);·first|exact sameV_sl _ _ _|exact sameV_ptr _|exact sameV_int _ _|exact sameV_bool _|exact sameV_str _)|((with_reducible apply Tr.xCellsB);·exact⟨Nat.le_of_ble_eq_true rfl,rfl⟩)|((with_reducible apply Tr.asBytes);·exact bytesN1_byteCells _)|(refine Tr.some fun _=>?_;exact⟨rfl,rfl⟩)|fail)
      rw [Int.toNat_natCast]
      refine Tr.xVS (cs' := bools ((o.set f true).set t true)) ⟨by simp; omega, rfl, bools_set _ _⟩ fun h' => ?_
      have es : step o (f, t) = (o.set f true).set t true := by unfold step; rw [if_pos hb]
      rw [es] at J
      rw [e1]
      intro ow
      exact ih (i + 1) _ (by omega) (by omega) (by simp; omega) J h' _ ow.tail
    | false =>
      refine Tr.condF rfl ?_
      have es : step o (f, t) = o := by unfold step; rw [if_neg (by rw [hb]; simp)]
      rw [es] at J
      rw [e1]
      intro ow
      exact ih (i + 1) o (by omega) (by omega) ho J h' _ ow.tail
end Go.EQ

set_option linter.unusedSimpArgs false
set_option linter.unusedVariables false
set_option maxRecDepth 10000
namespace Go.EQ
open Go Go.NN
theorem ct_TC_L1 (pb : Nat) (a0 : Option Addr) (n c0 : Nat) (a1 : Option Addr) (ro : Bool) (c1 : Nat) (l : List (Int × Int)) (lease : Int) (a : Option Addr) (c : Nat) (hn : n ≤ 4) (hl : l.length ≤ most) (hok : l.any (badB n) = false) : ∀ (m k : Nat) (w : List Bool), n - k = m → k ≤ n → w.length = n →
    CtJ JUMP F_taint_Closure T_taint_Closure_L1 [(1, P0 pb), (3, .slice a n c), (14, int n), (15, int k)] (tcC pb a0 n c0 a1 ro c1 l lease a c w)
      fun v own => v = .slice a n c ∧ own [slC false Y_bool 1 a n c (bools (itR (l.map nb) m w)), slC ro Y_api_Bridge 2 a1 l.length c1 (flat l)] := by
  intro m
  induction m with
  | zero =>
    intro k w hm hk ho
    refine CtJ.of k_taint_Closure fun h r => Tr.eq (e_taint_Closure_L1 ..) ?_; (try simp only[nrm,nrmL,aSome_some,Nat.reduceAdd,Nat.reduceMul,Int.reduceToNat])
    refine Tr.condF (by simp; omega) ?_
    refine Tr.some fun o => ?_
    exact ⟨rfl, (show Own h (slC false Y_bool 1 a n c (bools w) :: slC ro Y_api_Bridge 2 a1 l.length c1 (flat l) :: r) from o.sub)⟩
  | succ m ih =>
    intro k w hm hk ho
    have J := ih (k + 1) (R ((l.drop 0).map nb) w) (by omega) (by omega) (by rw [R_len]; exact ho)
    have hL2 := ct_TC_L2 pb a0 n c0 a1 ro c1 l lease a c k (by omega) hl hok _ _ 0 w rfl (by omega) ho J
    refine CtJ.of k_taint_Closure fun h r => Tr.eq (e_taint_Closure_L1 ..) ?_; (try simp only[nrm,nrmL,aSome_some,Nat.reduceAdd,Nat.reduceMul,Int.reduceToNat])
    refine Tr.condT (by simp; omega) ?_
    (repeat' first|(with_reducible first|refine Ga ?_|refine Gn fun b h=>?_|apply Tr.andG|apply Tr.orG|refine Tr.xFits ?_|rintro px rfl|refine fun(h:H)=>?_|intro hb)|((with_reducible first|apply Gb|apply Gc|apply Gd|apply Ge|apply Gf|apply Gg|apply Gh|apply Gi);·first|rfl|assumption)|((with_reducible first|apply Gj|apply Gk|apply Gl|apply Gm);·first|assumption|rfl)|((with_reducible apply Tr.xV);·exact⟨Nat.le_of_ble_eq_true rfl,rfl,rfl⟩)|((with_reducible apply Tr.xAgg);·exact⟨Nat.le_of_ble_eq_true rfl,rfl⟩)|((with_reducible apply Tr.xPAgg);·exact⟨Nat.le_of_ble_eq_true rfl,rfl,rfl⟩)|((with_reducible first|refine Tr.ck ?_ ?_|apply Tr.xSome|apply Tr.xCells);·first|rfl|omega|(simp only[gnd] at hb;omega))|((with_reducible refine Tr.same ?_ ?_);·first|exact sameV_sl _ _ _|exact sameV_ptr _|exact sameV_int _ _|exact sameV_bool _|exact sameV_str _)|((with_reducible apply Tr.xCellsB);·exact⟨Nat.le_of_ble_eq_true rfl,rfl⟩)|((with_reducible apply Tr.asBytes);·exact bytesN1_byteCells _)|(refine Tr.some fun _=>?_;exact⟨rfl,rfl⟩)|fail)
    exact hL2 h r
def closeL (bads : List Bool) (l : List (Int × Int)) (lease : Int) : Option (List Bool) := if planOkB bads.length l lease = true then some (itR (l.map nb) bads.length bads) else none
abbrev ownC (w : Option (List Bool)) (a : Option Addr) (c : Nat) : HP := slC false Y_bool 1 a (w.getD []).length c (bools (w.getD []))
theorem itR_len (l : List (Nat × Nat)) : ∀ (k : Nat) (o : List Bool), (itR l k o).length = o.length
  | 0, o => rfl
  | k + 1, o => by show (itR l k (R l o)).length = _; rw [itR_len l k, R_len]
theorem ct_TClosure (a0 : Option Addr) (c0 : Nat) (bads : List Bool) (rb : Bool) (a1 : Option Addr) (ro : Bool) (c1 : Nat) (l : List (Int × Int)) (lease : Int) (hl : l.length ≤ most) (hb : bads.length ≤ most) :
    Ct CALL F_taint_Closure [.agg ⟨planL a0 bads.length c0 a1 l.length c1 lease⟩] [slC rb Y_bool 1 a0 bads.length c0 (bools bads), slC ro Y_api_Bridge 2 a1 l.length c1 (flat l)]
      fun v own => ∃ a c, v = .slice a ((closeL bads l lease).getD []).length c ∧ own [ownC (closeL bads l lease) a c, slC rb Y_bool 1 a0 bads.length c0 (bools bads), slC ro Y_api_Bridge 2 a1 l.length c1 (flat l)] := by
  refine Ct.of k_taint_Closure rfl fun h r => Tr.eq (e_taint_Closure ..) ?_; (try simp only[nrm,nrmL,aSome_some,Nat.reduceAdd,Nat.reduceMul,Int.reduceToNat])
  refine Tr.nw fun pb h => ?_
  (repeat' first|(with_reducible first|refine Ga ?_|refine Gn fun b h=>?_|apply Tr.andG|apply Tr.orG|refine Tr.xFits ?_|rintro px rfl|refine fun(h:H)=>?_|intro hb)|((with_reducible first|apply Gb|apply Gc|apply Gd|apply Ge|apply Gf|apply Gg|apply Gh|apply Gi);·first|rfl|assumption)|((with_reducible first|apply Gj|apply Gk|apply Gl|apply Gm);·first|assumption|rfl)|((with_reducible apply Tr.xV);·exact⟨Nat.le_of_ble_eq_true rfl,rfl,rfl⟩)|((with_reducible apply Tr.xAgg);·exact⟨Nat.le_of_ble_eq_true rfl,rfl⟩)|((with_reducible apply Tr.xPAgg);·exact⟨Nat.le_of_ble_eq_true rfl,rfl,rfl⟩)|((with_reducible first|refine Tr.ck ?_ ?_|apply Tr.xSome|apply Tr.xCells);·first|rfl|omega|(simp only[gnd] at hb;omega))|((with_reducible refine Tr.same ?_ ?_);·first|exact sameV_sl _ _ _|exact sameV_ptr _|exact sameV_int _ _|exact sameV_bool _|exact sameV_str _)|((with_reducible apply Tr.xCellsB);·exact⟨Nat.le_of_ble_eq_true rfl,rfl⟩)|((with_reducible apply Tr.asBytes);·exact bytesN1_byteCells _)|(refine Tr.some fun _=>?_;exact⟨rfl,rfl⟩)|fail)
  refine Tr.xCall (ct_WCheck a0 bads.length c0 a1 ro c1 l lease hl) ?_; rintro _ h ⟨rfl, o⟩ <;> (refine (?_ : Tr _ _ _ _) o; (try simp only[nrm,nrmL,aSome_some,Nat.reduceAdd,Nat.reduceMul,Int.reduceToNat]); (repeat' first|(with_reducible first|refine Ga ?_|refine Gn fun b h=>?_|apply Tr.andG|apply Tr.orG|refine Tr.xFits ?_|rintro px rfl|refine fun(h:H)=>?_|intro hb)|((with_reducible first|apply Gb|apply Gc|apply Gd|apply Ge|apply Gf|apply Gg|apply Gh|apply Gi);·first|rfl|assumption)|((with_reducible first|apply Gj|apply Gk|apply Gl|apply Gm);·first|assumption|rfl)|((with_reducible apply Tr.xV);·exact⟨Nat.le_of_ble_eq_true rfl,rfl,rfl⟩)|((with_reducible apply Tr.xAgg);·exact⟨Nat.le_of_ble_eq_true rfl,rfl⟩)|((with_reducible apply Tr.xPAgg);·exact⟨Nat.le_of_ble_eq_true rfl,rfl,rfl⟩)|((with_reducible first|refine Tr.ck ?_ ?_|apply Tr.xSome|apply Tr.xCells);·first|rfl|omega|(simp only[gnd] at hb;omega))|((with_reducible refine Tr.same ?_ ?_);·first|exact sameV_sl _ _ _|exact sameV_ptr _|exact sameV_int _ _|exact sameV_bool _|exact sameV_str _)|((with_reducible apply Tr.xCellsB);·exact⟨Nat.le_of_ble_eq_true rfl,rfl⟩)|((with_reducible apply Tr.asBytes);·exact bytesN1_byteCells _)|(refine Tr.some fun _=>?_;exact⟨rfl,rfl⟩)|fail))
  cases hk : planOkB bads.length l lease with
  | false =>
    refine Tr.condT (by simp) ?_
    refine tr_nilSl false Y_bool 1 (by omega) ?_
    refine Tr.some fun o => ?_
    have e : closeL bads l lease = none := by unfold closeL; rw [hk]; rfl
    rw [e]
    exact ⟨none, 0, rfl, (show Own h (slC false Y_bool 1 none 0 0 [] :: slC rb Y_bool 1 a0 bads.length c0 (bools bads) :: slC ro Y_api_Bridge 2 a1 l.length c1 (flat l) :: r) from o.sub)⟩
  | true =>
    refine Tr.condF (by simp) ?_
    (repeat' first|(with_reducible first|refine Ga ?_|refine Gn fun b h=>?_|apply Tr.andG|apply Tr.orG|refine Tr.xFits ?_|rintro px rfl|refine fun(h:H)=>?_|intro hb)|((with_reducible first|apply Gb|apply Gc|apply Gd|apply Ge|apply Gf|apply Gg|apply Gh|apply Gi);·first|rfl|assumption)|((with_reducible first|apply Gj|apply Gk|apply Gl|apply Gm);·first|assumption|rfl)|((with_reducible apply Tr.xV);·exact⟨Nat.le_of_ble_eq_true rfl,rfl,rfl⟩)|((with_reducible apply Tr.xAgg);·exact⟨Nat.le_of_ble_eq_true rfl,rfl⟩)|((with_reducible apply Tr.xPAgg);·exact⟨Nat.le_of_ble_eq_true rfl,rfl,rfl⟩)|((with_reducible first|refine Tr.ck ?_ ?_|apply Tr.xSome|apply Tr.xCells);·first|rfl|omega|(simp only[gnd] at hb;omega))|((with_reducible refine Tr.same ?_ ?_);·first|exact sameV_sl _ _ _|exact sameV_ptr _|exact sameV_int _ _|exact sameV_bool _|exact sameV_str _)|((with_reducible apply Tr.xCellsB);·exact⟨Nat.le_of_ble_eq_true rfl,rfl⟩)|((with_reducible apply Tr.asBytes);·exact bytesN1_byteCells _)|(refine Tr.some fun _=>?_;exact⟨rfl,rfl⟩)|fail)
    have hk2 : bads.length ≤ 4 ∧ l.any (badB bads.length) = false := by
      simp only [planOkB, Bool.and_eq_true, decide_eq_true_eq, Bool.not_eq_true'] at hk
      exact ⟨by omega, hk.2⟩
    refine Tr.xCall (ct_cloneB rb a0 c0 bads hb) ?_; rintro _ h ⟨a, c, rfl, o⟩ <;> (refine (?_ : Tr _ _ _ _) o; (try simp only[nrm,nrmL,aSome_some,Nat.reduceAdd,Nat.reduceMul,Int.reduceToNat]); (repeat' first|(with_reducible first|refine Ga ?_|refine Gn fun b h=>?_|apply Tr.andG|apply Tr.orG|refine Tr.xFits ?_|rintro px rfl|refine fun(h:H)=>?_|intro hb)|((with_reducible first|apply Gb|apply Gc|apply Gd|apply Ge|apply Gf|apply Gg|apply Gh|apply Gi);·first|rfl|assumption)|((with_reducible first|apply Gj|apply Gk|apply Gl|apply Gm);·first|assumption|rfl)|((with_reducible apply Tr.xV);·exact⟨Nat.le_of_ble_eq_true rfl,rfl,rfl⟩)|((with_reducible apply Tr.xAgg);·exact⟨Nat.le_of_ble_eq_true rfl,rfl⟩)|((with_reducible apply Tr.xPAgg);·exact⟨Nat.le_of_ble_eq_true rfl,rfl,rfl⟩)|((with_reducible first|refine Tr.ck ?_ ?_|apply Tr.xSome|apply Tr.xCells);·first|rfl|omega|(simp only[gnd] at hb;omega))|((with_reducible refine Tr.same ?_ ?_);·first|exact sameV_sl _ _ _|exact sameV_ptr _|exact sameV_int _ _|exact sameV_bool _|exact sameV_str _)|((with_reducible apply Tr.xCellsB);·exact⟨Nat.le_of_ble_eq_true rfl,rfl⟩)|((with_reducible apply Tr.asBytes);·exact bytesN1_byteCells _)|(refine Tr.some fun _=>?_;exact⟨rfl,rfl⟩)|fail))
    refine Tr.xRun (ct_TC_L1 pb a0 bads.length c0 a1 ro c1 l lease a c hk2.1 hl hk2.2 _ 0 bads rfl (by omega) rfl) ?_; rintro _ h ⟨rfl, o⟩
    have e : closeL bads l lease = some (itR (l.map nb) bads.length bads) := by unfold closeL; rw [hk]; rfl
    rw [e]
    refine ⟨a, c, by simp [itR_len], ?_⟩
    have o2 : Own h (slC false Y_bool 1 a bads.length c (bools (itR (l.map nb) (bads.length - 0) bads)) :: slC ro Y_api_Bridge 2 a1 l.length c1 (flat l) :: slC rb Y_bool 1 a0 bads.length c0 (bools bads) :: r) := o.sub
    rw [Nat.sub_zero] at o2
    simp only [ownC, Option.getD_some, itR_len]
    exact o2.sub
end Go.EQ

set_option linter.unusedSimpArgs false
set_option linter.unusedVariables false
set_option maxRecDepth 10000
namespace Go.EQ
open Go Go.NN
theorem ct_LC_L2 (pb : Nat) (a0 : Option Addr) (n c0 : Nat) (a1 : Option Addr) (ro : Bool) (c1 : Nat) (l : List (Int × Int)) (lease : Int) (a : Option Addr) (c : Nat) (hl : l.length ≤ most) (hok : l.any (badB n) = false) (Ψ : Value → (List HP → Prop) → Prop) : ∀ (m i : Nat) (w : List Bool) (more : Bool), l.length - i = m → i ≤ l.length → w.length = n →
    CtJ JUMP F_law24_Closure T_law24_Closure_L1 [(1, P0 pb), (3, .slice a n c), (4, .bool (R2 ((l.drop i).map nb) (w, more)).2)] (tcC pb a0 n c0 a1 ro c1 l lease a c (R2 ((l.drop i).map nb) (w, more)).1) Ψ →
    CtJ JUMP F_law24_Closure T_law24_Closure_L2 [(1, P0 pb), (3, .slice a n c), (4, .bool more), (5, int i)] (tcC pb a0 n c0 a1 ro c1 l lease a c w) Ψ := by
  intro m
  induction m with
  | zero =>
    intro i w more hm hi ho J
    rw [List.drop_eq_nil_of_le (by omega)] at J
    refine CtJ.of k_law24_Closure fun h r => Tr.eq (e_law24_Closure_L2 ..) ?_; (try simp only[nrm,nrmL,aSome_some,Nat.reduceAdd,Nat.reduceMul,Int.reduceToNat])
    (repeat' first|(with_reducible first|refine Ga ?_|refine Gn fun b h=>?_|apply Tr.andG|apply Tr.orG|refine Tr.xFits ?_|rintro px rfl|refine fun(h:H)=>?_|intro hb)|((with_reducible first|apply Gb|apply Gc|apply Gd|apply Ge|apply Gf|apply Gg|apply Gh|apply Gi);·first|rfl|assumption)|((with_reducible first|apply Gj|apply Gk|apply Gl|apply Gm);·first|assumption|rfl)|((with_reducible apply Tr.xV);·exact⟨Nat.le_of_ble_eq_true rfl,rfl,rfl⟩)|((with_reducible apply Tr.xAgg);·exact⟨Nat.le_of_ble_eq_true rfl,rfl⟩)|((with_reducible apply Tr.xPAgg);·exact⟨Nat.le_of_ble_eq_true rfl,rfl,rfl⟩)|((with_reducible first|refine Tr.ck ?_ ?_|apply Tr.xSome|apply Tr.xCells);·first|rfl|omega|(simp only[gnd] at hb;omega))|((with_reducible refine Tr.same ?_ ?_);·first|exact sameV_sl _ _ _|exact sameV_ptr _|exact sameV_int _ _|exact sameV_bool _|exact sameV_str _)|((with_reducible apply Tr.xCellsB);·exact⟨Nat.le_of_ble_eq_true rfl,rfl⟩)|((with_reducible apply Tr.asBytes);·exact bytesN1_byteCells _)|(refine Tr.some fun _=>?_;exact⟨rfl,rfl⟩)|fail)
    refine Tr.condF (by simp; omega) ?_
    intro ow
    exact J h r ow
  | succ m ih =>
    intro i w more hm hi ho J
    have hlt : i < l.length := by omega
    have hp : l[i]? = some l[i] := List.getElem?_eq_getElem hlt
    have hd : l.drop i = l[i] :: l.drop (i + 1) := List.drop_eq_getElem_cons hlt
    have hx := flat_at l i _ hp
    obtain ⟨f, t, hft, hf, ht, hne⟩ := ok_at hok (List.getElem_mem hlt)
    rw [hft] at hp hd hx
    have hfl := flat_len l
    have e1 : IntKind.wrap .i64 ((i : Int) + 1) = ((i + 1 : Nat) : Int) := by rw [wrap_eq]; simp only [most] at hl; omega
    rw [hd] at J
    have eJ : R2 (((((f : Int), (t : Int)) :: l.drop (i + 1))).map nb) (w, more) = R2 ((l.drop (i + 1)).map nb) (step2 (w, more) (f, t)) := by
      simp [R2, nb]
    rw [eJ] at J
    refine CtJ.of k_law24_Closure fun h r => Tr.eq (e_law24_Closure_L2 ..) ?_; (try simp only[nrm,nrmL,aSome_some,Nat.reduceAdd,Nat.reduceMul,Int.reduceToNat])
    (repeat' first|(with_reducible first|refine Ga ?_|refine Gn fun b h=>?_|apply Tr.andG|apply Tr.orG|refine Tr.xFits ?_|rintro px rfl|refine fun(h:H)=>?_|intro hb)|((with_reducible first|apply Gb|apply Gc|apply Gd|apply Ge|apply Gf|apply Gg|apply Gh|apply Gi);·first|rfl|assumption)|((with_reducible first|apply Gj|apply Gk|apply Gl|apply Gm);·first|assumption|rfl)|((with_reducible apply Tr.xV);·exact⟨Nat.le_of_ble_eq_true rfl,rfl,rfl⟩)|((with_reducible apply Tr.xAgg);·exact⟨Nat.le_of_ble_eq_true rfl,rfl⟩)|((with_reducible apply Tr.xPAgg);·exact⟨Nat.le_of_ble_eq_true rfl,rfl,rfl⟩)|((with_reducible first|refine Tr.ck ?_ ?_|apply Tr.xSome|apply Tr.xCells);·first|rfl|omega|(simp only[gnd] at hb;omega))|((with_reducible refine Tr.same ?_ ?_);·first|exact sameV_sl _ _ _|exact sameV_ptr _|exact sameV_int _ _|exact sameV_bool _|exact sameV_str _)|((with_reducible apply Tr.xCellsB);·exact⟨Nat.le_of_ble_eq_true rfl,rfl⟩)|((with_reducible apply Tr.asBytes);·exact bytesN1_byteCells _)|(refine Tr.some fun _=>?_;exact⟨rfl,rfl⟩)|fail)
    refine Tr.condT (by simp; omega) ?_
    (repeat' first|(with_reducible first|refine Ga ?_|refine Gn fun b h=>?_|apply Tr.andG|apply Tr.orG|refine Tr.xFits ?_|rintro px rfl|refine fun(h:H)=>?_|intro hb)|((with_reducible first|apply Gb|apply Gc|apply Gd|apply Ge|apply Gf|apply Gg|apply Gh|apply Gi);·first|rfl|assumption)|((with_reducible first|apply Gj|apply Gk|apply Gl|apply Gm);·first|assumption|rfl)|((with_reducible apply Tr.xV);·exact⟨Nat.le_of_ble_eq_true rfl,rfl,rfl⟩)|((with_reducible apply Tr.xAgg);·exact⟨Nat.le_of_ble_eq_true rfl,rfl⟩)|((with_reducible apply Tr.xPAgg);·exact⟨Nat.le_of_ble_eq_true rfl,rfl,rfl⟩)|((with_reducible first|refine Tr.ck ?_ ?_|apply Tr.xSome|apply Tr.xCells);·first|rfl|omega|(simp only[gnd] at hb;omega))|((with_reducible refine Tr.same ?_ ?_);·first|exact sameV_sl _ _ _|exact sameV_ptr _|exact sameV_int _ _|exact sameV_bool _|exact sameV_str _)|((with_reducible apply Tr.xCellsB);·exact⟨Nat.le_of_ble_eq_true rfl,rfl⟩)|((with_reducible apply Tr.asBytes);·exact bytesN1_byteCells _)|(refine Tr.some fun _=>?_;exact⟨rfl,rfl⟩)|fail)
    refine Tr.xAggS (xs := brL ((f : Int), (t : Int))) ⟨by omega, by simp; omega, by simpa using hx⟩ ?_
    simp only [brL]
    (repeat' first|(with_reducible first|refine Ga ?_|refine Gn fun b h=>?_|apply Tr.andG|apply Tr.orG|refine Tr.xFits ?_|rintro px rfl|refine fun(h:H)=>?_|intro hb)|((with_reducible first|apply Gb|apply Gc|apply Gd|apply Ge|apply Gf|apply Gg|apply Gh|apply Gi);·first|rfl|assumption)|((with_reducible first|apply Gj|apply Gk|apply Gl|apply Gm);·first|assumption|rfl)|((with_reducible apply Tr.xV);·exact⟨Nat.le_of_ble_eq_true rfl,rfl,rfl⟩)|((with_reducible apply Tr.xAgg);·exact⟨Nat.le_of_ble_eq_true rfl,rfl⟩)|((with_reducible apply Tr.xPAgg);·exact⟨Nat.le_of_ble_eq_true rfl,rfl,rfl⟩)|((with_reducible first|refine Tr.ck ?_ ?_|apply Tr.xSome|apply Tr.xCells);·first|rfl|omega|(simp only[gnd] at hb;omega))|((with_reducible refine Tr.same ?_ ?_);·first|exact sameV_sl _ _ _|exact sameV_ptr _|exact sameV_int _ _|exact sameV_bool _|exact sameV_str _)|((with_reducible apply Tr.xCellsB);·exact⟨Nat.le_of_ble_eq_true rfl,rfl⟩)|((with_reducible apply Tr.asBytes);·exact bytesN1_byteCells _)|(refine Tr.some fun _=>?_;exact⟨rfl,rfl⟩)|fail)
    refine Tr.ck (by rfl) ?_
    refine Tr.xPAgg (cs' := [int f, int t]) ⟨by simp, by rfl, by simp⟩ fun h' => ?_
    (repeat' first|(with_reducible first|refine Ga ?_|refine Gn fun b h=>?_|apply Tr.andG|apply Tr.orG|refine Tr.xFits ?_|rintro px rfl|refine fun(h:H)=>?_|intro hb)|((with_reducible first|apply Gb|apply Gc|apply Gd|apply Ge|apply Gf|apply Gg|apply Gh|apply Gi);·first|rfl|assumption)|((with_reducible first|apply Gj|apply Gk|apply Gl|apply Gm);·first|assumption|rfl)|((with_reducible apply Tr.xV);·exact⟨Nat.le_of_ble_eq_true rfl,rfl,rfl⟩)|((with_reducible apply Tr.xAgg);·exact⟨Nat.le_of_ble_eq_true rfl,rfl⟩)|((with_reducible apply Tr.xPAgg);·exact⟨Nat.le_of_ble_eq_true rfl,rfl,rfl⟩)|((with_reducible first|refine Tr.ck ?_ ?_|apply Tr.xSome|apply Tr.xCells);·first|rfl|omega|(simp only[gnd] at hb;omega))|((with_reducible refine Tr.same ?_ ?_);·first|exact sameV_sl _ _ _|exact sameV_ptr _|exact sameV_int _ _|exact sameV_bool _|exact sameV_str _)|((with_reducible apply Tr.xCellsB);·exact⟨Nat.le_of_ble_eq_true rfl,rfl⟩)|((with_reducible apply Tr.asBytes);·exact bytesN1_byteCells _)|(refine Tr.some fun _=>?_;exact⟨rfl,rfl⟩)|fail)
    rw [Int.toNat_natCast]
    refine Tr.xBoolS (v := getB w f) (bools_at (by omega)) ?_
    (repeat' first|(with_reducible first|refine Ga ?_|refine Gn fun b h=>?_|apply Tr.andG|apply Tr.orG|refine Tr.xFits ?_|rintro px rfl|refine fun(h:H)=>?_|intro hb)|((with_reducible first|apply Gb|apply Gc|apply Gd|apply Ge|apply Gf|apply Gg|apply Gh|apply Gi);·first|rfl|assumption)|((with_reducible first|apply Gj|apply Gk|apply Gl|apply Gm);·first|assumption|rfl)|((with_reducible apply Tr.xV);·exact⟨Nat.le_of_ble_eq_true rfl,rfl,rfl⟩)|((with_reducible apply Tr.xAgg);·exact⟨Nat.le_of_ble_eq_true rfl,rfl⟩)|((with_reducible apply Tr.xPAgg);·exact⟨Nat.le_of_ble_eq_true rfl,rfl,rfl⟩)|((with_reducible first|refine Tr.ck ?_ ?_|apply Tr.xSome|apply Tr.xCells);·first|rfl|omega|(simp only[gnd] at hb;omega))|((with_reducible refine Tr.same ?_ ?_);·first|exact sameV_sl _ _ _|exact sameV_ptr _|exact sameV_int _ _|exact sameV_bool _|exact sameV_str _)|((with_reducible apply Tr.xCellsB);·exact⟨Nat.le_of_ble_eq_true rfl,rfl⟩)|((with_reducible apply Tr.asBytes);·exact bytesN1_byteCells _)|(refine Tr.some fun _=>?_;exact⟨rfl,rfl⟩)|fail)
    rw [Int.toNat_natCast]
    refine Tr.xBoolS (v := getB w t) (bools_at (by omega)) ?_
    cases hb : (getB w f == getB w t) with
    | false =>
      refine Tr.condT rfl ?_
      (repeat' first|(with_reducible first|refine Ga ?_|refine Gn fun b h=>?_|apply Tr.andG|apply Tr.orG|refine Tr.xFits ?_|rintro px rfl|refine fun(h:H)=>?_|intro hb)|((with_reducible first|apply Gb|apply Gc|apply Gd|apply Ge|apply Gf|apply Gg|apply Gh|apply Gi);·first|rfl|assumption)|((with_reducible first|apply Gj|apply Gk|apply Gl|apply Gm);·first|assumption|rfl)|((with_reducible apply Tr.xV);·exact⟨Nat.le_of_ble_eq_true rfl,rfl,rfl⟩)|((with_reducible apply Tr.xAgg);·exact⟨Nat.le_of_ble_eq_true rfl,rfl⟩)|((with_reducible apply Tr.xPAgg);·exact⟨Nat.le_of_ble_eq_true rfl,rfl,rfl⟩)|((with_reducible first|refine Tr.ck ?_ ?_|apply Tr.xSome|apply Tr.xCells);·first|rfl|omega|(simp only[gnd] at hb;omega))|((with_reducible refine Tr.same ?_ ?_);·first|exact sameV_sl _ _ _|exact sameV_ptr _|exact sameV_int _ _|exact sameV_bool _|exact sameV_str _)|((with_reducible apply Tr.xCellsB);·exact⟨Nat.le_of_ble_eq_true rfl,rfl⟩)|((with_reducible apply Tr.asBytes);·exact bytesN1_byteCells _)|(refine Tr.some fun _=>?_;exact⟨rfl,rfl⟩)|fail)
      rw [Int.toNat_natCast]
      refine Tr.xVS (cs' := bools (w.set f true)) ⟨by simp; omega, rfl, bools_set _ _⟩ fun h' => ?_
      (repeat' first|(with_reducible first|refine Ga ?_|refine Gn fun b h=>?_|apply Tr.andG|apply Tr.orG|refine Tr.xFits ?_|rintro px rfl|refine fun(h:H)=>?_|intro hb)|((with_reducible first|apply Gb|apply Gc|apply Gd|apply Ge|apply Gf|apply Gg|apply Gh|apply Gi);·first|rfl|assumption)|((with_reducible first|apply Gj|apply Gk|apply Gl|apply Gm);·first|assumption|rfl)|((with_reducible apply Tr.xV);·exact⟨Nat.le_of_ble_eq_true rfl,rfl,rfl⟩)|((with_reducible apply Tr.xAgg);·exact⟨Nat.le_of_ble_eq_true rfl,rfl⟩)|((with_reducible apply Tr.xPAgg);·exact⟨Nat.le_of_ble_eq_true rfl,rfl,rfl⟩)|((with_reducible first|refine Tr.ck ?_ ?_|apply Tr.xSome|apply Tr.xCells);·first|rfl|omega|(simp only[gnd] at hb;omega))|((with_reducible refine Tr.same ?_ ?_);·first|exact sameV_sl _ _ _|exact sameV_ptr _|exact sameV_int _ _|exact sameV_bool _|exact sameV_str _)|((with_reducible apply Tr.xCellsB);·exact⟨Nat.le_of_ble_eq_true rfl,rfl⟩)|((with_reducible apply Tr.asBytes);·exact bytesN1_byteCells _)|(refine Tr.some fun _=>?_;exact⟨rfl,rfl⟩)|fail)
      rw [Int.toNat_natCast]
      refine Tr.xVS (cs' := bools ((w.set f true).set t true)) ⟨by simp; omega, rfl, bools_set _ _⟩ fun h' => ?_
      have es : step2 (w, more) (f, t) = ((w.set f true).set t true, true) := by unfold step2; rw [if_neg (by rw [hb]; simp)]
      rw [es] at J
      rw [e1]
      intro ow
      exact ih (i + 1) _ true (by omega) (by omega) (by simp; omega) J h' _ ow.tail
    | true =>
      refine Tr.condF rfl ?_
      have es : step2 (w, more) (f, t) = (w, more) := by unfold step2; rw [if_pos hb]
      rw [es] at J
      rw [e1]
      intro ow
      exact ih (i + 1) w more (by omega) (by omega) ho J h' _ ow.tail
theorem ct_LC_done (pb : Nat) (a0 : Option Addr) (n c0 : Nat) (a1 : Option Addr) (ro : Bool) (c1 : Nat) (l : List (Int × Int)) (lease : Int) (a : Option Addr) (c : Nat) (w : List Bool) :
    CtJ JUMP F_law24_Closure T_law24_Closure_L1 [(1, P0 pb), (3, .slice a n c), (4, .bool false)] (tcC pb a0 n c0 a1 ro c1 l lease a c w)
      fun v own => v = .slice a n c ∧ own [slC false Y_bool 1 a n c (bools w), slC ro Y_api_Bridge 2 a1 l.length c1 (flat l)] := by
  refine CtJ.of k_law24_Closure fun h r => Tr.eq (e_law24_Closure_L1 ..) ?_; (try simp only[nrm,nrmL,aSome_some,Nat.reduceAdd,Nat.reduceMul,Int.reduceToNat])
  refine Tr.condF rfl ?_
  refine Tr.some fun o => ?_
  exact ⟨rfl, o.sub⟩
theorem ct_LC_L1 (pb : Nat) (a0 : Option Addr) (n c0 : Nat) (a1 : Option Addr) (ro : Bool) (c1 : Nat) (l : List (Int × Int)) (lease : Int) (a : Option Addr) (c : Nat) (hl : l.length ≤ most) (hok : l.any (badB n) = false) : ∀ (m : Nat) (w : List Bool), w.length = n → n - cnt w ≤ m →
    CtJ JUMP F_law24_Closure T_law24_Closure_L1 [(1, P0 pb), (3, .slice a n c), (4, .bool true)] (tcC pb a0 n c0 a1 ro c1 l lease a c w)
      fun v own => v = .slice a n c ∧ own [slC false Y_bool 1 a n c (bools (itR (l.map nb) n w)), slC ro Y_api_Bridge 2 a1 l.length c1 (flat l)] := by
  intro m
  induction m with
  | zero =>
    intro w hw hm
    have hfit := fits_of hok
    have J : CtJ JUMP F_law24_Closure T_law24_Closure_L1 [(1, P0 pb), (3, .slice a n c), (4, .bool (R2 ((l.drop 0).map nb) (w, false)).2)] (tcC pb a0 n c0 a1 ro c1 l lease a c (R2 ((l.drop 0).map nb) (w, false)).1)
        fun v own => v = .slice a n c ∧ own [slC false Y_bool 1 a n c (bools (itR (l.map nb) n w)), slC ro Y_api_Bridge 2 a1 l.length c1 (flat l)] := by
      rw [List.drop_zero, R2_fst]
      cases h2 : (R2 (l.map nb) (w, false)).2 with
      | false =>
        have h3 := (R2_still _ _ h2).2
        replace h3 : R (l.map nb) w = w := h3
        show CtJ JUMP F_law24_Closure T_law24_Closure_L1 _ (tcC pb a0 n c0 a1 ro c1 l lease a c (R (l.map nb) w)) _
        rw [itR_fix h3, h3]; exact ct_LC_done pb a0 n c0 a1 ro c1 l lease a c w
      | true =>
        rcases (R2_cnt _ hfit (w, false) hw).2 h2 with h4 | h4
        · cases h4
        · rw [R2_fst] at h4
          have h5 := cnt_le (R (l.map nb) w)
          rw [R_len, hw] at h5
          replace h4 : cnt w < cnt (R (l.map nb) w) := h4
          omega
    have K := ct_LC_L2 pb a0 n c0 a1 ro c1 l lease a c hl hok _ _ 0 w false rfl (by omega) hw J
    refine CtJ.of k_law24_Closure fun h r => Tr.eq (e_law24_Closure_L1 ..) ?_; (try simp only[nrm,nrmL,aSome_some,Nat.reduceAdd,Nat.reduceMul,Int.reduceToNat])
    refine Tr.condT rfl ?_
    exact K h r
  | succ m ih =>
    intro w hw hm
    have hfit := fits_of hok
    have J : CtJ JUMP F_law24_Closure T_law24_Closure_L1 [(1, P0 pb), (3, .slice a n c), (4, .bool (R2 ((l.drop 0).map nb) (w, false)).2)] (tcC pb a0 n c0 a1 ro c1 l lease a c (R2 ((l.drop 0).map nb) (w, false)).1)
        fun v own => v = .slice a n c ∧ own [slC false Y_bool 1 a n c (bools (itR (l.map nb) n w)), slC ro Y_api_Bridge 2 a1 l.length c1 (flat l)] := by
      rw [List.drop_zero, R2_fst]
      show CtJ JUMP F_law24_Closure T_law24_Closure_L1 _ (tcC pb a0 n c0 a1 ro c1 l lease a c (R (l.map nb) w)) _
      cases h2 : (R2 (l.map nb) (w, false)).2 with
      | false =>
        have h3 := (R2_still _ _ h2).2
        replace h3 : R (l.map nb) w = w := h3
        rw [itR_fix h3, h3]; exact ct_LC_done pb a0 n c0 a1 ro c1 l lease a c w
      | true =>
        rcases (R2_cnt _ hfit (w, false) hw).2 h2 with h4 | h4
        · cases h4
        · rw [R2_fst] at h4
          replace h4 : cnt w < cnt (R (l.map nb) w) := h4
          have K := ih (R (l.map nb) w) (by rw [R_len]; exact hw) (by omega)
          rw [itR_comm, itR_still (l.map nb) hfit n w hw (by omega)] at K
          exact K
    have K := ct_LC_L2 pb a0 n c0 a1 ro c1 l lease a c hl hok _ _ 0 w false rfl (by omega) hw J
    refine CtJ.of k_law24_Closure fun h r => Tr.eq (e_law24_Closure_L1 ..) ?_; (try simp only[nrm,nrmL,aSome_some,Nat.reduceAdd,Nat.reduceMul,Int.reduceToNat])
    refine Tr.condT rfl ?_
    exact K h r
theorem ct_LClosure (a0 : Option Addr) (c0 : Nat) (bads : List Bool) (rb : Bool) (a1 : Option Addr) (ro : Bool) (c1 : Nat) (l : List (Int × Int)) (lease : Int) (hl : l.length ≤ most) (hk : planOkB bads.length l lease = true) :
    Ct CALL F_law24_Closure [.agg ⟨planL a0 bads.length c0 a1 l.length c1 lease⟩] [slC rb Y_bool 1 a0 bads.length c0 (bools bads), slC ro Y_api_Bridge 2 a1 l.length c1 (flat l)]
      fun v own => ∃ a c, v = .slice a ((closeL bads l lease).getD []).length c ∧ own [ownC (closeL bads l lease) a c, slC rb Y_bool 1 a0 bads.length c0 (bools bads), slC ro Y_api_Bridge 2 a1 l.length c1 (flat l)] := by
  have hk2 : bads.length ≤ 4 ∧ l.any (badB bads.length) = false := by
    simp only [planOkB, Bool.and_eq_true, decide_eq_true_eq, Bool.not_eq_true'] at hk
    exact ⟨by omega, hk.2⟩
  have e : closeL bads l lease = some (itR (l.map nb) bads.length bads) := by unfold closeL; rw [hk]; rfl
  rw [e]
  simp only [ownC, Option.getD_some, itR_len]
  refine Ct.of k_law24_Closure rfl fun h r => Tr.eq (e_law24_Closure ..) ?_; (try simp only[nrm,nrmL,aSome_some,Nat.reduceAdd,Nat.reduceMul,Int.reduceToNat])
  refine Tr.nw fun pb h => ?_
  refine Tr.nw fun b2 h => ?_
  refine tr_asSl 0 rfl 1 0 rfl (by omega) ?_
  simp only [List.set_cons_zero]
  (repeat' first|(with_reducible first|refine Ga ?_|refine Gn fun b h=>?_|apply Tr.andG|apply Tr.orG|refine Tr.xFits ?_|rintro px rfl|refine fun(h:H)=>?_|intro hb)|((with_reducible first|apply Gb|apply Gc|apply Gd|apply Ge|apply Gf|apply Gg|apply Gh|apply Gi);·first|rfl|assumption)|((with_reducible first|apply Gj|apply Gk|apply Gl|apply Gm);·first|assumption|rfl)|((with_reducible apply Tr.xV);·exact⟨Nat.le_of_ble_eq_true rfl,rfl,rfl⟩)|((with_reducible apply Tr.xAgg);·exact⟨Nat.le_of_ble_eq_true rfl,rfl⟩)|((with_reducible apply Tr.xPAgg);·exact⟨Nat.le_of_ble_eq_true rfl,rfl,rfl⟩)|((with_reducible first|refine Tr.ck ?_ ?_|apply Tr.xSome|apply Tr.xCells);·first|rfl|omega|(simp only[gnd] at hb;omega))|((with_reducible refine Tr.same ?_ ?_);·first|exact sameV_sl _ _ _|exact sameV_ptr _|exact sameV_int _ _|exact sameV_bool _|exact sameV_str _)|((with_reducible apply Tr.xCellsB);·exact⟨Nat.le_of_ble_eq_true rfl,rfl⟩)|((with_reducible apply Tr.asBytes);·exact bytesN1_byteCells _)|(refine Tr.some fun _=>?_;exact⟨rfl,rfl⟩)|fail)
  refine Tr.xApd ⟨by simp, by simp [Value.oneCell], by simp only [most]; omega⟩ fun a c h => ?_
  (try simp only[nrm,nrmL,aSome_some,Nat.reduceAdd,Nat.reduceMul,Int.reduceToNat])
  have J := ct_LC_L1 pb a0 bads.length c0 a1 ro c1 l lease a c hl hk2.2 bads.length bads rfl (by omega)
  refine Tr.xRun (J) ?_; rintro _ h ⟨rfl, o⟩
  exact ⟨a, c, rfl, o.sub⟩
end Go.EQ
