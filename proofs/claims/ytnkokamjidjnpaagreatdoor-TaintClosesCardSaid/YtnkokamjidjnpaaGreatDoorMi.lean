/- TaintCloses returns true whatever it is given: a plan, whole numbers, a whole number; and the card ties the two tables that its code names to the program's text. No condition. -/
import Derived.Test.YtnkokamjidjnpaaGreatDoorMh
import Derived.Test.YtnkokamjidjnpaaGreatDoorCards
import Derived.Test.YtnkokamjidjnpaaGreatDoorTie
import Derived.LaidMore
import Derived.OpenShut
import Derived.Stop.Joined
import Derived.ProofKit
import Derived.SevenTiedAt
set_option linter.unusedVariables false
set_option linter.unusedSimpArgs false
set_option linter.unusedSectionVars false
set_option linter.unusedSimpArgs false
set_option linter.unusedVariables false
set_option maxRecDepth 10000
namespace Go.EQ
open Go Go.NN
theorem ct_same_L1 (ra rb : Bool) (a : Option Addr) (ac : Nat) (e : Option Addr) (ec : Nat) (w : List Bool) (hl : w.length ≤ most) : ∀ (m i : Nat), w.length - i = m → i ≤ w.length →
    CtPJ JUMP F_law24_same T_law24_same_L1 [(0, .slice a w.length ac), (1, .slice e w.length ec), (5, int i)] [slC ra Y_bool 1 a w.length ac (bools w), slC rb Y_bool 1 e w.length ec (bools w)] (.bool true) := by
  intro m
  induction m with
  | zero =>
    intro i hm hi
    refine CtPJ.of k_law24_same fun h r => Tr.eq (e_law24_same_L1 ..) ?_; (try simp only[nrm,nrmL,aSome_some,Nat.reduceAdd,Nat.reduceMul,Int.reduceToNat])
    refine Tr.condF (by simp; omega) ?_
    refine Tr.some fun o => ?_
    exact ⟨rfl, rfl⟩
  | succ m ih =>
    intro i hm hi
    have e1 : IntKind.wrap .i64 ((i : Int) + 1) = ((i + 1 : Nat) : Int) := by rw [wrap_eq]; simp only [most] at hl; omega
    refine CtPJ.of k_law24_same fun h r => Tr.eq (e_law24_same_L1 ..) ?_; (try simp only[nrm,nrmL,aSome_some,Nat.reduceAdd,Nat.reduceMul,Int.reduceToNat])
    refine Tr.condT (by simp; omega) ?_
    (repeat' first|(with_reducible first|refine Ga ?_|refine Gn fun b h=>?_|apply Tr.andG|apply Tr.orG|refine Tr.xFits ?_|rintro px rfl|refine fun(h:H)=>?_|intro hb)|((with_reducible first|apply Gb|apply Gc|apply Gd|apply Ge|apply Gf|apply Gg|apply Gh|apply Gi);·first|rfl|assumption)|((with_reducible first|apply Gj|apply Gk|apply Gl|apply Gm);·first|assumption|rfl)|((with_reducible apply Tr.xV);·exact⟨Nat.le_of_ble_eq_true rfl,rfl,rfl⟩)|((with_reducible apply Tr.xAgg);·exact⟨Nat.le_of_ble_eq_true rfl,rfl⟩)|((with_reducible apply Tr.xPAgg);·exact⟨Nat.le_of_ble_eq_true rfl,rfl,rfl⟩)|((with_reducible first|refine Tr.ck ?_ ?_|apply Tr.xSome|apply Tr.xCells);·first|rfl|omega|(simp only[gnd] at hb;omega))|((with_reducible refine Tr.same ?_ ?_);·first|exact sameV_sl _ _ _|exact sameV_ptr _|exact sameV_int _ _|exact sameV_bool _|exact sameV_str _)|((with_reducible apply Tr.xCellsB);·exact⟨Nat.le_of_ble_eq_true rfl,rfl⟩)|((with_reducible apply Tr.asBytes);·exact bytesN1_byteCells _)|(refine Tr.some fun _=>?_;exact⟨rfl,rfl⟩)|fail)
    refine Tr.xBoolS (v := getB w i) (by simpa using bools_at (by omega)) ?_
    (repeat' first|(with_reducible first|refine Ga ?_|refine Gn fun b h=>?_|apply Tr.andG|apply Tr.orG|refine Tr.xFits ?_|rintro px rfl|refine fun(h:H)=>?_|intro hb)|((with_reducible first|apply Gb|apply Gc|apply Gd|apply Ge|apply Gf|apply Gg|apply Gh|apply Gi);·first|rfl|assumption)|((with_reducible first|apply Gj|apply Gk|apply Gl|apply Gm);·first|assumption|rfl)|((with_reducible apply Tr.xV);·exact⟨Nat.le_of_ble_eq_true rfl,rfl,rfl⟩)|((with_reducible apply Tr.xAgg);·exact⟨Nat.le_of_ble_eq_true rfl,rfl⟩)|((with_reducible apply Tr.xPAgg);·exact⟨Nat.le_of_ble_eq_true rfl,rfl,rfl⟩)|((with_reducible first|refine Tr.ck ?_ ?_|apply Tr.xSome|apply Tr.xCells);·first|rfl|omega|(simp only[gnd] at hb;omega))|((with_reducible refine Tr.same ?_ ?_);·first|exact sameV_sl _ _ _|exact sameV_ptr _|exact sameV_int _ _|exact sameV_bool _|exact sameV_str _)|((with_reducible apply Tr.xCellsB);·exact⟨Nat.le_of_ble_eq_true rfl,rfl⟩)|((with_reducible apply Tr.asBytes);·exact bytesN1_byteCells _)|(refine Tr.some fun _=>?_;exact⟨rfl,rfl⟩)|fail)
    refine Tr.xBoolS (v := getB w i) (by simpa using bools_at (by omega)) ?_
    refine Tr.condF (by simp) ?_
    rw [e1]
    exact tr_prunO (ih (i + 1) (by omega) (by omega)) (r := r) (by simp) fun o => ⟨rfl, rfl⟩
theorem ct_same (ra rb : Bool) (a : Option Addr) (ac : Nat) (e : Option Addr) (ec : Nat) (w : List Bool) (hl : w.length ≤ most) :
    CtP CALL F_law24_same [.slice a w.length ac, .slice e w.length ec] [slC ra Y_bool 1 a w.length ac (bools w), slC rb Y_bool 1 e w.length ec (bools w)] (.bool true) := by
  refine CtP.of k_law24_same rfl fun h r => Tr.eq (e_law24_same ..) ?_; (try simp only[nrm,nrmL,aSome_some,Nat.reduceAdd,Nat.reduceMul,Int.reduceToNat])
  refine Tr.condF (by simp) ?_
  exact tr_prunO (ct_same_L1 ra rb a ac e ec w hl _ 0 rfl (by omega)) (r := r) (by simp) fun o => ⟨rfl, rfl⟩
abbrev lC (l : List Int) (a : Option Addr) (c : Nat) : HP := slC true Y_int 1 a l.length c (l.map int)
def planP (v : Value) (own : List HP → Prop) (ll : HP) : Prop := ∃ (a0 : Option Addr) (c0 : Nat) (bads : List Bool) (a1 : Option Addr) (c1 : Nat) (l : List (Int × Int)) (lease : Int), bads.length ≤ 20 ∧ l.length ≤ 20 ∧ v = .agg ⟨planL a0 bads.length c0 a1 l.length c1 lease⟩ ∧
  own [slC false Y_bool 1 a0 bads.length c0 (bools bads), slC false Y_api_Bridge 2 a1 l.length c1 (flat l), ll]
theorem ct_Plan_L2 (l : List Int) (la : Option Addr) (lc : Nat) (x4 p : Nat) (n : Nat) (hn : 1 ≤ n ∧ n ≤ 4) : ∀ (m i : Nat) (a0 : Option Addr) (c0 : Nat) (bads : List Bool) (a1 : Option Addr) (c1 : Nat) (bs : List (Int × Int)) (lease : Int) (z : List Value), 5 - i = m → 1 ≤ i → i ≤ 5 → bads.length ≤ 20 → bs.length ≤ i → z.length = 3 →
    CtJ JUMP F_law22_Plan T_law22_Plan_L2 [(0, .slice la l.length lc), (4, P0 x4), (5, P0 p), (7, int n), (9, int i)]
      [pt p (.cells Y_api_Plan false (planL a0 bads.length c0 a1 bs.length c1 lease)), slC false Y_bool 1 a0 bads.length c0 (bools bads), slC false Y_api_Bridge 2 a1 bs.length c1 (flat bs), pt x4 (.cells Y_api_Plan false z), lC l la lc]
      fun v own => planP v own (lC l la lc) := by
  have fin : ∀ (i : Nat) (a0 : Option Addr) (c0 : Nat) (bads : List Bool) (a1 : Option Addr) (c1 : Nat) (bs : List (Int × Int)) (lease : Int) (z : List Value), bads.length ≤ 20 → bs.length ≤ 20 → z.length = 3 → (decide ((i : Int) < (l.length : Int)) && decide ((i : Int) < 5) && decide ((n : Int) > 1)) = false →
    CtJ JUMP F_law22_Plan T_law22_Plan_L2 [(0, .slice la l.length lc), (4, P0 x4), (5, P0 p), (7, int n), (9, int i)]
      [pt p (.cells Y_api_Plan false (planL a0 bads.length c0 a1 bs.length c1 lease)), slC false Y_bool 1 a0 bads.length c0 (bools bads), slC false Y_api_Bridge 2 a1 bs.length c1 (flat bs), pt x4 (.cells Y_api_Plan false z), lC l la lc]
      fun v own => planP v own (lC l la lc) := by
    intro i a0 c0 bads a1 c1 bs lease z h1 h2 h3 hf
    obtain ⟨z0, z1, z2, rfl⟩ : ∃ z0 z1 z2, z = [z0, z1, z2] := by
      match z, h3 with
      | [z0, z1, z2], _ => exact ⟨_, _, _, rfl⟩
    refine CtJ.of k_law22_Plan fun h r => Tr.eq (e_law22_Plan_L2 ..) ?_; (try simp only[nrm,nrmL,aSome_some,Nat.reduceAdd,Nat.reduceMul,Int.reduceToNat])
    (repeat' first|(with_reducible first|refine Ga ?_|refine Gn fun b h=>?_|apply Tr.andG|apply Tr.orG|refine Tr.xFits ?_|rintro px rfl|refine fun(h:H)=>?_|intro hb)|((with_reducible first|apply Gb|apply Gc|apply Gd|apply Ge|apply Gf|apply Gg|apply Gh|apply Gi);·first|rfl|assumption)|((with_reducible first|apply Gj|apply Gk|apply Gl|apply Gm);·first|assumption|rfl)|((with_reducible apply Tr.xV);·exact⟨Nat.le_of_ble_eq_true rfl,rfl,rfl⟩)|((with_reducible apply Tr.xAgg);·exact⟨Nat.le_of_ble_eq_true rfl,rfl⟩)|((with_reducible apply Tr.xPAgg);·exact⟨Nat.le_of_ble_eq_true rfl,rfl,rfl⟩)|((with_reducible first|refine Tr.ck ?_ ?_|apply Tr.xSome|apply Tr.xCells);·first|rfl|omega|(simp only[gnd] at hb;omega))|((with_reducible refine Tr.same ?_ ?_);·first|exact sameV_sl _ _ _|exact sameV_ptr _|exact sameV_int _ _|exact sameV_bool _|exact sameV_str _)|((with_reducible apply Tr.xCellsB);·exact⟨Nat.le_of_ble_eq_true rfl,rfl⟩)|((with_reducible apply Tr.asBytes);·exact bytesN1_byteCells _)|(refine Tr.some fun _=>?_;exact⟨rfl,rfl⟩)|fail)
    refine Tr.condF hf ?_
    refine Tr.xAgg (xs := planL a0 bads.length c0 a1 bs.length c1 lease) ⟨Nat.le_of_ble_eq_true rfl, rfl⟩ ?_
    refine Tr.ck (by rfl) ?_
    refine Tr.xPAgg (cs' := planL a0 bads.length c0 a1 bs.length c1 lease) ⟨Nat.le_of_ble_eq_true rfl, rfl, rfl⟩ fun h => ?_
    refine Tr.xAgg (xs := planL a0 bads.length c0 a1 bs.length c1 lease) ⟨Nat.le_of_ble_eq_true rfl, rfl⟩ ?_
    refine Tr.some fun o => ?_
    exact ⟨a0, c0, bads, a1, c1, bs, lease, h1, h2, rfl, o.sub⟩
  intro m
  induction m with
  | zero =>
    intro i a0 c0 bads a1 c1 bs lease z hm hi hi5 h1 h2 h3
    have e : i = 5 := by omega
    subst e
    exact fin 5 a0 c0 bads a1 c1 bs lease z h1 (by omega) h3 (by simp)
  | succ m ih =>
    intro i a0 c0 bads a1 c1 bs lease z hm hi hi5 h1 h2 h3
    cases hg : (decide ((i : Int) < (l.length : Int)) && decide ((i : Int) < 5) && decide ((n : Int) > 1)) with
    | false => exact fin i a0 c0 bads a1 c1 bs lease z h1 (by omega) h3 hg
    | true =>
      have hg2 : i < l.length ∧ i < 5 ∧ 1 < n := by
        simp only [Bool.and_eq_true, decide_eq_true_eq] at hg
        omega
      have hp : l[i]? = some l[i] := List.getElem?_eq_getElem hg2.1
      generalize l[i] = q at hp
      have e1 : IntKind.wrap .i64 ((i : Int) + 1) = ((i + 1 : Nat) : Int) := by rw [wrap_eq]; omega
      have e2 : IntKind.wrap .i64 ((n : Int) - 1) = ((n - 1 : Nat) : Int) := by rw [wrap_eq]; omega
      refine CtJ.of k_law22_Plan fun h r => Tr.eq (e_law22_Plan_L2 ..) ?_; (try simp only[nrm,nrmL,aSome_some,Nat.reduceAdd,Nat.reduceMul,Int.reduceToNat])
      (repeat' first|(with_reducible first|refine Ga ?_|refine Gn fun b h=>?_|apply Tr.andG|apply Tr.orG|refine Tr.xFits ?_|rintro px rfl|refine fun(h:H)=>?_|intro hb)|((with_reducible first|apply Gb|apply Gc|apply Gd|apply Ge|apply Gf|apply Gg|apply Gh|apply Gi);·first|rfl|assumption)|((with_reducible first|apply Gj|apply Gk|apply Gl|apply Gm);·first|assumption|rfl)|((with_reducible apply Tr.xV);·exact⟨Nat.le_of_ble_eq_true rfl,rfl,rfl⟩)|((with_reducible apply Tr.xAgg);·exact⟨Nat.le_of_ble_eq_true rfl,rfl⟩)|((with_reducible apply Tr.xPAgg);·exact⟨Nat.le_of_ble_eq_true rfl,rfl,rfl⟩)|((with_reducible first|refine Tr.ck ?_ ?_|apply Tr.xSome|apply Tr.xCells);·first|rfl|omega|(simp only[gnd] at hb;omega))|((with_reducible refine Tr.same ?_ ?_);·first|exact sameV_sl _ _ _|exact sameV_ptr _|exact sameV_int _ _|exact sameV_bool _|exact sameV_str _)|((with_reducible apply Tr.xCellsB);·exact⟨Nat.le_of_ble_eq_true rfl,rfl⟩)|((with_reducible apply Tr.asBytes);·exact bytesN1_byteCells _)|(refine Tr.some fun _=>?_;exact⟨rfl,rfl⟩)|fail)
      refine Tr.condT hg ?_
      (repeat' first|(with_reducible first|refine Ga ?_|refine Gn fun b h=>?_|apply Tr.andG|apply Tr.orG|refine Tr.xFits ?_|rintro px rfl|refine fun(h:H)=>?_|intro hb)|((with_reducible first|apply Gb|apply Gc|apply Gd|apply Ge|apply Gf|apply Gg|apply Gh|apply Gi);·first|rfl|assumption)|((with_reducible first|apply Gj|apply Gk|apply Gl|apply Gm);·first|assumption|rfl)|((with_reducible apply Tr.xV);·exact⟨Nat.le_of_ble_eq_true rfl,rfl,rfl⟩)|((with_reducible apply Tr.xAgg);·exact⟨Nat.le_of_ble_eq_true rfl,rfl⟩)|((with_reducible apply Tr.xPAgg);·exact⟨Nat.le_of_ble_eq_true rfl,rfl,rfl⟩)|((with_reducible first|refine Tr.ck ?_ ?_|apply Tr.xSome|apply Tr.xCells);·first|rfl|omega|(simp only[gnd] at hb;omega))|((with_reducible refine Tr.same ?_ ?_);·first|exact sameV_sl _ _ _|exact sameV_ptr _|exact sameV_int _ _|exact sameV_bool _|exact sameV_str _)|((with_reducible apply Tr.xCellsB);·exact⟨Nat.le_of_ble_eq_true rfl,rfl⟩)|((with_reducible apply Tr.asBytes);·exact bytesN1_byteCells _)|(refine Tr.some fun _=>?_;exact⟨rfl,rfl⟩)|fail)
      refine Tr.xIntS (v := q) (by simp [hp]) ?_
      (repeat' first|(with_reducible first|refine Ga ?_|refine Gn fun b h=>?_|apply Tr.andG|apply Tr.orG|refine Tr.xFits ?_|rintro px rfl|refine fun(h:H)=>?_|intro hb)|((with_reducible first|apply Gb|apply Gc|apply Gd|apply Ge|apply Gf|apply Gg|apply Gh|apply Gi);·first|rfl|assumption)|((with_reducible first|apply Gj|apply Gk|apply Gl|apply Gm);·first|assumption|rfl)|((with_reducible apply Tr.xV);·exact⟨Nat.le_of_ble_eq_true rfl,rfl,rfl⟩)|((with_reducible apply Tr.xAgg);·exact⟨Nat.le_of_ble_eq_true rfl,rfl⟩)|((with_reducible apply Tr.xPAgg);·exact⟨Nat.le_of_ble_eq_true rfl,rfl,rfl⟩)|((with_reducible first|refine Tr.ck ?_ ?_|apply Tr.xSome|apply Tr.xCells);·first|rfl|omega|(simp only[gnd] at hb;omega))|((with_reducible refine Tr.same ?_ ?_);·first|exact sameV_sl _ _ _|exact sameV_ptr _|exact sameV_int _ _|exact sameV_bool _|exact sameV_str _)|((with_reducible apply Tr.xCellsB);·exact⟨Nat.le_of_ble_eq_true rfl,rfl⟩)|((with_reducible apply Tr.asBytes);·exact bytesN1_byteCells _)|(refine Tr.some fun _=>?_;exact⟨rfl,rfl⟩)|fail)
      rw [e2]
      (repeat' first|(with_reducible first|refine Ga ?_|refine Gn fun b h=>?_|apply Tr.andG|apply Tr.orG|refine Tr.xFits ?_|rintro px rfl|refine fun(h:H)=>?_|intro hb)|((with_reducible first|apply Gb|apply Gc|apply Gd|apply Ge|apply Gf|apply Gg|apply Gh|apply Gi);·first|rfl|assumption)|((with_reducible first|apply Gj|apply Gk|apply Gl|apply Gm);·first|assumption|rfl)|((with_reducible apply Tr.xV);·exact⟨Nat.le_of_ble_eq_true rfl,rfl,rfl⟩)|((with_reducible apply Tr.xAgg);·exact⟨Nat.le_of_ble_eq_true rfl,rfl⟩)|((with_reducible apply Tr.xPAgg);·exact⟨Nat.le_of_ble_eq_true rfl,rfl,rfl⟩)|((with_reducible first|refine Tr.ck ?_ ?_|apply Tr.xSome|apply Tr.xCells);·first|rfl|omega|(simp only[gnd] at hb;omega))|((with_reducible refine Tr.same ?_ ?_);·first|exact sameV_sl _ _ _|exact sameV_ptr _|exact sameV_int _ _|exact sameV_bool _|exact sameV_str _)|((with_reducible apply Tr.xCellsB);·exact⟨Nat.le_of_ble_eq_true rfl,rfl⟩)|((with_reducible apply Tr.asBytes);·exact bytesN1_byteCells _)|(refine Tr.some fun _=>?_;exact⟨rfl,rfl⟩)|fail)
      generalize Int.tmod (bitA .i64 q 65535) (n : Int) = A
      generalize Int.tmod (IntKind.wrap .i64 (IntKind.wrap .i64 (A + 1) + Int.tmod (Int.fdiv (bitA .i64 q 65535) (2 ^ 4)) ((n - 1 : Nat) : Int))) (n : Int) = B
      (repeat' first|(with_reducible first|refine Ga ?_|refine Gn fun b h=>?_|apply Tr.andG|apply Tr.orG|refine Tr.xFits ?_|rintro px rfl|refine fun(h:H)=>?_|intro hb)|((with_reducible first|apply Gb|apply Gc|apply Gd|apply Ge|apply Gf|apply Gg|apply Gh|apply Gi);·first|rfl|assumption)|((with_reducible first|apply Gj|apply Gk|apply Gl|apply Gm);·first|assumption|rfl)|((with_reducible apply Tr.xV);·exact⟨Nat.le_of_ble_eq_true rfl,rfl,rfl⟩)|((with_reducible apply Tr.xAgg);·exact⟨Nat.le_of_ble_eq_true rfl,rfl⟩)|((with_reducible apply Tr.xPAgg);·exact⟨Nat.le_of_ble_eq_true rfl,rfl,rfl⟩)|((with_reducible first|refine Tr.ck ?_ ?_|apply Tr.xSome|apply Tr.xCells);·first|rfl|omega|(simp only[gnd] at hb;omega))|((with_reducible refine Tr.same ?_ ?_);·first|exact sameV_sl _ _ _|exact sameV_ptr _|exact sameV_int _ _|exact sameV_bool _|exact sameV_str _)|((with_reducible apply Tr.xCellsB);·exact⟨Nat.le_of_ble_eq_true rfl,rfl⟩)|((with_reducible apply Tr.asBytes);·exact bytesN1_byteCells _)|(refine Tr.some fun _=>?_;exact⟨rfl,rfl⟩)|fail)
      refine Tr.xApd (new := [int A, int B]) ⟨by simp, by rfl, by simp only [most]; omega⟩ fun a' c' h => ?_
      (try simp only[nrm,nrmL,aSome_some,Nat.reduceAdd,Nat.reduceMul,Int.reduceToNat])
      (repeat' first|(with_reducible first|refine Ga ?_|refine Gn fun b h=>?_|apply Tr.andG|apply Tr.orG|refine Tr.xFits ?_|rintro px rfl|refine fun(h:H)=>?_|intro hb)|((with_reducible first|apply Gb|apply Gc|apply Gd|apply Ge|apply Gf|apply Gg|apply Gh|apply Gi);·first|rfl|assumption)|((with_reducible first|apply Gj|apply Gk|apply Gl|apply Gm);·first|assumption|rfl)|((with_reducible apply Tr.xV);·exact⟨Nat.le_of_ble_eq_true rfl,rfl,rfl⟩)|((with_reducible apply Tr.xAgg);·exact⟨Nat.le_of_ble_eq_true rfl,rfl⟩)|((with_reducible apply Tr.xPAgg);·exact⟨Nat.le_of_ble_eq_true rfl,rfl,rfl⟩)|((with_reducible first|refine Tr.ck ?_ ?_|apply Tr.xSome|apply Tr.xCells);·first|rfl|omega|(simp only[gnd] at hb;omega))|((with_reducible refine Tr.same ?_ ?_);·first|exact sameV_sl _ _ _|exact sameV_ptr _|exact sameV_int _ _|exact sameV_bool _|exact sameV_str _)|((with_reducible apply Tr.xCellsB);·exact⟨Nat.le_of_ble_eq_true rfl,rfl⟩)|((with_reducible apply Tr.asBytes);·exact bytesN1_byteCells _)|(refine Tr.some fun _=>?_;exact⟨rfl,rfl⟩)|fail)
      simp only [List.set_cons_zero, List.set_cons_succ]
      rw [e1]
      have em : flat (bs ++ [(A, B)]) = flat bs ++ [int A, int B] := by simp [flat, brL]
      have el : (bs ++ [(A, B)]).length = bs.length + 1 := by simp
      have ih2 := ih (i + 1) a0 c0 bads a' c' (bs ++ [(A, B)]) lease z (by omega) (by omega) (by omega) h1 (by simp; omega) h3
      rw [em, el] at ih2
      refine Tr.xRun (ih2) ?_; rintro _ h o
      obtain ⟨a0, c0, bads, a1, c1, l2, lease, k1, k2, rfl, o⟩ := o
      exact ⟨a0, c0, bads, a1, c1, l2, lease, k1, k2, rfl, o.sub⟩
end Go.EQ

set_option linter.unusedSimpArgs false
set_option linter.unusedVariables false
set_option maxRecDepth 10000
namespace Go.EQ
open Go Go.NN
theorem flat_nil : flat [] = [] := rfl
theorem ct_Plan_L1 (l : List Int) (la : Option Addr) (lc : Nat) (x4 p : Nat) (n : Nat) (hn : 1 ≤ n ∧ n ≤ 4) (x : Int) : ∀ (m i : Nat) (a0 : Option Addr) (c0 : Nat) (bads : List Bool) (lease : Int) (z : List Value), n - i = m → i ≤ n → bads.length = i → z.length = 3 →
    CtJ JUMP F_law22_Plan T_law22_Plan_L1 [(0, .slice la l.length lc), (4, P0 x4), (5, P0 p), (6, int x), (7, int n), (8, int i)]
      [pt p (.cells Y_api_Plan false (planL a0 bads.length c0 none 0 0 lease)), slC false Y_bool 1 a0 bads.length c0 (bools bads), slC false Y_api_Bridge 2 none 0 0 [], pt x4 (.cells Y_api_Plan false z), lC l la lc]
      fun v own => planP v own (lC l la lc) := by
  intro m
  induction m with
  | zero =>
    intro i a0 c0 bads lease z hm hi hb h3
    have J := ct_Plan_L2 l la lc x4 p n hn _ 1 a0 c0 bads none 0 [] lease z rfl (by omega) (by omega) (by omega) (by simp) h3
    simp only [List.length_nil, flat_nil] at J
    refine CtJ.of k_law22_Plan fun h r => Tr.eq (e_law22_Plan_L1 ..) ?_; (try simp only[nrm,nrmL,aSome_some,Nat.reduceAdd,Nat.reduceMul,Int.reduceToNat])
    refine Tr.condF (by simp; omega) ?_
    refine Tr.xRun (J) ?_; rintro _ h o
    obtain ⟨a0, c0, bads, a1, c1, l2, lease, k1, k2, rfl, o⟩ := o
    exact ⟨a0, c0, bads, a1, c1, l2, lease, k1, k2, rfl, o.sub⟩
  | succ m ih =>
    intro i a0 c0 bads lease z hm hi hb h3
    have e1 : IntKind.wrap .i64 ((i : Int) + 1) = ((i + 1 : Nat) : Int) := by rw [wrap_eq]; omega
    have e2 : IntKind.wrap .i64 (3 + (i : Int)) = ((3 + i : Nat) : Int) := by rw [wrap_eq]; omega
    refine CtJ.of k_law22_Plan fun h r => Tr.eq (e_law22_Plan_L1 ..) ?_; (try simp only[nrm,nrmL,aSome_some,Nat.reduceAdd,Nat.reduceMul,Int.reduceToNat])
    refine Tr.condT (by simp; omega) ?_
    (repeat' first|(with_reducible first|refine Ga ?_|refine Gn fun b h=>?_|apply Tr.andG|apply Tr.orG|refine Tr.xFits ?_|rintro px rfl|refine fun(h:H)=>?_|intro hb)|((with_reducible first|apply Gb|apply Gc|apply Gd|apply Ge|apply Gf|apply Gg|apply Gh|apply Gi);·first|rfl|assumption)|((with_reducible first|apply Gj|apply Gk|apply Gl|apply Gm);·first|assumption|rfl)|((with_reducible apply Tr.xV);·exact⟨Nat.le_of_ble_eq_true rfl,rfl,rfl⟩)|((with_reducible apply Tr.xAgg);·exact⟨Nat.le_of_ble_eq_true rfl,rfl⟩)|((with_reducible apply Tr.xPAgg);·exact⟨Nat.le_of_ble_eq_true rfl,rfl,rfl⟩)|((with_reducible first|refine Tr.ck ?_ ?_|apply Tr.xSome|apply Tr.xCells);·first|rfl|omega|(simp only[gnd] at hb;omega))|((with_reducible refine Tr.same ?_ ?_);·first|exact sameV_sl _ _ _|exact sameV_ptr _|exact sameV_int _ _|exact sameV_bool _|exact sameV_str _)|((with_reducible apply Tr.xCellsB);·exact⟨Nat.le_of_ble_eq_true rfl,rfl⟩)|((with_reducible apply Tr.asBytes);·exact bytesN1_byteCells _)|(refine Tr.some fun _=>?_;exact⟨rfl,rfl⟩)|fail)
    rw [e2]
    (repeat' first|(with_reducible first|refine Ga ?_|refine Gn fun b h=>?_|apply Tr.andG|apply Tr.orG|refine Tr.xFits ?_|rintro px rfl|refine fun(h:H)=>?_|intro hb)|((with_reducible first|apply Gb|apply Gc|apply Gd|apply Ge|apply Gf|apply Gg|apply Gh|apply Gi);·first|rfl|assumption)|((with_reducible first|apply Gj|apply Gk|apply Gl|apply Gm);·first|assumption|rfl)|((with_reducible apply Tr.xV);·exact⟨Nat.le_of_ble_eq_true rfl,rfl,rfl⟩)|((with_reducible apply Tr.xAgg);·exact⟨Nat.le_of_ble_eq_true rfl,rfl⟩)|((with_reducible apply Tr.xPAgg);·exact⟨Nat.le_of_ble_eq_true rfl,rfl,rfl⟩)|((with_reducible first|refine Tr.ck ?_ ?_|apply Tr.xSome|apply Tr.xCells);·first|rfl|omega|(simp only[gnd] at hb;omega))|((with_reducible refine Tr.same ?_ ?_);·first|exact sameV_sl _ _ _|exact sameV_ptr _|exact sameV_int _ _|exact sameV_bool _|exact sameV_str _)|((with_reducible apply Tr.xCellsB);·exact⟨Nat.le_of_ble_eq_true rfl,rfl⟩)|((with_reducible apply Tr.asBytes);·exact bytesN1_byteCells _)|(refine Tr.some fun _=>?_;exact⟨rfl,rfl⟩)|fail)
    generalize (bitA .i64 (Int.fdiv x (2 ^ (min (Int.toNat ((3 + i : Nat) : Int)) 64))) 1 == 1) = B
    refine Tr.xApd (new := [.bool B]) ⟨by simp, by rfl, by simp only [most]; omega⟩ fun a' c' h => ?_
    (try simp only[nrm,nrmL,aSome_some,Nat.reduceAdd,Nat.reduceMul,Int.reduceToNat])
    (repeat' first|(with_reducible first|refine Ga ?_|refine Gn fun b h=>?_|apply Tr.andG|apply Tr.orG|refine Tr.xFits ?_|rintro px rfl|refine fun(h:H)=>?_|intro hb)|((with_reducible first|apply Gb|apply Gc|apply Gd|apply Ge|apply Gf|apply Gg|apply Gh|apply Gi);·first|rfl|assumption)|((with_reducible first|apply Gj|apply Gk|apply Gl|apply Gm);·first|assumption|rfl)|((with_reducible apply Tr.xV);·exact⟨Nat.le_of_ble_eq_true rfl,rfl,rfl⟩)|((with_reducible apply Tr.xAgg);·exact⟨Nat.le_of_ble_eq_true rfl,rfl⟩)|((with_reducible apply Tr.xPAgg);·exact⟨Nat.le_of_ble_eq_true rfl,rfl,rfl⟩)|((with_reducible first|refine Tr.ck ?_ ?_|apply Tr.xSome|apply Tr.xCells);·first|rfl|omega|(simp only[gnd] at hb;omega))|((with_reducible refine Tr.same ?_ ?_);·first|exact sameV_sl _ _ _|exact sameV_ptr _|exact sameV_int _ _|exact sameV_bool _|exact sameV_str _)|((with_reducible apply Tr.xCellsB);·exact⟨Nat.le_of_ble_eq_true rfl,rfl⟩)|((with_reducible apply Tr.asBytes);·exact bytesN1_byteCells _)|(refine Tr.some fun _=>?_;exact⟨rfl,rfl⟩)|fail)
    simp only [List.set_cons_zero, List.set_cons_succ]
    rw [e1]
    have em : bools (bads ++ [B]) = bools bads ++ [.bool B] := by simp
    have el : (bads ++ [B]).length = bads.length + 1 := by simp
    have ih2 := ih (i + 1) a' c' (bads ++ [B]) lease z (by omega) (by omega) (by simp; omega) h3
    rw [em, el] at ih2
    refine Tr.xRun (ih2) ?_; rintro _ h o
    obtain ⟨a0, c0, bads, a1, c1, l2, lease, k1, k2, rfl, o⟩ := o
    exact ⟨a0, c0, bads, a1, c1, l2, lease, k1, k2, rfl, o.sub⟩
theorem ct_Plan_R1 (l : List Int) (la : Option Addr) (lc : Nat) (x4 p : Nat) (x : Int) (hx : 0 ≤ x ∧ x < 16777216) (lease : Int) (z : List Value) (h3 : z.length = 3) :
    CtJ JUMP F_law22_Plan T_law22_Plan_R1 [(0, .slice la l.length lc), (4, P0 x4), (5, P0 p), (6, int x)]
      [pt p (.cells Y_api_Plan false (planL none 0 0 none 0 0 lease)), pt x4 (.cells Y_api_Plan false z), lC l la lc]
      fun v own => planP v own (lC l la lc) := by
  have e1 : IntKind.wrap .i64 (Int.tmod x 4 + 1) = ((x.toNat % 4 + 1 : Nat) : Int) := by
    rw [Int.tmod_eq_emod_of_nonneg hx.1, wrap_eq]; omega
  have J := ct_Plan_L1 l la lc x4 p (x.toNat % 4 + 1) (by omega) x _ 0 none 0 [] lease z rfl (by omega) rfl h3
  simp only [List.length_nil, List.map_nil] at J
  refine CtJ.of k_law22_Plan fun h r => Tr.eq (e_law22_Plan_R1 ..) ?_; (try simp only[nrm,nrmL,aSome_some,Nat.reduceAdd,Nat.reduceMul,Int.reduceToNat])
  rw [e1]
  refine tr_nilSl false Y_bool 1 (by omega) ?_
  refine tr_nilSl false Y_api_Bridge 2 (by omega) ?_
  refine Tr.xRun (J) ?_; rintro _ h o
  obtain ⟨a0, c0, bads, a1, c1, l2, lease, k1, k2, rfl, o⟩ := o
  exact ⟨a0, c0, bads, a1, c1, l2, lease, k1, k2, rfl, o.sub⟩
theorem ct_Plan (l : List Int) (la : Option Addr) (lc : Nat) (lease : Int) : Ct CALL F_law22_Plan [.slice la l.length lc, int lease] [lC l la lc] fun v own => planP v own (lC l la lc) := by
  refine Ct.of k_law22_Plan rfl fun h r => Tr.eq (e_law22_Plan ..) ?_; (try simp only[nrm,nrmL,aSome_some,Nat.reduceAdd,Nat.reduceMul,Int.reduceToNat])
  refine Tr.nw fun x4 h => ?_
  refine Tr.nw fun p h => ?_
  refine Tr.xPAgg (cs' := planL none 0 0 none 0 0 (IntKind.wrap .i64 (bitA .i64 lease 7 + 1))) ⟨Nat.le_of_ble_eq_true rfl, rfl, rfl⟩ fun h => ?_
  rcases Nat.eq_zero_or_pos l.length with h0 | h0
  · refine Tr.condF (decide_eq_false (by omega)) ?_
    refine Tr.xRun (ct_Plan_R1 l la lc x4 p 0 (by omega) (IntKind.wrap .i64 (bitA .i64 lease 7 + 1)) [.slice none 0 0, .slice none 0 0, int 0] rfl) ?_; rintro _ h o
    obtain ⟨a0, c0, bads, a1, c1, l2, lease, k1, k2, rfl, o⟩ := o
    exact ⟨a0, c0, bads, a1, c1, l2, lease, k1, k2, rfl, o.sub⟩
  · have hp : l[0]? = some l[0] := List.getElem?_eq_getElem h0
    generalize l[0] = q at hp
    have hm := bitA_mask q 24 (by omega)
    replace hm : bitA .i64 q 16777215 = q % 16777216 := hm
    refine Tr.condT (decide_eq_true (by omega)) ?_
    (repeat' first|(with_reducible first|refine Ga ?_|refine Gn fun b h=>?_|apply Tr.andG|apply Tr.orG|refine Tr.xFits ?_|rintro px rfl|refine fun(h:H)=>?_|intro hb)|((with_reducible first|apply Gb|apply Gc|apply Gd|apply Ge|apply Gf|apply Gg|apply Gh|apply Gi);·first|rfl|assumption)|((with_reducible first|apply Gj|apply Gk|apply Gl|apply Gm);·first|assumption|rfl)|((with_reducible apply Tr.xV);·exact⟨Nat.le_of_ble_eq_true rfl,rfl,rfl⟩)|((with_reducible apply Tr.xAgg);·exact⟨Nat.le_of_ble_eq_true rfl,rfl⟩)|((with_reducible apply Tr.xPAgg);·exact⟨Nat.le_of_ble_eq_true rfl,rfl,rfl⟩)|((with_reducible first|refine Tr.ck ?_ ?_|apply Tr.xSome|apply Tr.xCells);·first|rfl|omega|(simp only[gnd] at hb;omega))|((with_reducible refine Tr.same ?_ ?_);·first|exact sameV_sl _ _ _|exact sameV_ptr _|exact sameV_int _ _|exact sameV_bool _|exact sameV_str _)|((with_reducible apply Tr.xCellsB);·exact⟨Nat.le_of_ble_eq_true rfl,rfl⟩)|((with_reducible apply Tr.asBytes);·exact bytesN1_byteCells _)|(refine Tr.some fun _=>?_;exact⟨rfl,rfl⟩)|fail)
    refine Tr.xIntS (v := q) (by simp [hp]) ?_
    rw [hm]
    refine Tr.xRun (ct_Plan_R1 l _ lc x4 p (q % 16777216) (by omega) (IntKind.wrap .i64 (bitA .i64 lease 7 + 1)) [.slice none 0 0, .slice none 0 0, int 0] rfl) ?_; rintro _ h o
    obtain ⟨a0, c0, bads, a1, c1, l2, lease, k1, k2, rfl, o⟩ := o
    exact ⟨a0, c0, bads, a1, c1, l2, lease, k1, k2, rfl, o.sub⟩
end Go.EQ

set_option linter.unusedSimpArgs false
set_option linter.unusedVariables false
set_option maxRecDepth 100000
namespace Go.EQ
open Go Go.NN
theorem noGlobs : ∀ f, (cutsOf f).globs = 0 := cutsAt_globs cutsL (by kernel_rfl)
theorem globsOk : ∀ f, (cutsOf f).globs ≤ PR.globals.size := fun f => by rw [noGlobs f]; exact Nat.zero_le _
theorem mixedOk : PR.follows .mixedOrders = true := by kernel_rfl
theorem ct_awake (W : World) : Ct CALL F_law24_awake [] [] fun v own => v = .bool true ∧ own [] := Go.NF.closedF W mixedOk noGlobs tabs_ok tabs_rx 3000 (by kernel_rfl)
theorem closeL_len (bads : List Bool) (l : List (Int × Int)) (lease : Int) (h : bads.length ≤ 20) : ((closeL bads l lease).getD []).length ≤ most := by
  unfold closeL
  split
  · simp only [Option.getD_some, itR_len, most]; omega
  · simp [most]
abbrev lawC (p : Nat) (rb ro : Bool) (a0 : Option Addr) (c0 : Nat) (bads : List Bool) (a1 : Option Addr) (c1 : Nat) (bs : List (Int × Int)) (le : Int) : List HP :=
  [pt p (.cells Y_api_Plan false (planL a0 bads.length c0 a1 bs.length c1 le)), slC rb Y_bool 1 a0 bads.length c0 (bools bads), slC ro Y_api_Bridge 2 a1 bs.length c1 (flat bs)]
def NextJ (p : Nat) (ll : List Int) (la : Option Addr) (lc : Nat) (lease : Int) (i : Nat) : Prop :=
  ∀ (rb ro : Bool) (a0 : Option Addr) (c0 : Nat) (bads : List Bool) (a1 : Option Addr) (c1 : Nat) (bs : List (Int × Int)) (le : Int), bads.length ≤ 20 → bs.length ≤ 20 →
    CtJ JUMP F_law24_TaintCloses T_law24_TaintCloses_L1 [(1, .slice la ll.length lc), (2, int lease), (7, P0 p), (8, int i)] (lawC p rb ro a0 c0 bads a1 c1 bs le ++ [lC ll la lc]) fun v own => v = .bool true
theorem ct_R1 (p : Nat) (ll : List Int) (la : Option Addr) (lc : Nat) (lease : Int) (i : Nat) (hi : i < 2) (J : NextJ p ll la lc lease (i + 1)) (rb ro : Bool) (a0 : Option Addr) (c0 : Nat) (bads : List Bool) (a1 : Option Addr) (c1 : Nat) (bs : List (Int × Int)) (le : Int) (h1 : bads.length ≤ 20) (h2 : bs.length ≤ 20) (wa : Option Addr) (wc : Nat) :
    CtJ JUMP F_law24_TaintCloses T_law24_TaintCloses_R1 [(1, .slice la ll.length lc), (2, int lease), (7, P0 p), (8, int i), (9, .slice wa ((closeL bads bs le).getD []).length wc)]
      (ownC (closeL bads bs le) wa wc :: (lawC p rb ro a0 c0 bads a1 c1 bs le ++ [lC ll la lc])) fun v own => v = .bool true := by
  have e1 : IntKind.wrap .i64 ((i : Int) + 1) = ((i + 1 : Nat) : Int) := by rw [wrap_eq]; omega
  have hm1 : bads.length ≤ most := by simp only [most]; omega
  have hm2 : bs.length ≤ most := by simp only [most]; omega
  refine CtJ.of k_law24_TaintCloses fun h r => Tr.eq (e_law24_TaintCloses_R1 ..) ?_; (try simp only[nrm,nrmL,aSome_some,Nat.reduceAdd,Nat.reduceMul,Int.reduceToNat])
  refine Tr.xAgg (xs := planL a0 bads.length c0 a1 bs.length c1 le) ⟨Nat.le_of_ble_eq_true rfl, rfl⟩ ?_
  refine Tr.xCall (ct_TClosure a0 c0 bads rb a1 ro c1 bs le hm2 hm1) ?_; rintro _ h ⟨ta, tc, rfl, o⟩ <;> (refine (?_ : Tr _ _ _ _) o; (try simp only[nrm,nrmL,aSome_some,Nat.reduceAdd,Nat.reduceMul,Int.reduceToNat]); (repeat' first|(with_reducible first|refine Ga ?_|refine Gn fun b h=>?_|apply Tr.andG|apply Tr.orG|refine Tr.xFits ?_|rintro px rfl|refine fun(h:H)=>?_|intro hb)|((with_reducible first|apply Gb|apply Gc|apply Gd|apply Ge|apply Gf|apply Gg|apply Gh|apply Gi);·first|rfl|assumption)|((with_reducible first|apply Gj|apply Gk|apply Gl|apply Gm);·first|assumption|rfl)|((with_reducible apply Tr.xV);·exact⟨Nat.le_of_ble_eq_true rfl,rfl,rfl⟩)|((with_reducible apply Tr.xAgg);·exact⟨Nat.le_of_ble_eq_true rfl,rfl⟩)|((with_reducible apply Tr.xPAgg);·exact⟨Nat.le_of_ble_eq_true rfl,rfl,rfl⟩)|((with_reducible first|refine Tr.ck ?_ ?_|apply Tr.xSome|apply Tr.xCells);·first|rfl|omega|(simp only[gnd] at hb;omega))|((with_reducible refine Tr.same ?_ ?_);·first|exact sameV_sl _ _ _|exact sameV_ptr _|exact sameV_int _ _|exact sameV_bool _|exact sameV_str _)|((with_reducible apply Tr.xCellsB);·exact⟨Nat.le_of_ble_eq_true rfl,rfl⟩)|((with_reducible apply Tr.asBytes);·exact bytesN1_byteCells _)|(refine Tr.some fun _=>?_;exact⟨rfl,rfl⟩)|fail))
  refine Tr.pcall (ct_same false false ta tc wa wc ((closeL bads bs le).getD []) (closeL_len bads bs le h1)) ?_; (try simp only[nrm,nrmL,aSome_some,Nat.reduceAdd,Nat.reduceMul,Int.reduceToNat]); (repeat' first|(with_reducible first|refine Ga ?_|refine Gn fun b h=>?_|apply Tr.andG|apply Tr.orG|refine Tr.xFits ?_|rintro px rfl|refine fun(h:H)=>?_|intro hb)|((with_reducible first|apply Gb|apply Gc|apply Gd|apply Ge|apply Gf|apply Gg|apply Gh|apply Gi);·first|rfl|assumption)|((with_reducible first|apply Gj|apply Gk|apply Gl|apply Gm);·first|assumption|rfl)|((with_reducible apply Tr.xV);·exact⟨Nat.le_of_ble_eq_true rfl,rfl,rfl⟩)|((with_reducible apply Tr.xAgg);·exact⟨Nat.le_of_ble_eq_true rfl,rfl⟩)|((with_reducible apply Tr.xPAgg);·exact⟨Nat.le_of_ble_eq_true rfl,rfl,rfl⟩)|((with_reducible first|refine Tr.ck ?_ ?_|apply Tr.xSome|apply Tr.xCells);·first|rfl|omega|(simp only[gnd] at hb;omega))|((with_reducible refine Tr.same ?_ ?_);·first|exact sameV_sl _ _ _|exact sameV_ptr _|exact sameV_int _ _|exact sameV_bool _|exact sameV_str _)|((with_reducible apply Tr.xCellsB);·exact⟨Nat.le_of_ble_eq_true rfl,rfl⟩)|((with_reducible apply Tr.asBytes);·exact bytesN1_byteCells _)|(refine Tr.some fun _=>?_;exact⟨rfl,rfl⟩)|fail)
  refine Tr.xCall (ct_Plan ll la lc lease) ?_
  rintro _ h ⟨b0, d0, bads2, b1, d1, l2, le2, k1, k2, rfl, o⟩
  refine (?_ : Tr _ _ _ _) o
  (try simp only[nrm,nrmL,aSome_some,Nat.reduceAdd,Nat.reduceMul,Int.reduceToNat])
  refine Tr.dx ?_
  refine Tr.ck (by rfl) ?_
  refine Tr.xPAgg (cs' := planL b0 bads2.length d0 b1 l2.length d1 le2) ⟨Nat.le_of_ble_eq_true rfl, rfl, rfl⟩ fun h => ?_
  rw [e1]
  have J2 := J false false b0 d0 bads2 b1 d1 l2 le2 k1 k2
  simp only [lawC, List.cons_append, List.nil_append] at J2
  refine Tr.xRun (J2) ?_; rintro _ h rfl
  rfl
theorem ct_L1 (W : World) (p : Nat) (ll : List Int) (la : Option Addr) (lc : Nat) (lease : Int) : ∀ (m i : Nat), 2 - i = m → i ≤ 2 → NextJ p ll la lc lease i := by
  intro m
  induction m with
  | zero =>
    intro i hm hi rb ro a0 c0 bads a1 c1 bs le h1 h2
    refine CtJ.of k_law24_TaintCloses fun h r => Tr.eq (e_law24_TaintCloses_L1 ..) ?_; (try simp only[nrm,nrmL,aSome_some,Nat.reduceAdd,Nat.reduceMul,Int.reduceToNat])
    refine Tr.condF (by simp; omega) ?_
    refine Tr.xCall (ct_awake W) ?_; rintro _ h ⟨rfl, o⟩ <;> (refine (?_ : Tr _ _ _ _) o; (try simp only[nrm,nrmL,aSome_some,Nat.reduceAdd,Nat.reduceMul,Int.reduceToNat]); (repeat' first|(with_reducible first|refine Ga ?_|refine Gn fun b h=>?_|apply Tr.andG|apply Tr.orG|refine Tr.xFits ?_|rintro px rfl|refine fun(h:H)=>?_|intro hb)|((with_reducible first|apply Gb|apply Gc|apply Gd|apply Ge|apply Gf|apply Gg|apply Gh|apply Gi);·first|rfl|assumption)|((with_reducible first|apply Gj|apply Gk|apply Gl|apply Gm);·first|assumption|rfl)|((with_reducible apply Tr.xV);·exact⟨Nat.le_of_ble_eq_true rfl,rfl,rfl⟩)|((with_reducible apply Tr.xAgg);·exact⟨Nat.le_of_ble_eq_true rfl,rfl⟩)|((with_reducible apply Tr.xPAgg);·exact⟨Nat.le_of_ble_eq_true rfl,rfl,rfl⟩)|((with_reducible first|refine Tr.ck ?_ ?_|apply Tr.xSome|apply Tr.xCells);·first|rfl|omega|(simp only[gnd] at hb;omega))|((with_reducible refine Tr.same ?_ ?_);·first|exact sameV_sl _ _ _|exact sameV_ptr _|exact sameV_int _ _|exact sameV_bool _|exact sameV_str _)|((with_reducible apply Tr.xCellsB);·exact⟨Nat.le_of_ble_eq_true rfl,rfl⟩)|((with_reducible apply Tr.asBytes);·exact bytesN1_byteCells _)|(refine Tr.some fun _=>?_;exact⟨rfl,rfl⟩)|fail))
    refine Tr.some fun o => ?_
    rfl
  | succ m ih =>
    intro i hm hi rb ro a0 c0 bads a1 c1 bs le h1 h2
    have J := ih (i + 1) (by omega) (by omega)
    have hm1 : bads.length ≤ most := by simp only [most]; omega
    have hm2 : bs.length ≤ most := by simp only [most]; omega
    have hR := ct_R1 p ll la lc lease i (by omega) J rb ro a0 c0 bads a1 c1 bs le h1 h2
    simp only [lawC, List.cons_append, List.nil_append] at hR
    simp only [lawC, List.cons_append, List.nil_append]
    refine CtJ.of k_law24_TaintCloses fun h r => Tr.eq (e_law24_TaintCloses_L1 ..) ?_; (try simp only[nrm,nrmL,aSome_some,Nat.reduceAdd,Nat.reduceMul,Int.reduceToNat])
    refine Tr.condT (by simp; omega) ?_
    refine Tr.xAgg (xs := planL a0 bads.length c0 a1 bs.length c1 le) ⟨Nat.le_of_ble_eq_true rfl, rfl⟩ ?_
    refine Tr.xCall (ct_PlanOk a0 bads.length c0 a1 ro c1 bs le hm2) ?_; rintro _ h ⟨rfl, o⟩ <;> (refine (?_ : Tr _ _ _ _) o; (try simp only[nrm,nrmL,aSome_some,Nat.reduceAdd,Nat.reduceMul,Int.reduceToNat]); (repeat' first|(with_reducible first|refine Ga ?_|refine Gn fun b h=>?_|apply Tr.andG|apply Tr.orG|refine Tr.xFits ?_|rintro px rfl|refine fun(h:H)=>?_|intro hb)|((with_reducible first|apply Gb|apply Gc|apply Gd|apply Ge|apply Gf|apply Gg|apply Gh|apply Gi);·first|rfl|assumption)|((with_reducible first|apply Gj|apply Gk|apply Gl|apply Gm);·first|assumption|rfl)|((with_reducible apply Tr.xV);·exact⟨Nat.le_of_ble_eq_true rfl,rfl,rfl⟩)|((with_reducible apply Tr.xAgg);·exact⟨Nat.le_of_ble_eq_true rfl,rfl⟩)|((with_reducible apply Tr.xPAgg);·exact⟨Nat.le_of_ble_eq_true rfl,rfl,rfl⟩)|((with_reducible first|refine Tr.ck ?_ ?_|apply Tr.xSome|apply Tr.xCells);·first|rfl|omega|(simp only[gnd] at hb;omega))|((with_reducible refine Tr.same ?_ ?_);·first|exact sameV_sl _ _ _|exact sameV_ptr _|exact sameV_int _ _|exact sameV_bool _|exact sameV_str _)|((with_reducible apply Tr.xCellsB);·exact⟨Nat.le_of_ble_eq_true rfl,rfl⟩)|((with_reducible apply Tr.asBytes);·exact bytesN1_byteCells _)|(refine Tr.some fun _=>?_;exact⟨rfl,rfl⟩)|fail))
    cases hk : planOkB bads.length bs le with
    | true =>
      refine Tr.condT rfl ?_
      refine Tr.xAgg (xs := planL a0 bads.length c0 a1 bs.length c1 le) ⟨Nat.le_of_ble_eq_true rfl, rfl⟩ ?_
      refine Tr.xCall (ct_LClosure a0 c0 bads rb a1 ro c1 bs le hm2 hk) ?_; rintro _ h ⟨wa, wc, rfl, o⟩ <;> (refine (?_ : Tr _ _ _ _) o; (try simp only[nrm,nrmL,aSome_some,Nat.reduceAdd,Nat.reduceMul,Int.reduceToNat]); (repeat' first|(with_reducible first|refine Ga ?_|refine Gn fun b h=>?_|apply Tr.andG|apply Tr.orG|refine Tr.xFits ?_|rintro px rfl|refine fun(h:H)=>?_|intro hb)|((with_reducible first|apply Gb|apply Gc|apply Gd|apply Ge|apply Gf|apply Gg|apply Gh|apply Gi);·first|rfl|assumption)|((with_reducible first|apply Gj|apply Gk|apply Gl|apply Gm);·first|assumption|rfl)|((with_reducible apply Tr.xV);·exact⟨Nat.le_of_ble_eq_true rfl,rfl,rfl⟩)|((with_reducible apply Tr.xAgg);·exact⟨Nat.le_of_ble_eq_true rfl,rfl⟩)|((with_reducible apply Tr.xPAgg);·exact⟨Nat.le_of_ble_eq_true rfl,rfl,rfl⟩)|((with_reducible first|refine Tr.ck ?_ ?_|apply Tr.xSome|apply Tr.xCells);·first|rfl|omega|(simp only[gnd] at hb;omega))|((with_reducible refine Tr.same ?_ ?_);·first|exact sameV_sl _ _ _|exact sameV_ptr _|exact sameV_int _ _|exact sameV_bool _|exact sameV_str _)|((with_reducible apply Tr.xCellsB);·exact⟨Nat.le_of_ble_eq_true rfl,rfl⟩)|((with_reducible apply Tr.asBytes);·exact bytesN1_byteCells _)|(refine Tr.some fun _=>?_;exact⟨rfl,rfl⟩)|fail))
      refine Tr.xRun (hR wa wc) ?_; rintro _ h rfl
      rfl
    | false =>
      refine Tr.condF rfl ?_
      have e : closeL bads bs le = none := by unfold closeL; rw [hk]; rfl
      have hR2 := hR none 0
      rw [e] at hR2
      simp only [ownC, Option.getD_none, List.length_nil, List.map_nil] at hR2
      refine tr_nilSl false Y_bool 1 (by omega) ?_
      refine Tr.xRun (hR2) ?_; rintro _ h rfl
      rfl
theorem ct_TaintCloses (W : World) (rb ro : Bool) (a0 : Option Addr) (c0 : Nat) (bads : List Bool) (a1 : Option Addr) (c1 : Nat) (bs : List (Int × Int)) (le : Int) (ll : List Int) (la : Option Addr) (lc : Nat) (lease : Int) :
    Ct CALL F_law24_TaintCloses [.agg ⟨planL a0 bads.length c0 a1 bs.length c1 le⟩, .slice la ll.length lc, int lease] [slC rb Y_bool 1 a0 bads.length c0 (bools bads), slC ro Y_api_Bridge 2 a1 bs.length c1 (flat bs), lC ll la lc] fun v own => v = .bool true := by
  refine Ct.of k_law24_TaintCloses rfl fun h r => Tr.eq (e_law24_TaintCloses ..) ?_; (try simp only[nrm,nrmL,aSome_some,Nat.reduceAdd,Nat.reduceMul,Int.reduceToNat])
  refine Tr.nw fun pb h => ?_
  (repeat' first|(with_reducible first|refine Ga ?_|refine Gn fun b h=>?_|apply Tr.andG|apply Tr.orG|refine Tr.xFits ?_|rintro px rfl|refine fun(h:H)=>?_|intro hb)|((with_reducible first|apply Gb|apply Gc|apply Gd|apply Ge|apply Gf|apply Gg|apply Gh|apply Gi);·first|rfl|assumption)|((with_reducible first|apply Gj|apply Gk|apply Gl|apply Gm);·first|assumption|rfl)|((with_reducible apply Tr.xV);·exact⟨Nat.le_of_ble_eq_true rfl,rfl,rfl⟩)|((with_reducible apply Tr.xAgg);·exact⟨Nat.le_of_ble_eq_true rfl,rfl⟩)|((with_reducible apply Tr.xPAgg);·exact⟨Nat.le_of_ble_eq_true rfl,rfl,rfl⟩)|((with_reducible first|refine Tr.ck ?_ ?_|apply Tr.xSome|apply Tr.xCells);·first|rfl|omega|(simp only[gnd] at hb;omega))|((with_reducible refine Tr.same ?_ ?_);·first|exact sameV_sl _ _ _|exact sameV_ptr _|exact sameV_int _ _|exact sameV_bool _|exact sameV_str _)|((with_reducible apply Tr.xCellsB);·exact⟨Nat.le_of_ble_eq_true rfl,rfl⟩)|((with_reducible apply Tr.asBytes);·exact bytesN1_byteCells _)|(refine Tr.some fun _=>?_;exact⟨rfl,rfl⟩)|fail)
  cases hc : (decide ((bads.length : Int) > 20) || decide ((bs.length : Int) > 20)) with
  | true =>
    refine Tr.condT rfl ?_
    refine Tr.xCall (ct_awake W) ?_; rintro _ h ⟨rfl, o⟩ <;> (refine (?_ : Tr _ _ _ _) o; (try simp only[nrm,nrmL,aSome_some,Nat.reduceAdd,Nat.reduceMul,Int.reduceToNat]); (repeat' first|(with_reducible first|refine Ga ?_|refine Gn fun b h=>?_|apply Tr.andG|apply Tr.orG|refine Tr.xFits ?_|rintro px rfl|refine fun(h:H)=>?_|intro hb)|((with_reducible first|apply Gb|apply Gc|apply Gd|apply Ge|apply Gf|apply Gg|apply Gh|apply Gi);·first|rfl|assumption)|((with_reducible first|apply Gj|apply Gk|apply Gl|apply Gm);·first|assumption|rfl)|((with_reducible apply Tr.xV);·exact⟨Nat.le_of_ble_eq_true rfl,rfl,rfl⟩)|((with_reducible apply Tr.xAgg);·exact⟨Nat.le_of_ble_eq_true rfl,rfl⟩)|((with_reducible apply Tr.xPAgg);·exact⟨Nat.le_of_ble_eq_true rfl,rfl,rfl⟩)|((with_reducible first|refine Tr.ck ?_ ?_|apply Tr.xSome|apply Tr.xCells);·first|rfl|omega|(simp only[gnd] at hb;omega))|((with_reducible refine Tr.same ?_ ?_);·first|exact sameV_sl _ _ _|exact sameV_ptr _|exact sameV_int _ _|exact sameV_bool _|exact sameV_str _)|((with_reducible apply Tr.xCellsB);·exact⟨Nat.le_of_ble_eq_true rfl,rfl⟩)|((with_reducible apply Tr.asBytes);·exact bytesN1_byteCells _)|(refine Tr.some fun _=>?_;exact⟨rfl,rfl⟩)|fail))
    refine Tr.some fun o => ?_
    rfl
  | false =>
    refine Tr.condF rfl ?_
    have hb : bads.length ≤ 20 ∧ bs.length ≤ 20 := by
      simp only [Bool.or_eq_false_iff, decide_eq_false_iff_not] at hc
      omega
    refine Tr.xAgg (xs := planL a0 bads.length c0 a1 bs.length c1 le) ⟨Nat.le_of_ble_eq_true rfl, rfl⟩ ?_
    refine Tr.nw fun p h => ?_
    refine Tr.ck (by rfl) ?_
    refine Tr.xPAgg (cs' := planL a0 bads.length c0 a1 bs.length c1 le) ⟨Nat.le_of_ble_eq_true rfl, rfl, rfl⟩ fun h => ?_
    have J := ct_L1 W p ll la lc lease _ 0 rfl (by omega) rb ro a0 c0 bads a1 c1 bs le hb.1 hb.2
    simp only [lawC, List.cons_append, List.nil_append] at J
    refine Tr.xRun (J) ?_; rintro _ h rfl
    rfl
end Go.EQ

set_option maxRecDepth 100000
namespace Go.EQ
open Go Go.NN Go.Proofs Go.Proofs.YtnkokamjidjnpaaGreatDoor Go.ChangeShapes Go.WideShapes Go.RowKit
theorem laidOk : laidOutB PR = true := by kernel_rfl
theorem ownOk : ownKnob PR.godebug = none := by kernel_rfl
theorem bridgeT {W : World} : ImpT PR W Y_api_Bridge (fun (_ : Unit) (x : Int × Int) => brL x) (fun _ _ => sl []) (fun _ => True) :=
  (ImpT.struct u_api_Bridge (by kernel_rfl) (ImpL.cons (ImpT.int u_int) (ImpL.cons (ImpT.int u_int) ImpL.nil))).as
    fun ⟨f, t, _⟩ _ => ⟨(f, t), trivial, fun _ => ⟨(), rfl, fun hh r o => o.of_sl 0 rfl⟩⟩
theorem zip_flat : ∀ (g : List Unit) (l : List (Int × Int)), g.length = l.length → ((List.zip g l).flatMap fun p => brL p.2) = flat l
  | [], [], _ => rfl
  | _ :: g, x :: l, h => by
    have := zip_flat g l (by simpa using h)
    simp only [List.zip_cons_cons, List.flatMap_cons, flat] at this ⊢
    rw [this]
theorem zip_bools : ∀ (g : List Unit) (l : List Bool), g.length = l.length → ((List.zip g l).flatMap fun p => [Value.bool p.2]) = bools l
  | [], [], _ => rfl
  | _ :: g, x :: l, h => by
    have := zip_bools g l (by simpa using h)
    simp only [List.zip_cons_cons, List.flatMap_cons, List.map_cons, List.singleton_append] at this ⊢
    rw [this]
theorem bridgesT {W : World} : ImpT PR W Y_s_api_Bridge (fun (g : Option Addr × Nat) (l : List (Int × Int)) => [.slice g.1 l.length g.2]) (fun g l => slC true Y_api_Bridge 2 g.1 l.length g.2 (flat l)) (fun _ => True) :=
  (ImpT.slice (sz := 2) Y_api_Bridge u_s_api_Bridge (by kernel_rfl) (by omega) (fun _ _ => rfl) bridgeT).as fun l _ => ⟨l, trivial, fun g => ⟨g.1, rfl, fun hh r o => by
    have hp := (o.of_sl 2 rfl).pure
    have := o.of_sl 0 rfl
    rwa [zip_flat g.2 l hp] at this⟩⟩
theorem boolsT {W : World} : ImpT PR W Y_s_bool (fun (g : Option Addr × Nat) (l : List Bool) => [.slice g.1 l.length g.2]) (fun g l => slC true Y_bool 1 g.1 l.length g.2 (bools l)) (fun _ => True) :=
  (ImpT.slice (sz := 1) Y_bool u_s_bool (by kernel_rfl) (by omega) (fun _ _ => rfl) (ImpT.bool u_bool)).as fun l _ => ⟨l, trivial, fun g => ⟨g.1, rfl, fun hh r o => by
    have hp := (o.of_sl 2 rfl).pure
    have := o.of_sl 0 rfl
    rwa [zip_bools g.2 l hp] at this⟩⟩
theorem intsT {W : World} : ImpT PR W Y_s_int (fun (g : Option Addr × Nat) (l : List Int) => [.slice g.1 l.length g.2]) (fun g l => slC true Y_int 1 g.1 l.length g.2 (l.map (Value.int .i64))) (fun l => l.length ≤ maxLen ∧ ∀ n ∈ l, (Lit.int .i64 n).wf = true) :=
  ImpT.ints Y_int u_s_int u_int (by kernel_rfl)
theorem planT {W : World} : ImpT PR W Y_api_Plan (fun (g : (Option Addr × Nat) × (Option Addr × Nat)) (y : List Bool × List (Int × Int) × Int) => planL g.1.1 y.1.length g.1.2 g.2.1 y.2.1.length g.2.2 y.2.2) (fun g y => sl [slC true Y_bool 1 g.1.1 y.1.length g.1.2 (bools y.1), slC true Y_api_Bridge 2 g.2.1 y.2.1.length g.2.2 (flat y.2.1)]) (fun _ => True) :=
  (ImpT.struct u_api_Plan (by kernel_rfl) (ImpL.cons boolsT (ImpL.cons bridgesT (ImpL.cons (ImpT.int u_int) ImpL.nil)))).as
    fun ⟨n, l, lease, _⟩ _ => ⟨(n, l, lease), trivial, fun ⟨g0, g1, _, _⟩ => ⟨(g0, g1), rfl, fun hh r o => by
      have o1 := o.join
      have o2 := (Own.perm (r := _ :: _ :: r) o1 (.swap _ _ _)).of_sl 0 rfl
      exact Own.group (l := [_, _]) (Own.perm (r := _ :: _ :: r) o2 (.swap _ _ _))⟩⟩
theorem closesCalls {H : Type} {enc : TypeId × Value → H} {W : World} {v0 v1 v2 : Value} {d0 d1 d2 : DataW H} {p0 p1 p2 : List MemPlace} {b0 : Nat} (k0 : Value.okWide PR W .any b0 Y_api_Plan v0) (k1 : Value.okWide PR W .any b0 Y_s_int v1) (k2 : Value.okWide PR W .any b0 Y_int v2)
    (h0 : DataW.Trod enc PR W 0 (fun _ => true) true Y_api_Plan v0 d0 p0) (h1 : DataW.Trod enc PR W 0 (fun _ => true) true Y_s_int v1 d1 p1) (h2 : DataW.Trod enc PR W 0 (fun _ => true) true Y_int v2 d2 p2) :
    Calls PR F_law24_TaintCloses #[v0, v1, v2] W fun e W' => e = .returned (.bool true) ∧ Below W.heap.size W W' := by
  obtain ⟨⟨bads, bs, le⟩, _, i0⟩ := planT.argAgg u_api_Plan k0 h0
  obtain ⟨ll, _, i1⟩ := (intsT (W := W)).arg (cells_slice u_s_int k1) h1
  obtain ⟨lease, _, i2⟩ := ImpT.argInt u_int k2 h2
  refine (i0.app (i1.app i2)).run mixedOk globsOk fun vs ps ⟨_, _, _, _, hv, hp, ⟨⟨g0, g1⟩, h3, h4⟩, _, _, _, _, h5, h6, ⟨⟨la, lc⟩, h7, h8⟩, h9, hA⟩ hh r o => ?_
  subst h3; subst h4; subst h7; subst h8; subst h9; subst hA; subst h5; subst h6; subst hv; subst hp
  have o2 := (Own.perm (r := _ :: _ :: r) o (.swap _ _ _)).join
  obtain ⟨v, h', e, rfl⟩ := ct_TaintCloses W true true g0.1 g0.2 bads g1.1 g1.2 bs le ll la lc lease hh r o2
  exact ⟨h', e⟩
abbrev laid2 {H : Type} : List (String × DataW H) := [("math/bits.deBruijn32tab", Rows.laid_math_bits_deBruijn32tab), ("math/bits.deBruijn64tab", Rows.laid_math_bits_deBruijn64tab)]
theorem door_met (os : Os) (args : Array Value) : laidMetH Tryz.prog laid2 ((World.doorLaid Tryz.prog 400 os).forCall (fun _ _ => 0) ⟨#[], args, []⟩).memory :=
  laidMetH_of_parts3 (fuel := 8) (laidMet_of_run' 8 (by kernel_rfl) (by kernel_rfl)) (by kernel_rfl) (by kernel_rfl)
theorem closesLifted (os : Os) (started : os.Started) (H : Type) (enc : TypeId × Value → H) :
    ReturnsInHanded {} Tryz.checked os F_law24_TaintCloses .any (fun w args => (Rows.taintClosesSpec.pre enc Tryz.prog Tryz.f4 [] false w args ∧ laidMetH Tryz.prog laid2 w) ∧ sizedMet enc Tryz.prog Tryz.f4 (OpenSpec.ofChange Rows.taintClosesSpec) false w args)
      (Rows.taintClosesSpec.post enc Tryz.prog Tryz.f4 false true false false) := by
  refine returnsInHanded_of_change_and (C := Tryz.checked) (X := fun w _ => laidMetH Tryz.prog laid2 w) (fun _ _ _ hh h => h.of_heap hh) ownOk started (by kernel_rfl) Tryz.func4
    (ChangeSpec.witness_shaped (enc := enc) (C := Tryz.checked) (os := os) (X := fun w _ => laidMetH Tryz.prog laid2 w) false (World.doorLaid Tryz.prog 400 os) #[.agg #[.slice none 0 0, .slice none 0 0, .int .i64 0], .slice none 0 0, .int .i64 0] 8 rfl (World.shaped_of_RefB (by kernel_rfl) (by kernel_rfl)) (by kernel_rfl) (by kernel_rfl) (by kernel_rfl) (door_met os _)) ?_
  intro W base args ds gs before hval hW _ _ hL _
  have hW' := hW
  obtain ⟨p, q, hA, hV, rfl, hfz, hnd⟩ := hW
  rw [Tryz.params4] at hA hval
  obtain ⟨v0, v1, v2, d0, d1, d2, p0, p1, p2, rfl, rfl, rfl, h0, h1, h2⟩ := trodAll_three hA
  refine (closesCalls (hval 0 _ v0 rfl rfl) (hval 1 _ v1 rfl rfl) (hval 2 _ v2 rfl rfl) h0 h1 h2).mono fun e W' ⟨he, hb⟩ => ?_
  subst he
  refine ⟨_, rfl, post_true laidOk ?_ rfl u_bool rfl (fun ds gs hl => ?_) hW' hb⟩
  · rw [Tryz.params4]; intro t ht; simp at ht; rcases ht with rfl | rfl | rfl <;> exact ⟨by kernel_rfl, of_decide_eq_true (by kernel_rfl)⟩
  · replace hl : ds.length = 3 := hl
    cases gs with
    | cons _ _ => exact .inr (by simp)
    | nil => match ds, hl with | [_, _, _], _ => exact .inl rfl
theorem TaintCloses_row : Rows.TaintClosesSaid :=
  OpenClaim.holds_of_wide F_law24_TaintCloses Tryz.f4 rfl rfl rfl rfl rfl rfl rfl ⟨rfl, rfl, rfl, rfl, rfl⟩ rfl rfl rfl rfl rfl (by kernel_rfl) Tryz.func4 (by kernel_rfl)
    (of_decide_eq_true (by kernel_rfl)) (by unfold Func.isWrapper; first | (rw [if_pos (by decide +kernel)]; kernel_rfl) | (rw [if_neg (by decide +kernel)]; exact ⟨rfl, rfl⟩))
    (fun os started H enc _ => closesLifted os started H enc)
theorem TaintCloses_holds : Rows.TaintClosesCardSaid :=
  Claim7.holds_tied_plain_at .later [] [.data, .data] true (true, "bd7ffb9caad508bc27c8f744eee655bbd56492d2814c95a5af4f20700bbe1fe4") false
    TaintCloses_row (fun _ h => by cases h) (by kernel_rfl) (fun _ h => by cases h) taintCloses_row_tie rfl ⟨rfl, rfl⟩ (by kernel_rfl) rfl
    (fun f fn hf hfn => by
      obtain rfl : f = F_law24_TaintCloses := Option.some.inj ((show Tryz.prog.funcNamed "commonage/commonagelaw24.TaintCloses" = some F_law24_TaintCloses by kernel_rfl).symm.trans hf) |>.symm
      obtain rfl : fn = Tryz.f4 := (Option.some.inj (Tryz.func4.symm.trans hfn)).symm
      exact ⟨by kernel_rfl, fun j t ht => by
        rw [Tryz.params4] at ht
        have hm : t ∈ [Y_api_Plan, Y_s_int, Y_int] := by simpa using Array.mem_of_getElem? ht
        have hall : ([Y_api_Plan, Y_s_int, Y_int].all fun u => !Tryz.prog.wantsStandIn u) = true := by kernel_rfl
        exact (show Tryz.prog.wantsStandIn t = false by simpa using List.all_eq_true.1 hall t hm)⟩)
    (by kernel_rfl)
end Go.EQ
