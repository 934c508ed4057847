/- What one slot was told is picked out in its order; returns are counted by their calls; one row of bytes is the beginning of another one, or not. -/
import Derived.Test.YtffngggpkaibkaaGreatDoorMg
import Derived.Test.YtffngggpkaibkaaGreatDoorCards
import Derived.Test.YtffngggpkaibkaaGreatDoorTie
import Derived.LaidMore
import Derived.OpenShut
import Derived.Stop.Joined
import Derived.ProofKit
import Derived.SevenTiedAt
set_option linter.unusedVariables false
set_option linter.unusedSimpArgs false
set_option linter.unusedSectionVars false
set_option linter.unusedSimpArgs false
set_option linter.unusedVariables false
set_option maxRecDepth 10000
namespace Go.EQ
open Go Go.NN
abbrev int (n : Int) : Value := .int .i64 n
abbrev P0 (b : Nat) : Value := .pointer (some ⟨b, 0, none⟩)
theorem ct_SameInts_L1 (a : Option Addr) (ro : Bool) (c : Nat) (l : List Int) (hl : l.length ≤ 9223372036854775807) : ∀ (m i : Nat), l.length - i = m → i ≤ l.length →
    CtPJ JUMP F_ref1_SameInts T_ref1_SameInts_L1 [(0, .slice a l.length c), (1, .slice a l.length c), (5, int i)] [slC ro Y_int 1 a l.length c (l.map int)] (.bool true) := by
  intro m
  induction m with
  | zero =>
    intro i hm hi
    refine CtPJ.of k_ref1_SameInts fun h r => Tr.eq (e_ref1_SameInts_L1 ..) ?_; (try simp only[nrm,nrmL,aSome_some,Nat.reduceAdd,Nat.reduceMul,Int.reduceToNat])
    refine Tr.condF (by simp; omega) ?_
    refine Tr.some fun o => ?_
    exact ⟨rfl, rfl⟩
  | succ m ih =>
    intro i hm hi
    have hlt : i < l.length := by omega
    have hp : l[i]? = some l[i] := List.getElem?_eq_getElem hlt
    generalize l[i] = x at hp
    have e1 : IntKind.wrap .i64 ((i : Int) + 1) = ((i + 1 : Nat) : Int) := by rw [wrap_eq]; omega
    refine CtPJ.of k_ref1_SameInts fun h r => Tr.eq (e_ref1_SameInts_L1 ..) ?_; (try simp only[nrm,nrmL,aSome_some,Nat.reduceAdd,Nat.reduceMul,Int.reduceToNat])
    refine Tr.condT (by simp; omega) ?_
    (repeat' first|(with_reducible first|refine Ga ?_|refine Gn fun b h=>?_|apply Tr.andG|apply Tr.orG|refine Tr.xFits ?_|rintro px rfl|refine fun(h:H)=>?_|intro hb)|((with_reducible first|apply Gb|apply Gc|apply Gd|apply Ge|apply Gf|apply Gg|apply Gh|apply Gi);·first|rfl|assumption)|((with_reducible first|apply Gj|apply Gk|apply Gl|apply Gm);·first|assumption|rfl)|((with_reducible apply Tr.xV);·exact⟨Nat.le_of_ble_eq_true rfl,rfl,rfl⟩)|((with_reducible apply Tr.xAgg);·exact⟨Nat.le_of_ble_eq_true rfl,rfl⟩)|((with_reducible apply Tr.xPAgg);·exact⟨Nat.le_of_ble_eq_true rfl,rfl,rfl⟩)|((with_reducible first|refine Tr.ck ?_ ?_|apply Tr.xSome|apply Tr.xCells);·first|rfl|omega|(simp only[gnd] at hb;omega))|((with_reducible refine Tr.same ?_ ?_);·first|exact sameV_sl _ _ _|exact sameV_ptr _|exact sameV_int _ _|exact sameV_bool _|exact sameV_str _)|((with_reducible apply Tr.xCellsB);·exact⟨Nat.le_of_ble_eq_true rfl,rfl⟩)|((with_reducible apply Tr.asBytes);·exact bytesN1_byteCells _)|(refine Tr.some fun _=>?_;exact⟨rfl,rfl⟩)|fail)
    refine Tr.xIntS (v := x) (by simp [hp]) ?_
    (repeat' first|(with_reducible first|refine Ga ?_|refine Gn fun b h=>?_|apply Tr.andG|apply Tr.orG|refine Tr.xFits ?_|rintro px rfl|refine fun(h:H)=>?_|intro hb)|((with_reducible first|apply Gb|apply Gc|apply Gd|apply Ge|apply Gf|apply Gg|apply Gh|apply Gi);·first|rfl|assumption)|((with_reducible first|apply Gj|apply Gk|apply Gl|apply Gm);·first|assumption|rfl)|((with_reducible apply Tr.xV);·exact⟨Nat.le_of_ble_eq_true rfl,rfl,rfl⟩)|((with_reducible apply Tr.xAgg);·exact⟨Nat.le_of_ble_eq_true rfl,rfl⟩)|((with_reducible apply Tr.xPAgg);·exact⟨Nat.le_of_ble_eq_true rfl,rfl,rfl⟩)|((with_reducible first|refine Tr.ck ?_ ?_|apply Tr.xSome|apply Tr.xCells);·first|rfl|omega|(simp only[gnd] at hb;omega))|((with_reducible refine Tr.same ?_ ?_);·first|exact sameV_sl _ _ _|exact sameV_ptr _|exact sameV_int _ _|exact sameV_bool _|exact sameV_str _)|((with_reducible apply Tr.xCellsB);·exact⟨Nat.le_of_ble_eq_true rfl,rfl⟩)|((with_reducible apply Tr.asBytes);·exact bytesN1_byteCells _)|(refine Tr.some fun _=>?_;exact⟨rfl,rfl⟩)|fail)
    refine Tr.xIntS (v := x) (by simp [hp]) ?_
    refine Tr.condF (by simp) ?_
    rw [e1]
    exact tr_prunO (ih (i + 1) (by omega) (by omega)) (r := r) (by simp) fun o => ⟨rfl, rfl⟩
theorem ct_SameInts (a : Option Addr) (ro : Bool) (c : Nat) (l : List Int) (hl : l.length ≤ 9223372036854775807) :
    CtP CALL F_ref1_SameInts [.slice a l.length c, .slice a l.length c] [slC ro Y_int 1 a l.length c (l.map int)] (.bool true) := by
  refine CtP.of k_ref1_SameInts rfl fun h r => Tr.eq (e_ref1_SameInts ..) ?_; (try simp only[nrm,nrmL,aSome_some,Nat.reduceAdd,Nat.reduceMul,Int.reduceToNat])
  refine Tr.condF (by simp) ?_
  exact tr_prunO (ct_SameInts_L1 a ro c l hl _ 0 rfl (by omega)) (r := r) (by simp) fun o => ⟨rfl, rfl⟩
structure OutY where
  s : Int
  slot : Int
  op : Int
  a : Int
  b : Int
  d : List UInt8
  n : Int
  e : Int
  w : List UInt8
  back : Bool
  g : List Int
  dies : Int
abbrev OutG := (Option Addr × Nat) × (Option Addr × Nat) × (Option Addr × Nat)
def outL (g : OutG) (y : OutY) : List Value := [int y.s, int y.slot, int y.op, int y.a, int y.b, .slice g.1.1 y.d.length g.1.2, int y.n, int y.e, .slice g.2.1.1 y.w.length g.2.1.2, .bool y.back, .slice g.2.2.1 y.g.length g.2.2.2, int y.dies]
abbrev outF (g : OutG) (y : OutY) (_ : Unit) : List HP := [slC true Y_uint8 1 g.1.1 y.d.length g.1.2 (byteCells y.d), slC true Y_uint8 1 g.2.1.1 y.w.length g.2.1.2 (byteCells y.w), slC true Y_int 1 g.2.2.1 y.g.length g.2.2.2 (y.g.map int)]
def outC (g : OutG) (y : OutY) : HP := hex fun u => sl (outF g y u)
instance (g : OutG) (y : OutY) : Chk (outC g y) (outF g y) := ⟨rfl⟩
theorem ct_SameSys (op a b : Int) (da : Option Addr) (dc : Nat) (d : List UInt8) : Ct CALL F_ref15_SameSys [.agg ⟨[int op, int a, int b, .slice da d.length dc]⟩, .agg ⟨[int op, int a, int b, .slice da d.length dc]⟩] [slC true Y_uint8 1 da d.length dc (byteCells d)]
    fun v own => v = .bool true ∧ own [slC true Y_uint8 1 da d.length dc (byteCells d)] := by
  refine Ct.of k_ref15_SameSys rfl fun h r => Tr.eq (e_ref15_SameSys ..) ?_; (try simp only[nrm,nrmL,aSome_some,Nat.reduceAdd,Nat.reduceMul,Int.reduceToNat])
  (repeat' first|(with_reducible first|refine Ga ?_|refine Gn fun b h=>?_|apply Tr.andG|apply Tr.orG|refine Tr.xFits ?_|rintro px rfl|refine fun(h:H)=>?_|intro hb)|((with_reducible first|apply Gb|apply Gc|apply Gd|apply Ge|apply Gf|apply Gg|apply Gh|apply Gi);·first|rfl|assumption)|((with_reducible first|apply Gj|apply Gk|apply Gl|apply Gm);·first|assumption|rfl)|((with_reducible apply Tr.xV);·exact⟨Nat.le_of_ble_eq_true rfl,rfl,rfl⟩)|((with_reducible apply Tr.xAgg);·exact⟨Nat.le_of_ble_eq_true rfl,rfl⟩)|((with_reducible apply Tr.xPAgg);·exact⟨Nat.le_of_ble_eq_true rfl,rfl,rfl⟩)|((with_reducible first|refine Tr.ck ?_ ?_|apply Tr.xSome|apply Tr.xCells);·first|rfl|omega|(simp only[gnd] at hb;omega))|((with_reducible refine Tr.same ?_ ?_);·first|exact sameV_sl _ _ _|exact sameV_ptr _|exact sameV_int _ _|exact sameV_bool _|exact sameV_str _)|((with_reducible apply Tr.xCellsB);·exact⟨Nat.le_of_ble_eq_true rfl,rfl⟩)|((with_reducible apply Tr.asBytes);·exact bytesN1_byteCells _)|(refine Tr.some fun _=>?_;exact⟨rfl,rfl⟩)|fail)
  refine Tr.some fun o => ?_
  exact ⟨by simp, o.sub⟩
theorem ct_SameOut (g : OutG) (y : OutY) (hg : y.g.length ≤ 9223372036854775807) : Ct CALL F_ref15_SameOut [.agg ⟨outL g y⟩, .agg ⟨outL g y⟩] [outC g y] fun v own => v = .bool true ∧ own [outC g y] := by
  obtain ⟨⟨da, dc⟩, ⟨wa, wc⟩, ⟨ga, gc⟩⟩ := g
  obtain ⟨s, slot, op, a, bb, d, n, e, w, back, gl, dies⟩ := y
  simp only [outL]
  refine Ct.of k_ref15_SameOut rfl fun h r => Tr.eq (e_ref15_SameOut ..) ?_; (try simp only[nrm,nrmL,aSome_some,Nat.reduceAdd,Nat.reduceMul,Int.reduceToNat])
  refine tr_open (outC ((da, dc), (wa, wc), (ga, gc)) ⟨s, slot, op, a, bb, d, n, e, w, back, gl, dies⟩) fun u => ?_; (try simp only[nrm,nrmL,aSome_some,Nat.reduceAdd,Nat.reduceMul,Int.reduceToNat])
  (repeat' first|(with_reducible first|refine Ga ?_|refine Gn fun b h=>?_|refine Tr.xFits ?_|rintro px rfl|refine fun(h:H)=>?_|intro hb)|((with_reducible first|apply Gb|apply Gc|apply Gd|apply Ge|apply Gf|apply Gg|apply Gh|apply Gi);·first|rfl|assumption)|((with_reducible first|apply Gj|apply Gk|apply Gl|apply Gm);·first|assumption|rfl)|((with_reducible apply Tr.xV);·exact⟨Nat.le_of_ble_eq_true rfl,rfl,rfl⟩)|((with_reducible apply Tr.xAgg);·exact⟨Nat.le_of_ble_eq_true rfl,rfl⟩)|((with_reducible apply Tr.xPAgg);·exact⟨Nat.le_of_ble_eq_true rfl,rfl,rfl⟩)|((with_reducible first|refine Tr.ck ?_ ?_|apply Tr.xSome|apply Tr.xCells);·first|rfl|omega|(simp only[gnd] at hb;omega))|((with_reducible refine Tr.same ?_ ?_);·first|exact sameV_sl _ _ _|exact sameV_ptr _|exact sameV_int _ _|exact sameV_bool _|exact sameV_str _)|((with_reducible apply Tr.xCellsB);·exact⟨Nat.le_of_ble_eq_true rfl,rfl⟩)|((with_reducible apply Tr.asBytes);·exact bytesN1_byteCells _)|(refine Tr.some fun _=>?_;exact⟨rfl,rfl⟩)|fail)
  apply Tr.andG; · (repeat' first|(with_reducible first|refine Ga ?_|refine Gn fun b h=>?_|refine Tr.xFits ?_|rintro px rfl|refine fun(h:H)=>?_|intro hb)|((with_reducible first|apply Gb|apply Gc|apply Gd|apply Ge|apply Gf|apply Gg|apply Gh|apply Gi);·first|rfl|assumption)|((with_reducible first|apply Gj|apply Gk|apply Gl|apply Gm);·first|assumption|rfl)|((with_reducible apply Tr.xV);·exact⟨Nat.le_of_ble_eq_true rfl,rfl,rfl⟩)|((with_reducible apply Tr.xAgg);·exact⟨Nat.le_of_ble_eq_true rfl,rfl⟩)|((with_reducible apply Tr.xPAgg);·exact⟨Nat.le_of_ble_eq_true rfl,rfl,rfl⟩)|((with_reducible first|refine Tr.ck ?_ ?_|apply Tr.xSome|apply Tr.xCells);·first|rfl|omega|(simp only[gnd] at hb;omega))|((with_reducible refine Tr.same ?_ ?_);·first|exact sameV_sl _ _ _|exact sameV_ptr _|exact sameV_int _ _|exact sameV_bool _|exact sameV_str _)|((with_reducible apply Tr.xCellsB);·exact⟨Nat.le_of_ble_eq_true rfl,rfl⟩)|((with_reducible apply Tr.asBytes);·exact bytesN1_byteCells _)|(refine Tr.some fun _=>?_;exact⟨rfl,rfl⟩)|fail)
  (repeat' first|(with_reducible first|refine Ga ?_|refine Gn fun b h=>?_|refine Tr.xFits ?_|rintro px rfl|refine fun(h:H)=>?_|intro hb)|((with_reducible first|apply Gb|apply Gc|apply Gd|apply Ge|apply Gf|apply Gg|apply Gh|apply Gi);·first|rfl|assumption)|((with_reducible first|apply Gj|apply Gk|apply Gl|apply Gm);·first|assumption|rfl)|((with_reducible apply Tr.xV);·exact⟨Nat.le_of_ble_eq_true rfl,rfl,rfl⟩)|((with_reducible apply Tr.xAgg);·exact⟨Nat.le_of_ble_eq_true rfl,rfl⟩)|((with_reducible apply Tr.xPAgg);·exact⟨Nat.le_of_ble_eq_true rfl,rfl,rfl⟩)|((with_reducible first|refine Tr.ck ?_ ?_|apply Tr.xSome|apply Tr.xCells);·first|rfl|omega|(simp only[gnd] at hb;omega))|((with_reducible refine Tr.same ?_ ?_);·first|exact sameV_sl _ _ _|exact sameV_ptr _|exact sameV_int _ _|exact sameV_bool _|exact sameV_str _)|((with_reducible apply Tr.xCellsB);·exact⟨Nat.le_of_ble_eq_true rfl,rfl⟩)|((with_reducible apply Tr.asBytes);·exact bytesN1_byteCells _)|(refine Tr.some fun _=>?_;exact⟨rfl,rfl⟩)|fail)
  refine Tr.bnd (Tr.condT (by simp) ?_)
  (repeat' first|(with_reducible first|refine Ga ?_|refine Gn fun b h=>?_|refine Tr.xFits ?_|rintro px rfl|refine fun(h:H)=>?_|intro hb)|((with_reducible first|apply Gb|apply Gc|apply Gd|apply Ge|apply Gf|apply Gg|apply Gh|apply Gi);·first|rfl|assumption)|((with_reducible first|apply Gj|apply Gk|apply Gl|apply Gm);·first|assumption|rfl)|((with_reducible apply Tr.xV);·exact⟨Nat.le_of_ble_eq_true rfl,rfl,rfl⟩)|((with_reducible apply Tr.xAgg);·exact⟨Nat.le_of_ble_eq_true rfl,rfl⟩)|((with_reducible apply Tr.xPAgg);·exact⟨Nat.le_of_ble_eq_true rfl,rfl,rfl⟩)|((with_reducible first|refine Tr.ck ?_ ?_|apply Tr.xSome|apply Tr.xCells);·first|rfl|omega|(simp only[gnd] at hb;omega))|((with_reducible refine Tr.same ?_ ?_);·first|exact sameV_sl _ _ _|exact sameV_ptr _|exact sameV_int _ _|exact sameV_bool _|exact sameV_str _)|((with_reducible apply Tr.xCellsB);·exact⟨Nat.le_of_ble_eq_true rfl,rfl⟩)|((with_reducible apply Tr.asBytes);·exact bytesN1_byteCells _)|(refine Tr.some fun _=>?_;exact⟨rfl,rfl⟩)|fail)
  refine Tr.xCall (ct_SameSys op a bb da dc d) ?_; rintro _ h ⟨rfl, o⟩ <;> (refine (?_ : Tr _ _ _ _) o; (try simp only[nrm,nrmL,aSome_some,Nat.reduceAdd,Nat.reduceMul,Int.reduceToNat]); (repeat' first|(with_reducible first|refine Ga ?_|refine Gn fun b h=>?_|refine Tr.xFits ?_|rintro px rfl|refine fun(h:H)=>?_|intro hb)|((with_reducible first|apply Gb|apply Gc|apply Gd|apply Ge|apply Gf|apply Gg|apply Gh|apply Gi);·first|rfl|assumption)|((with_reducible first|apply Gj|apply Gk|apply Gl|apply Gm);·first|assumption|rfl)|((with_reducible apply Tr.xV);·exact⟨Nat.le_of_ble_eq_true rfl,rfl,rfl⟩)|((with_reducible apply Tr.xAgg);·exact⟨Nat.le_of_ble_eq_true rfl,rfl⟩)|((with_reducible apply Tr.xPAgg);·exact⟨Nat.le_of_ble_eq_true rfl,rfl,rfl⟩)|((with_reducible first|refine Tr.ck ?_ ?_|apply Tr.xSome|apply Tr.xCells);·first|rfl|omega|(simp only[gnd] at hb;omega))|((with_reducible refine Tr.same ?_ ?_);·first|exact sameV_sl _ _ _|exact sameV_ptr _|exact sameV_int _ _|exact sameV_bool _|exact sameV_str _)|((with_reducible apply Tr.xCellsB);·exact⟨Nat.le_of_ble_eq_true rfl,rfl⟩)|((with_reducible apply Tr.asBytes);·exact bytesN1_byteCells _)|(refine Tr.some fun _=>?_;exact⟨rfl,rfl⟩)|fail))
  refine Tr.some fun o => (?_ : Tr _ _ _ _) o; (try simp only[nrm,nrmL,aSome_some,Nat.reduceAdd,Nat.reduceMul,Int.reduceToNat])
  (repeat' first|(with_reducible first|refine Ga ?_|refine Gn fun b h=>?_|apply Tr.andG|apply Tr.orG|refine Tr.xFits ?_|rintro px rfl|refine fun(h:H)=>?_|intro hb)|((with_reducible first|apply Gb|apply Gc|apply Gd|apply Ge|apply Gf|apply Gg|apply Gh|apply Gi);·first|rfl|assumption)|((with_reducible first|apply Gj|apply Gk|apply Gl|apply Gm);·first|assumption|rfl)|((with_reducible apply Tr.xV);·exact⟨Nat.le_of_ble_eq_true rfl,rfl,rfl⟩)|((with_reducible apply Tr.xAgg);·exact⟨Nat.le_of_ble_eq_true rfl,rfl⟩)|((with_reducible apply Tr.xPAgg);·exact⟨Nat.le_of_ble_eq_true rfl,rfl,rfl⟩)|((with_reducible first|refine Tr.ck ?_ ?_|apply Tr.xSome|apply Tr.xCells);·first|rfl|omega|(simp only[gnd] at hb;omega))|((with_reducible refine Tr.same ?_ ?_);·first|exact sameV_sl _ _ _|exact sameV_ptr _|exact sameV_int _ _|exact sameV_bool _|exact sameV_str _)|((with_reducible apply Tr.xCellsB);·exact⟨Nat.le_of_ble_eq_true rfl,rfl⟩)|((with_reducible apply Tr.asBytes);·exact bytesN1_byteCells _)|(refine Tr.some fun _=>?_;exact⟨rfl,rfl⟩)|fail)
  · refine Tr.pcall (ct_SameInts ga true gc gl hg) ?_; (try simp only[nrm,nrmL,aSome_some,Nat.reduceAdd,Nat.reduceMul,Int.reduceToNat]); (repeat' first|(with_reducible first|refine Ga ?_|refine Gn fun b h=>?_|apply Tr.andG|apply Tr.orG|refine Tr.xFits ?_|rintro px rfl|refine fun(h:H)=>?_|intro hb)|((with_reducible first|apply Gb|apply Gc|apply Gd|apply Ge|apply Gf|apply Gg|apply Gh|apply Gi);·first|rfl|assumption)|((with_reducible first|apply Gj|apply Gk|apply Gl|apply Gm);·first|assumption|rfl)|((with_reducible apply Tr.xV);·exact⟨Nat.le_of_ble_eq_true rfl,rfl,rfl⟩)|((with_reducible apply Tr.xAgg);·exact⟨Nat.le_of_ble_eq_true rfl,rfl⟩)|((with_reducible apply Tr.xPAgg);·exact⟨Nat.le_of_ble_eq_true rfl,rfl,rfl⟩)|((with_reducible first|refine Tr.ck ?_ ?_|apply Tr.xSome|apply Tr.xCells);·first|rfl|omega|(simp only[gnd] at hb;omega))|((with_reducible refine Tr.same ?_ ?_);·first|exact sameV_sl _ _ _|exact sameV_ptr _|exact sameV_int _ _|exact sameV_bool _|exact sameV_str _)|((with_reducible apply Tr.xCellsB);·exact⟨Nat.le_of_ble_eq_true rfl,rfl⟩)|((with_reducible apply Tr.asBytes);·exact bytesN1_byteCells _)|(refine Tr.some fun _=>?_;exact⟨rfl,rfl⟩)|fail)
  refine Tr.some fun o => ?_
  refine ⟨by simp, ?_⟩
  exact (Own.fold (outC ((da, dc), (wa, wc), (ga, gc)) ⟨s, slot, op, a, bb, d, n, e, w, back, gl, dies⟩) () o).sub
end Go.EQ

set_option linter.unusedSimpArgs false
set_option linter.unusedVariables false
set_option maxRecDepth 10000
namespace Go.EQ
open Go Go.NN
abbrev OP := OutG × OutY
def flatO (os : List OP) : List Value := os.flatMap fun p => outL p.1 p.2
theorem flatO_len (os : List OP) : (flatO os).length = os.length * 12 := by
  induction os with
  | nil => rfl
  | cons x l ih => simp only [flatO, List.flatMap_cons, List.length_append] at ih ⊢; rw [ih]; simp [outL]; omega
theorem flatMap_at {α β : Type} (f : α → List β) (n : Nat) (hf : ∀ x, (f x).length = n) : ∀ (l : List α) (i : Nat) (x : α), l[i]? = some x → ((l.flatMap f).drop (i * n)).take n = f x := by
  intro l
  induction l with
  | nil => intro i x h; simp at h
  | cons y l ih =>
    intro i x h
    cases i with
    | zero =>
      have e : y = x := by simpa using h
      subst e
      rw [List.flatMap_cons, Nat.zero_mul, List.drop_zero, List.take_append_of_le_length (by rw [hf]; exact Nat.le_refl _), List.take_of_length_le (by rw [hf]; exact Nat.le_refl _)]
    | succ i =>
      have h2 : l[i]? = some x := by simpa using h
      rw [← ih i x h2, List.flatMap_cons, Nat.succ_mul, Nat.add_comm, ← List.drop_drop, List.drop_left' (hf y)]
theorem flatO_at (os : List OP) (i : Nat) (x : OP) (h : os[i]? = some x) : ((flatO os).drop (i * 12)).take 12 = outL x.1 x.2 := flatMap_at (fun p : OP => outL p.1 p.2) 12 (fun _ => rfl) os i x h
theorem flatO_app (os : List OP) (x : OP) : flatO os ++ outL x.1 x.2 = flatO (os ++ [x]) := by simp [flatO]
def sel (s slot : Int) (p : OP) : Bool := (p.2.s == s) && (p.2.slot == slot)
abbrev outsC (a : Option Addr) (c : Nat) (os : List OP) : HP := slC true Y_api_Out 12 a os.length c (flatO os)
abbrev gotC (a : Option Addr) (c : Nat) (os : List OP) : HP := slC false Y_api_Out 12 a os.length c (flatO os)
theorem ct_Calls_L1 (s slot : Int) (a : Option Addr) (c : Nat) (os : List OP) (ho : os.length ≤ 40) : ∀ (m i : Nat) (la : Option Addr) (lc : Nat) (got : List OP), os.length - i = m → i ≤ os.length → got.length ≤ i →
    CtJ JUMP F_trace_Calls T_trace_Calls_L1 [(1, int s), (2, int slot), (7, .slice la got.length lc), (10, .slice a os.length c), (11, int os.length), (12, int i)] [gotC la lc got, outsC a c os]
      fun v own => ∃ a' c', v = .slice a' (got ++ (os.drop i).filter (sel s slot)).length c' ∧ own [gotC a' c' (got ++ (os.drop i).filter (sel s slot)), outsC a c os] := by
  intro m
  induction m with
  | zero =>
    intro i la lc got hm hi hg
    refine CtJ.of k_trace_Calls fun h r => Tr.eq (e_trace_Calls_L1 ..) ?_; (try simp only[nrm,nrmL,aSome_some,Nat.reduceAdd,Nat.reduceMul,Int.reduceToNat])
    refine Tr.condF (by simp; omega) ?_
    refine Tr.some fun o => ?_
    rw [List.drop_eq_nil_of_le (by omega), List.filter_nil, List.append_nil]
    exact ⟨la, lc, rfl, o.sub⟩
  | succ m ih =>
    intro i la lc got hm hi hg
    have hlt : i < os.length := by omega
    have hp : os[i]? = some os[i] := List.getElem?_eq_getElem hlt
    have hd : os.drop i = os[i] :: os.drop (i + 1) := List.drop_eq_getElem_cons hlt
    have hx := flatO_at os i _ hp
    generalize os[i] = x at hp hd hx
    obtain ⟨g, y⟩ := x
    have hfl := flatO_len os
    have e1 : IntKind.wrap .i64 ((i : Int) + 1) = ((i + 1 : Nat) : Int) := by rw [wrap_eq]; omega
    refine CtJ.of k_trace_Calls fun h r => Tr.eq (e_trace_Calls_L1 ..) ?_; (try simp only[nrm,nrmL,aSome_some,Nat.reduceAdd,Nat.reduceMul,Int.reduceToNat])
    refine Tr.condT (by simp; omega) ?_
    (repeat' first|(with_reducible first|refine Ga ?_|refine Gn fun b h=>?_|apply Tr.andG|apply Tr.orG|refine Tr.xFits ?_|rintro px rfl|refine fun(h:H)=>?_|intro hb)|((with_reducible first|apply Gb|apply Gc|apply Gd|apply Ge|apply Gf|apply Gg|apply Gh|apply Gi);·first|rfl|assumption)|((with_reducible first|apply Gj|apply Gk|apply Gl|apply Gm);·first|assumption|rfl)|((with_reducible apply Tr.xV);·exact⟨Nat.le_of_ble_eq_true rfl,rfl,rfl⟩)|((with_reducible apply Tr.xAgg);·exact⟨Nat.le_of_ble_eq_true rfl,rfl⟩)|((with_reducible apply Tr.xPAgg);·exact⟨Nat.le_of_ble_eq_true rfl,rfl,rfl⟩)|((with_reducible first|refine Tr.ck ?_ ?_|apply Tr.xSome|apply Tr.xCells);·first|rfl|omega|(simp only[gnd] at hb;omega))|((with_reducible refine Tr.same ?_ ?_);·first|exact sameV_sl _ _ _|exact sameV_ptr _|exact sameV_int _ _|exact sameV_bool _|exact sameV_str _)|((with_reducible apply Tr.xCellsB);·exact⟨Nat.le_of_ble_eq_true rfl,rfl⟩)|((with_reducible apply Tr.asBytes);·exact bytesN1_byteCells _)|(refine Tr.some fun _=>?_;exact⟨rfl,rfl⟩)|fail)
    refine Tr.xAggS (xs := outL g y) ⟨by omega, by simp; omega, by simpa using hx⟩ ?_
    refine Tr.nw fun bo h => ?_
    refine Tr.ck (by rfl) ?_
    refine Tr.xPAgg (cs' := outL g y) ⟨Nat.le_of_ble_eq_true rfl, rfl, by simp [outL]⟩ fun h => ?_
    refine Tr.xInt (n := y.s) rfl ?_
    apply Tr.andG
    · intro hb
      refine Tr.xInt (n := y.slot) rfl ?_
      refine Tr.some fun _ => ⟨rfl, rfl⟩
    cases hq : (y.s == s && y.slot == slot) with
    | true =>
      have hs : sel s slot (g, y) = true := hq
      refine Tr.condT rfl ?_
      refine Tr.xAgg (xs := outL g y) ⟨Nat.le_of_ble_eq_true rfl, rfl⟩ ?_
      refine Tr.ck (by rfl) ?_
      simp only [List.append_nil]
      refine Tr.nw fun bn h => ?_
      refine Tr.xCellsB (xs := outL g y) ⟨Nat.le_of_ble_eq_true rfl, rfl⟩ ?_
      refine Tr.xFits ?_
      refine Tr.xApd (new := outL g y) ⟨by rfl, by rfl, by simp only [most]; omega⟩ fun a' c' h => ?_
      (try simp only[nrm,nrmL,aSome_some,Nat.reduceAdd,Nat.reduceMul,Int.reduceToNat])
      rw [e1]
      have em : flatO (got ++ [(g, y)]) = flatO got ++ outL g y := (flatO_app got (g, y)).symm
      have el : (got ++ [(g, y)]).length = got.length + 1 := by simp
      have ih2 := ih (i + 1) a' c' (got ++ [(g, y)]) (by omega) (by omega) (by simp; omega)
      simp only [gotC] at ih2
      rw [em, el] at ih2
      refine Tr.xRun (ih2) ?_; rintro _ h ⟨a2, c2, rfl, o⟩
      have ef : got ++ (os.drop i).filter (sel s slot) = got ++ [(g, y)] ++ (os.drop (i + 1)).filter (sel s slot) := by
        rw [hd, List.filter_cons, if_pos hs]; simp
      rw [ef]
      exact ⟨a2, c2, rfl, o.sub⟩
    | false =>
      have hs : sel s slot (g, y) = false := hq
      refine Tr.condF rfl ?_
      rw [e1]
      refine Tr.xRun (ih (i + 1) la lc got (by omega) (by omega) (by omega)) ?_; rintro _ h ⟨a2, c2, rfl, o⟩
      have ef : got ++ (os.drop i).filter (sel s slot) = got ++ (os.drop (i + 1)).filter (sel s slot) := by
        rw [hd, List.filter_cons, if_neg (by rw [hs]; simp)]
      rw [ef]
      exact ⟨a2, c2, rfl, o.sub⟩
theorem ct_Calls (s slot : Int) (a : Option Addr) (c : Nat) (os : List OP) (ho : os.length ≤ 40) : Ct CALL F_trace_Calls [.slice a os.length c, int s, int slot] [outsC a c os]
    fun v own => ∃ a' c', v = .slice a' (os.filter (sel s slot)).length c' ∧ own [gotC a' c' (os.filter (sel s slot)), outsC a c os] := by
  refine Ct.of k_trace_Calls rfl fun h r => Tr.eq (e_trace_Calls ..) ?_; (try simp only[nrm,nrmL,aSome_some,Nat.reduceAdd,Nat.reduceMul,Int.reduceToNat])
  have J := ct_Calls_L1 s slot a c os ho _ 0 none 0 [] rfl (by omega) (by simp)
  simp only [gotC, List.length_nil, List.drop_zero, List.nil_append, show flatO [] = [] from rfl] at J
  refine tr_nilSl false Y_api_Out 12 (by omega) ?_
  refine Tr.xRun (J) ?_; rintro _ h ⟨a2, c2, rfl, o⟩
  exact ⟨a2, c2, rfl, o.sub⟩
end Go.EQ

set_option linter.unusedSimpArgs false
set_option linter.unusedVariables false
set_option maxRecDepth 10000
namespace Go.EQ
open Go Go.NN
def cond3 (y : OutY) : Bool := y.back && decide (y.op ≥ 1) && decide (y.op ≤ 18)
def stepN (arr : List Int) (y : OutY) : List Int := if cond3 y = true then arr.set (y.op - 1).toNat (IntKind.wrap .i64 (arr.getD (y.op - 1).toNat 0 + 1)) else arr
def foldN (os : List OP) (arr : List Int) : List Int := os.foldl (fun a p => stepN a p.2) arr
theorem stepN_len (arr : List Int) (y : OutY) : (stepN arr y).length = arr.length := by unfold stepN; split <;> simp
theorem ints_at {arr : List Int} {i : Nat} (h : i < arr.length) : (arr.map int)[i]? = some (.int .i64 (arr.getD i 0)) := by
  rw [List.getElem?_map, List.getD_eq_getElem?_getD, List.getElem?_eq_getElem h]; rfl
theorem ct_Counts_L1 (na : Option Addr) (a : Option Addr) (c : Nat) (os : List OP) (ho : os.length ≤ 40) : ∀ (m i : Nat) (arr : List Int), os.length - i = m → i ≤ os.length → arr.length = 18 →
    CtJ JUMP F_trace_Counts T_trace_Counts_L1 [(3, .slice na 18 18), (7, .slice a os.length c), (8, int os.length), (9, int i)] [slC false Y_int 1 na 18 18 (arr.map int), outsC a c os]
      fun v own => v = .slice na 18 18 ∧ own [slC false Y_int 1 na 18 18 ((foldN (os.drop i) arr).map int), outsC a c os] := by
  intro m
  induction m with
  | zero =>
    intro i arr hm hi ha
    refine CtJ.of k_trace_Counts fun h r => Tr.eq (e_trace_Counts_L1 ..) ?_; (try simp only[nrm,nrmL,aSome_some,Nat.reduceAdd,Nat.reduceMul,Int.reduceToNat])
    refine Tr.condF (by simp; omega) ?_
    refine Tr.some fun o => ?_
    rw [List.drop_eq_nil_of_le (by omega)]
    exact ⟨rfl, (show Own h (slC false Y_int 1 na 18 18 (arr.map int) :: outsC a c os :: r) from o.sub)⟩
  | succ m ih =>
    intro i arr hm hi ha
    have hlt : i < os.length := by omega
    have hp : os[i]? = some os[i] := List.getElem?_eq_getElem hlt
    have hd : os.drop i = os[i] :: os.drop (i + 1) := List.drop_eq_getElem_cons hlt
    have hx := flatO_at os i _ hp
    generalize os[i] = x at hp hd hx
    obtain ⟨g, y⟩ := x
    have hfl := flatO_len os
    have e1 : IntKind.wrap .i64 ((i : Int) + 1) = ((i + 1 : Nat) : Int) := by rw [wrap_eq]; omega
    have ef : foldN (os.drop i) arr = foldN (os.drop (i + 1)) (stepN arr y) := by rw [hd]; rfl
    have ih2 := ih (i + 1) (stepN arr y) (by omega) (by omega) (by rw [stepN_len]; exact ha)
    rw [ef]
    refine CtJ.of k_trace_Counts fun h r => Tr.eq (e_trace_Counts_L1 ..) ?_; (try simp only[nrm,nrmL,aSome_some,Nat.reduceAdd,Nat.reduceMul,Int.reduceToNat])
    refine Tr.condT (by simp; omega) ?_
    (repeat' first|(with_reducible first|refine Ga ?_|refine Gn fun b h=>?_|apply Tr.andG|apply Tr.orG|refine Tr.xFits ?_|rintro px rfl|refine fun(h:H)=>?_|intro hb)|((with_reducible first|apply Gb|apply Gc|apply Gd|apply Ge|apply Gf|apply Gg|apply Gh|apply Gi);·first|rfl|assumption)|((with_reducible first|apply Gj|apply Gk|apply Gl|apply Gm);·first|assumption|rfl)|((with_reducible apply Tr.xV);·exact⟨Nat.le_of_ble_eq_true rfl,rfl,rfl⟩)|((with_reducible apply Tr.xAgg);·exact⟨Nat.le_of_ble_eq_true rfl,rfl⟩)|((with_reducible apply Tr.xPAgg);·exact⟨Nat.le_of_ble_eq_true rfl,rfl,rfl⟩)|((with_reducible first|refine Tr.ck ?_ ?_|apply Tr.xSome|apply Tr.xCells);·first|rfl|omega|(simp only[gnd] at hb;omega))|((with_reducible refine Tr.same ?_ ?_);·first|exact sameV_sl _ _ _|exact sameV_ptr _|exact sameV_int _ _|exact sameV_bool _|exact sameV_str _)|((with_reducible apply Tr.xCellsB);·exact⟨Nat.le_of_ble_eq_true rfl,rfl⟩)|((with_reducible apply Tr.asBytes);·exact bytesN1_byteCells _)|(refine Tr.some fun _=>?_;exact⟨rfl,rfl⟩)|fail)
    refine Tr.xAggS (xs := outL g y) ⟨by omega, by simp; omega, by simpa using hx⟩ ?_
    refine Tr.nw fun bo h => ?_
    refine Tr.ck (by rfl) ?_
    refine Tr.xPAgg (cs' := outL g y) ⟨Nat.le_of_ble_eq_true rfl, rfl, by simp [outL]⟩ fun h => ?_
    refine Tr.xBool (n := y.back) rfl ?_
    apply Tr.andG
    · intro hb
      refine Tr.xInt (n := y.op) rfl ?_
      refine Tr.some fun _ => ⟨rfl, rfl⟩
    apply Tr.andG
    · intro hb
      refine Tr.xInt (n := y.op) rfl ?_
      refine Tr.some fun _ => ⟨rfl, rfl⟩
    cases hq : (y.back && decide (y.op ≥ 1) && decide (y.op ≤ 18)) with
    | true =>
      have hs : cond3 y = true := hq
      have hop : 1 ≤ y.op ∧ y.op ≤ 18 := by
        simp only [Bool.and_eq_true, decide_eq_true_eq] at hq
        omega
      have e2 : IntKind.wrap .i64 (y.op - 1) = (((y.op - 1).toNat : Nat) : Int) := by rw [wrap_eq]; omega
      have est : stepN arr y = arr.set (y.op - 1).toNat (IntKind.wrap .i64 (arr.getD (y.op - 1).toNat 0 + 1)) := by unfold stepN; rw [if_pos hs]
      rw [est] at ih2 ⊢
      have hj : (y.op - 1).toNat < 18 := by omega
      generalize (y.op - 1).toNat = j at e2 ih2 hj ⊢
      refine Tr.condT rfl ?_
      refine Tr.xInt (n := y.op) rfl ?_
      rw [e2]
      (repeat' first|(with_reducible first|refine Ga ?_|refine Gn fun b h=>?_|apply Tr.andG|apply Tr.orG|refine Tr.xFits ?_|rintro px rfl|refine fun(h:H)=>?_|intro hb)|((with_reducible first|apply Gb|apply Gc|apply Gd|apply Ge|apply Gf|apply Gg|apply Gh|apply Gi);·first|rfl|assumption)|((with_reducible first|apply Gj|apply Gk|apply Gl|apply Gm);·first|assumption|rfl)|((with_reducible apply Tr.xV);·exact⟨Nat.le_of_ble_eq_true rfl,rfl,rfl⟩)|((with_reducible apply Tr.xAgg);·exact⟨Nat.le_of_ble_eq_true rfl,rfl⟩)|((with_reducible apply Tr.xPAgg);·exact⟨Nat.le_of_ble_eq_true rfl,rfl,rfl⟩)|((with_reducible first|refine Tr.ck ?_ ?_|apply Tr.xSome|apply Tr.xCells);·first|rfl|omega|(simp only[gnd] at hb;omega))|((with_reducible refine Tr.same ?_ ?_);·first|exact sameV_sl _ _ _|exact sameV_ptr _|exact sameV_int _ _|exact sameV_bool _|exact sameV_str _)|((with_reducible apply Tr.xCellsB);·exact⟨Nat.le_of_ble_eq_true rfl,rfl⟩)|((with_reducible apply Tr.asBytes);·exact bytesN1_byteCells _)|(refine Tr.some fun _=>?_;exact⟨rfl,rfl⟩)|fail)
      rw [Int.toNat_natCast]
      refine Tr.xIntS (v := arr.getD j 0) (ints_at (by omega)) ?_
      (repeat' first|(with_reducible first|refine Ga ?_|refine Gn fun b h=>?_|apply Tr.andG|apply Tr.orG|refine Tr.xFits ?_|rintro px rfl|refine fun(h:H)=>?_|intro hb)|((with_reducible first|apply Gb|apply Gc|apply Gd|apply Ge|apply Gf|apply Gg|apply Gh|apply Gi);·first|rfl|assumption)|((with_reducible first|apply Gj|apply Gk|apply Gl|apply Gm);·first|assumption|rfl)|((with_reducible apply Tr.xV);·exact⟨Nat.le_of_ble_eq_true rfl,rfl,rfl⟩)|((with_reducible apply Tr.xAgg);·exact⟨Nat.le_of_ble_eq_true rfl,rfl⟩)|((with_reducible apply Tr.xPAgg);·exact⟨Nat.le_of_ble_eq_true rfl,rfl,rfl⟩)|((with_reducible first|refine Tr.ck ?_ ?_|apply Tr.xSome|apply Tr.xCells);·first|rfl|omega|(simp only[gnd] at hb;omega))|((with_reducible refine Tr.same ?_ ?_);·first|exact sameV_sl _ _ _|exact sameV_ptr _|exact sameV_int _ _|exact sameV_bool _|exact sameV_str _)|((with_reducible apply Tr.xCellsB);·exact⟨Nat.le_of_ble_eq_true rfl,rfl⟩)|((with_reducible apply Tr.asBytes);·exact bytesN1_byteCells _)|(refine Tr.some fun _=>?_;exact⟨rfl,rfl⟩)|fail)
      refine Tr.xVS (cs' := (arr.set j (IntKind.wrap .i64 (arr.getD j 0 + 1))).map int) ⟨by simp; omega, rfl, (List.map_set ..).symm⟩ fun h => ?_
      rw [e1]
      refine Tr.xRun (ih2) ?_; rintro _ h ⟨rfl, o⟩
      exact ⟨rfl, o.sub⟩
    | false =>
      have hs : cond3 y = false := hq
      have est : stepN arr y = arr := by unfold stepN; rw [if_neg (by rw [hs]; simp)]
      rw [est] at ih2 ⊢
      refine Tr.condF rfl ?_
      rw [e1]
      refine Tr.xRun (ih2) ?_; rintro _ h ⟨rfl, o⟩
      exact ⟨rfl, o.sub⟩
def zeros18 : List Int := List.replicate 18 0
theorem ct_Counts (a : Option Addr) (c : Nat) (os : List OP) (ho : os.length ≤ 40) : Ct CALL F_trace_Counts [.slice a os.length c] [outsC a c os]
    fun v own => ∃ na, v = .slice na 18 18 ∧ own [slC false Y_int 1 na 18 18 ((foldN os zeros18).map int), outsC a c os] := by
  refine Ct.of k_trace_Counts rfl fun h r => Tr.eq (e_trace_Counts ..) ?_; (try simp only[nrm,nrmL,aSome_some,Nat.reduceAdd,Nat.reduceMul,Int.reduceToNat])
  refine Tr.ck ⟨by omega, by omega, by simp [most]⟩ ?_
  refine Tr.nw fun b h => ?_
  have J := ct_Counts_L1 (some ⟨b, 0, none⟩) a c os ho _ 0 zeros18 rfl (by omega) rfl
  rw [List.drop_zero] at J
  refine tr_asSl (cs := zeros18.map int) 0 rfl 1 18 rfl (by omega) ?_
  simp only [List.set_cons_zero]
  refine Tr.xRun (J) ?_; rintro _ h ⟨rfl, o⟩
  exact ⟨_, rfl, o.sub⟩
def eqB (l m : List UInt8) : Bool := (ByteArray.mk ⟨l⟩).toList == (ByteArray.mk ⟨m⟩).toList
abbrev bC (a : Option Addr) (c : Nat) (l : List UInt8) : HP := slC true Y_uint8 1 a l.length c (byteCells l)
theorem bc_take (l : List UInt8) (x : Nat) : (byteCells l).take x = byteCells (l.take x) := by unfold byteCells; rw [List.map_take]
theorem moved0 (a : Option Addr) (b : Bool) : moved a b 0 = a := by
  cases a with
  | none => rfl
  | some a => cases b <;> rfl
theorem ct_Equal1 (a : Option Addr) (c : Nat) (l : List UInt8) (x c1 c2 : Nat) (hx : x ≤ l.length) : CtP CALL F_bytes_Equal [.slice a x c1, .slice a x c2] [bC a c l] (.bool true) := by
  refine CtP.of k_bytes_Equal rfl fun h r => Tr.eq (e_bytes_Equal ..) ?_; (try simp only[nrm,nrmL,aSome_some,Nat.reduceAdd,Nat.reduceMul,Int.reduceToNat])
  refine Tr.xCellsP (xs := byteCells (l.take x)) ⟨by omega, bc_take l x⟩ ?_
  refine Tr.asBytes (bytesN1_byteCells _) ?_
  refine Tr.xCellsP (xs := byteCells (l.take x)) ⟨by omega, bc_take l x⟩ ?_
  refine Tr.asBytes (bytesN1_byteCells _) ?_
  refine Tr.some fun o => ?_
  exact ⟨by simp, rfl⟩
theorem ct_Equal2 (a : Option Addr) (c : Nat) (l : List UInt8) (c1 : Nat) (a2 : Option Addr) (d : Nat) (m : List UInt8) (hx : m.length ≤ l.length) : CtP CALL F_bytes_Equal [.slice a m.length c1, .slice a2 m.length d] [bC a c l, bC a2 d m] (.bool (eqB (l.take m.length) m)) := by
  refine CtP.of k_bytes_Equal rfl fun h r => Tr.eq (e_bytes_Equal ..) ?_; (try simp only[nrm,nrmL,aSome_some,Nat.reduceAdd,Nat.reduceMul,Int.reduceToNat])
  refine Tr.xCellsP (xs := byteCells (l.take m.length)) ⟨by omega, bc_take l _⟩ ?_
  refine Tr.asBytes (bytesN1_byteCells _) ?_
  refine Tr.xCellsP (xs := byteCells m) ⟨by omega, List.take_of_length_le (by simp [byteCells])⟩ ?_
  refine Tr.asBytes (bytesN1_byteCells _) ?_
  refine Tr.some fun o => ?_
  exact ⟨rfl, rfl⟩
theorem ct_HasPrefix1 (a : Option Addr) (c : Nat) (l : List UInt8) (x c2 : Nat) (hx : x ≤ l.length) : CtP CALL F_bytes_HasPrefix [.slice a l.length c, .slice a x c2] [bC a c l] (.bool true) := by
  refine CtP.of k_bytes_HasPrefix rfl fun h r => Tr.eq (e_bytes_HasPrefix ..) ?_; (try simp only[nrm,nrmL,aSome_some,Nat.reduceAdd,Nat.reduceMul,Int.reduceToNat])
  refine tr_slFact 0 rfl fun hl hc _ => ?_
  refine Tr.bnd (Tr.condT (decide_eq_true (by omega)) ?_)
  refine Tr.xFits ?_
  refine Tr.ck ⟨by omega, by omega⟩ ?_
  simp only [Nat.zero_mul, moved0, Int.toNat_natCast, Nat.sub_zero]
  refine Tr.pcall (ct_Equal1 a c l x c c2 hx) ?_; (try simp only[nrm,nrmL,aSome_some,Nat.reduceAdd,Nat.reduceMul,Int.reduceToNat]); (repeat' first|(with_reducible first|refine Ga ?_|refine Gn fun b h=>?_|refine Tr.xFits ?_|rintro px rfl|refine fun(h:H)=>?_|intro hb)|((with_reducible first|apply Gb|apply Gc|apply Gd|apply Ge|apply Gf|apply Gg|apply Gh|apply Gi);·first|rfl|assumption)|((with_reducible first|apply Gj|apply Gk|apply Gl|apply Gm);·first|assumption|rfl)|((with_reducible apply Tr.xV);·exact⟨Nat.le_of_ble_eq_true rfl,rfl,rfl⟩)|((with_reducible apply Tr.xAgg);·exact⟨Nat.le_of_ble_eq_true rfl,rfl⟩)|((with_reducible apply Tr.xPAgg);·exact⟨Nat.le_of_ble_eq_true rfl,rfl,rfl⟩)|((with_reducible first|refine Tr.ck ?_ ?_|apply Tr.xSome|apply Tr.xCells);·first|rfl|omega|(simp only[gnd] at hb;omega))|((with_reducible refine Tr.same ?_ ?_);·first|exact sameV_sl _ _ _|exact sameV_ptr _|exact sameV_int _ _|exact sameV_bool _|exact sameV_str _)|((with_reducible apply Tr.xCellsB);·exact⟨Nat.le_of_ble_eq_true rfl,rfl⟩)|((with_reducible apply Tr.asBytes);·exact bytesN1_byteCells _)|(refine Tr.some fun _=>?_;exact⟨rfl,rfl⟩)|fail)
  refine Tr.some fun o => (?_ : Tr _ _ _ _) o; (try simp only[nrm,nrmL,aSome_some,Nat.reduceAdd,Nat.reduceMul,Int.reduceToNat])
  refine Tr.some fun o => ?_
  exact ⟨rfl, rfl⟩
theorem ct_Fifo1 (a : Option Addr) (c : Nat) (l : List UInt8) (x c2 : Nat) (hx : x ≤ l.length) : CtP CALL F_trace_Fifo [.slice a l.length c, .slice a x c2] [bC a c l] (.bool true) := by
  refine CtP.of k_trace_Fifo rfl fun h r => Tr.eq (e_trace_Fifo ..) ?_; (try simp only[nrm,nrmL,aSome_some,Nat.reduceAdd,Nat.reduceMul,Int.reduceToNat])
  refine Tr.pcall (ct_HasPrefix1 a c l x c2 hx) ?_; (try simp only[nrm,nrmL,aSome_some,Nat.reduceAdd,Nat.reduceMul,Int.reduceToNat]); (repeat' first|(with_reducible first|refine Ga ?_|refine Gn fun b h=>?_|refine Tr.xFits ?_|rintro px rfl|refine fun(h:H)=>?_|intro hb)|((with_reducible first|apply Gb|apply Gc|apply Gd|apply Ge|apply Gf|apply Gg|apply Gh|apply Gi);·first|rfl|assumption)|((with_reducible first|apply Gj|apply Gk|apply Gl|apply Gm);·first|assumption|rfl)|((with_reducible apply Tr.xV);·exact⟨Nat.le_of_ble_eq_true rfl,rfl,rfl⟩)|((with_reducible apply Tr.xAgg);·exact⟨Nat.le_of_ble_eq_true rfl,rfl⟩)|((with_reducible apply Tr.xPAgg);·exact⟨Nat.le_of_ble_eq_true rfl,rfl,rfl⟩)|((with_reducible first|refine Tr.ck ?_ ?_|apply Tr.xSome|apply Tr.xCells);·first|rfl|omega|(simp only[gnd] at hb;omega))|((with_reducible refine Tr.same ?_ ?_);·first|exact sameV_sl _ _ _|exact sameV_ptr _|exact sameV_int _ _|exact sameV_bool _|exact sameV_str _)|((with_reducible apply Tr.xCellsB);·exact⟨Nat.le_of_ble_eq_true rfl,rfl⟩)|((with_reducible apply Tr.asBytes);·exact bytesN1_byteCells _)|(refine Tr.some fun _=>?_;exact⟨rfl,rfl⟩)|fail)
theorem ct_HasPrefix2 (a : Option Addr) (c : Nat) (l : List UInt8) (a2 : Option Addr) (d : Nat) (m : List UInt8) : CtP CALL F_bytes_HasPrefix [.slice a l.length c, .slice a2 m.length d] [bC a c l, bC a2 d m] (.bool (decide (m.length ≤ l.length) && eqB (l.take m.length) m)) := by
  refine CtP.of k_bytes_HasPrefix rfl fun h r => Tr.eq (e_bytes_HasPrefix ..) ?_; (try simp only[nrm,nrmL,aSome_some,Nat.reduceAdd,Nat.reduceMul,Int.reduceToNat])
  refine tr_slFact 0 rfl fun hl hc _ => ?_
  by_cases hx : m.length ≤ l.length
  · refine Tr.bnd (Tr.condT (decide_eq_true (by omega)) ?_)
    refine Tr.xFits ?_
    refine Tr.ck ⟨by omega, by omega⟩ ?_
    simp only [Nat.zero_mul, moved0, Int.toNat_natCast, Nat.sub_zero]
    refine Tr.pcall (ct_Equal2 a c l c a2 d m hx) ?_; (try simp only[nrm,nrmL,aSome_some,Nat.reduceAdd,Nat.reduceMul,Int.reduceToNat]); (repeat' first|(with_reducible first|refine Ga ?_|refine Gn fun b h=>?_|refine Tr.xFits ?_|rintro px rfl|refine fun(h:H)=>?_|intro hb)|((with_reducible first|apply Gb|apply Gc|apply Gd|apply Ge|apply Gf|apply Gg|apply Gh|apply Gi);·first|rfl|assumption)|((with_reducible first|apply Gj|apply Gk|apply Gl|apply Gm);·first|assumption|rfl)|((with_reducible apply Tr.xV);·exact⟨Nat.le_of_ble_eq_true rfl,rfl,rfl⟩)|((with_reducible apply Tr.xAgg);·exact⟨Nat.le_of_ble_eq_true rfl,rfl⟩)|((with_reducible apply Tr.xPAgg);·exact⟨Nat.le_of_ble_eq_true rfl,rfl,rfl⟩)|((with_reducible first|refine Tr.ck ?_ ?_|apply Tr.xSome|apply Tr.xCells);·first|rfl|omega|(simp only[gnd] at hb;omega))|((with_reducible refine Tr.same ?_ ?_);·first|exact sameV_sl _ _ _|exact sameV_ptr _|exact sameV_int _ _|exact sameV_bool _|exact sameV_str _)|((with_reducible apply Tr.xCellsB);·exact⟨Nat.le_of_ble_eq_true rfl,rfl⟩)|((with_reducible apply Tr.asBytes);·exact bytesN1_byteCells _)|(refine Tr.some fun _=>?_;exact⟨rfl,rfl⟩)|fail)
    refine Tr.some fun o => (?_ : Tr _ _ _ _) o; (try simp only[nrm,nrmL,aSome_some,Nat.reduceAdd,Nat.reduceMul,Int.reduceToNat])
    refine Tr.some fun o => ?_
    exact ⟨by rw [decide_eq_true hx, Bool.true_and], rfl⟩
  · refine Tr.bnd (Tr.condF (decide_eq_false (by omega)) ?_)
    refine Tr.some fun o => (?_ : Tr _ _ _ _) o; (try simp only[nrm,nrmL,aSome_some,Nat.reduceAdd,Nat.reduceMul,Int.reduceToNat])
    refine Tr.some fun o => ?_
    exact ⟨by rw [decide_eq_false hx, Bool.false_and], rfl⟩
theorem ct_Fifo2 (a : Option Addr) (c : Nat) (l : List UInt8) (a2 : Option Addr) (d : Nat) (m : List UInt8) : CtP CALL F_trace_Fifo [.slice a l.length c, .slice a2 m.length d] [bC a c l, bC a2 d m] (.bool (decide (m.length ≤ l.length) && eqB (l.take m.length) m)) := by
  refine CtP.of k_trace_Fifo rfl fun h r => Tr.eq (e_trace_Fifo ..) ?_; (try simp only[nrm,nrmL,aSome_some,Nat.reduceAdd,Nat.reduceMul,Int.reduceToNat])
  refine Tr.pcall (ct_HasPrefix2 a c l a2 d m) ?_; (try simp only[nrm,nrmL,aSome_some,Nat.reduceAdd,Nat.reduceMul,Int.reduceToNat]); (repeat' first|(with_reducible first|refine Ga ?_|refine Gn fun b h=>?_|refine Tr.xFits ?_|rintro px rfl|refine fun(h:H)=>?_|intro hb)|((with_reducible first|apply Gb|apply Gc|apply Gd|apply Ge|apply Gf|apply Gg|apply Gh|apply Gi);·first|rfl|assumption)|((with_reducible first|apply Gj|apply Gk|apply Gl|apply Gm);·first|assumption|rfl)|((with_reducible apply Tr.xV);·exact⟨Nat.le_of_ble_eq_true rfl,rfl,rfl⟩)|((with_reducible apply Tr.xAgg);·exact⟨Nat.le_of_ble_eq_true rfl,rfl⟩)|((with_reducible apply Tr.xPAgg);·exact⟨Nat.le_of_ble_eq_true rfl,rfl,rfl⟩)|((with_reducible first|refine Tr.ck ?_ ?_|apply Tr.xSome|apply Tr.xCells);·first|rfl|omega|(simp only[gnd] at hb;omega))|((with_reducible refine Tr.same ?_ ?_);·first|exact sameV_sl _ _ _|exact sameV_ptr _|exact sameV_int _ _|exact sameV_bool _|exact sameV_str _)|((with_reducible apply Tr.xCellsB);·exact⟨Nat.le_of_ble_eq_true rfl,rfl⟩)|((with_reducible apply Tr.asBytes);·exact bytesN1_byteCells _)|(refine Tr.some fun _=>?_;exact⟨rfl,rfl⟩)|fail)
end Go.EQ

set_option linter.unusedSimpArgs false
set_option linter.unusedVariables false
set_option maxRecDepth 100000
namespace Go.EQ
open Go Go.NN
theorem noGlobs : ∀ f, (cutsOf f).globs = 0 := cutsAt_globs cutsL (by kernel_rfl)
theorem globsOk : ∀ f, (cutsOf f).globs ≤ PR.globals.size := fun f => by rw [noGlobs f]; exact Nat.zero_le _
theorem mixedOk : PR.follows .mixedOrders = true := by kernel_rfl
theorem ct_awake (W : World) : Ct CALL F_law25_awake [] [] fun v own => v = .bool true ∧ own [] := Go.NF.closedF W mixedOk noGlobs tabs_ok tabs_rx 5830 (by kernel_rfl)
theorem foldN_len (os : List OP) : ∀ arr, (foldN os arr).length = arr.length := by
  induction os with
  | nil => intro arr; rfl
  | cons x l ih => intro arr; exact (ih (stepN arr x.2)).trans (stepN_len arr x.2)
theorem foldN_snoc (os : List OP) (x : OP) (arr : List Int) : foldN (os ++ [x]) arr = stepN (foldN os arr) x.2 := by unfold foldN; rw [List.foldl_append]; rfl
theorem take_snoc {α : Type} {os : List α} {i : Nat} {x : α} (h : os[i]? = some x) : os.take (i + 1) = os.take i ++ [x] := by
  rw [List.take_add_one, h]; rfl
theorem filter_at {α : Type} (q : α → Bool) {os : List α} {i : Nat} {x : α} (h : os[i]? = some x) (hq : q x = true) : (os.filter q)[((os.take i).filter q).length]? = some x := by
  obtain ⟨hlt, rfl⟩ := List.getElem?_eq_some_iff.1 h
  have e : os = os.take i ++ (os[i] :: os.drop (i + 1)) := by rw [← List.drop_eq_getElem_cons hlt, List.take_append_drop]
  generalize os[i] = x at *
  conv => lhs; lhs; rw [e]
  rw [List.filter_append, List.filter_cons, if_pos hq, List.getElem?_append_right (Nat.le_refl _), Nat.sub_self]
  rfl
abbrev isB (b c : List UInt8) : Bool := decide (c.length ≤ b.length) && eqB (b.take c.length) c
theorem ct_L2 (W : World) (ba : Option Addr) (bc : Nat) (b : List UInt8) (ca : Option Addr) (cc : Nat) (c : List UInt8) (at_ : Int) (hb : b.length ≤ 200) (w : Nat) (na : Option Addr) (arr : List Int) (ha : arr.length = 18) : ∀ (m i : Nat), 18 - i = m → i ≤ 18 →
    CtJ JUMP F_law25_TraceCounts T_law25_TraceCounts_L2 [(3, .slice ba b.length bc), (4, .slice ca c.length cc), (5, int at_), (15, P0 w), (18, .slice na 18 18), (19, int i)]
      [pt w (.cells Y_18_int false (arr.map int)), slC false Y_int 1 na 18 18 (arr.map int), bC ba bc b, bC ca cc c] fun v own => v = .bool true := by
  intro m
  induction m with
  | zero =>
    intro i hm hi
    refine CtJ.of k_law25_TraceCounts fun h r => Tr.eq (e_law25_TraceCounts_L2 ..) ?_; (try simp only[nrm,nrmL,aSome_some,Nat.reduceAdd,Nat.reduceMul,Int.reduceToNat])
    refine Tr.condF (by simp; omega) ?_
    have e1 : IntKind.wrap .i64 ((b.length : Int) + 1) = ((b.length + 1 : Nat) : Int) := by rw [wrap_eq]; omega
    rw [e1]
    refine Tr.ck (by omega) ?_
    have ex : ∃ x : Nat, Int.tmod (bitA .i64 at_ 255) ((b.length + 1 : Nat) : Int) = (x : Int) ∧ x ≤ b.length := by
      rw [bitA_255]
      have h0 : 0 ≤ at_ % 256 := by omega
      refine ⟨(Int.tmod (at_ % 256) ((b.length + 1 : Nat) : Int)).toNat, ?_, ?_⟩
      · have := Int.tmod_nonneg ((b.length + 1 : Nat) : Int) h0; omega
      · have := Int.tmod_lt_of_pos (at_ % 256) (show (0 : Int) < ((b.length + 1 : Nat) : Int) by omega)
        have := Int.tmod_nonneg ((b.length + 1 : Nat) : Int) h0; omega
    obtain ⟨x, ex, hx⟩ := ex
    rw [ex]
    refine tr_slFact 2 rfl fun hl hc _ => ?_
    simp only [Nat.zero_mul, moved0, Int.toNat_natCast, Nat.sub_zero]
    have K : ∀ (h : H), Tr (pt w (.cells Y_18_int false (arr.map int)) :: slC false Y_int 1 na 18 18 (arr.map int) :: bC ba bc b :: bC ca cc c :: r) h
      (ckB (fitsOpen ba Y_uint8 h) (ck ((0 : Int) ≤ (x : Int) ∧ (x : Int) ≤ ((bc : Nat) : Int)) (bnd (CALL F_trace_Fifo [.slice ba b.length bc, .slice ba x bc] h) fun r hv_1 => aBool r fun x_2 => bnd (cond x_2 (bnd (CALL F_trace_Fifo [.slice ba b.length bc, .slice ca c.length cc] hv_1) fun r_1 hv_2 => aBool r_1 fun x_3 => some (x_3 == isB b c, hv_2)) (some (false, hv_1))) fun c_2 hv_3 => bnd (cond c_2 (bnd (CALL F_law25_awake [] hv_3) fun r_2 hv_4 => aBool r_2 fun x_4 => some (x_4, hv_4)) (some (false, hv_3))) fun c_3 hv_5 => some (Value.bool c_3, hv_5)))) (fun (v : Value) (_ : H) => v = .bool true) := by
      intro h
      refine Tr.xFits ?_
      refine Tr.ck ⟨by omega, by omega⟩ ?_
      refine Tr.pcall (ct_Fifo1 ba bc b x bc hx) ?_; (try simp only[nrm,nrmL,aSome_some,Nat.reduceAdd,Nat.reduceMul,Int.reduceToNat]); (repeat' first|(with_reducible first|refine Ga ?_|refine Gn fun b h=>?_|refine Tr.xFits ?_|rintro px rfl|refine fun(h:H)=>?_|intro hb)|((with_reducible first|apply Gb|apply Gc|apply Gd|apply Ge|apply Gf|apply Gg|apply Gh|apply Gi);·first|rfl|assumption)|((with_reducible first|apply Gj|apply Gk|apply Gl|apply Gm);·first|assumption|rfl)|((with_reducible apply Tr.xV);·exact⟨Nat.le_of_ble_eq_true rfl,rfl,rfl⟩)|((with_reducible apply Tr.xAgg);·exact⟨Nat.le_of_ble_eq_true rfl,rfl⟩)|((with_reducible apply Tr.xPAgg);·exact⟨Nat.le_of_ble_eq_true rfl,rfl,rfl⟩)|((with_reducible first|refine Tr.ck ?_ ?_|apply Tr.xSome|apply Tr.xCells);·first|rfl|omega|(simp only[gnd] at hb;omega))|((with_reducible refine Tr.same ?_ ?_);·first|exact sameV_sl _ _ _|exact sameV_ptr _|exact sameV_int _ _|exact sameV_bool _|exact sameV_str _)|((with_reducible apply Tr.xCellsB);·exact⟨Nat.le_of_ble_eq_true rfl,rfl⟩)|((with_reducible apply Tr.asBytes);·exact bytesN1_byteCells _)|(refine Tr.some fun _=>?_;exact⟨rfl,rfl⟩)|fail)
      refine Tr.bnd (Tr.condT rfl ?_)
      refine Tr.pcall (ct_Fifo2 ba bc b ca cc c) ?_; (try simp only[nrm,nrmL,aSome_some,Nat.reduceAdd,Nat.reduceMul,Int.reduceToNat]); (repeat' first|(with_reducible first|refine Ga ?_|refine Gn fun b h=>?_|refine Tr.xFits ?_|rintro px rfl|refine fun(h:H)=>?_|intro hb)|((with_reducible first|apply Gb|apply Gc|apply Gd|apply Ge|apply Gf|apply Gg|apply Gh|apply Gi);·first|rfl|assumption)|((with_reducible first|apply Gj|apply Gk|apply Gl|apply Gm);·first|assumption|rfl)|((with_reducible apply Tr.xV);·exact⟨Nat.le_of_ble_eq_true rfl,rfl,rfl⟩)|((with_reducible apply Tr.xAgg);·exact⟨Nat.le_of_ble_eq_true rfl,rfl⟩)|((with_reducible apply Tr.xPAgg);·exact⟨Nat.le_of_ble_eq_true rfl,rfl,rfl⟩)|((with_reducible first|refine Tr.ck ?_ ?_|apply Tr.xSome|apply Tr.xCells);·first|rfl|omega|(simp only[gnd] at hb;omega))|((with_reducible refine Tr.same ?_ ?_);·first|exact sameV_sl _ _ _|exact sameV_ptr _|exact sameV_int _ _|exact sameV_bool _|exact sameV_str _)|((with_reducible apply Tr.xCellsB);·exact⟨Nat.le_of_ble_eq_true rfl,rfl⟩)|((with_reducible apply Tr.asBytes);·exact bytesN1_byteCells _)|(refine Tr.some fun _=>?_;exact⟨rfl,rfl⟩)|fail)
      refine Tr.some fun o => (?_ : Tr _ _ _ _) o; (try simp only[nrm,nrmL,aSome_some,Nat.reduceAdd,Nat.reduceMul,Int.reduceToNat])
      refine Tr.bnd (Tr.condT (by simp) ?_)
      refine Tr.xCall (ct_awake W) ?_; rintro _ h ⟨rfl, o⟩ <;> (refine (?_ : Tr _ _ _ _) o; (try simp only[nrm,nrmL,aSome_some,Nat.reduceAdd,Nat.reduceMul,Int.reduceToNat]); (repeat' first|(with_reducible first|refine Ga ?_|refine Gn fun b h=>?_|refine Tr.xFits ?_|rintro px rfl|refine fun(h:H)=>?_|intro hb)|((with_reducible first|apply Gb|apply Gc|apply Gd|apply Ge|apply Gf|apply Gg|apply Gh|apply Gi);·first|rfl|assumption)|((with_reducible first|apply Gj|apply Gk|apply Gl|apply Gm);·first|assumption|rfl)|((with_reducible apply Tr.xV);·exact⟨Nat.le_of_ble_eq_true rfl,rfl,rfl⟩)|((with_reducible apply Tr.xAgg);·exact⟨Nat.le_of_ble_eq_true rfl,rfl⟩)|((with_reducible apply Tr.xPAgg);·exact⟨Nat.le_of_ble_eq_true rfl,rfl,rfl⟩)|((with_reducible first|refine Tr.ck ?_ ?_|apply Tr.xSome|apply Tr.xCells);·first|rfl|omega|(simp only[gnd] at hb;omega))|((with_reducible refine Tr.same ?_ ?_);·first|exact sameV_sl _ _ _|exact sameV_ptr _|exact sameV_int _ _|exact sameV_bool _|exact sameV_str _)|((with_reducible apply Tr.xCellsB);·exact⟨Nat.le_of_ble_eq_true rfl,rfl⟩)|((with_reducible apply Tr.asBytes);·exact bytesN1_byteCells _)|(refine Tr.some fun _=>?_;exact⟨rfl,rfl⟩)|fail))
      refine Tr.some fun o => (?_ : Tr _ _ _ _) o; (try simp only[nrm,nrmL,aSome_some,Nat.reduceAdd,Nat.reduceMul,Int.reduceToNat])
      refine Tr.some fun o => ?_
      rfl
    by_cases hn : c.length ≤ b.length
    · refine Tr.bnd (Tr.condT (decide_eq_true (by omega)) ?_)
      refine Tr.xFits ?_
      have e2 : mm2 false (c.length : Int) (b.length : Int) = (c.length : Int) := by rw [mm2_min]; omega
      rw [e2]
      refine Tr.ck ⟨by omega, by omega⟩ ?_
      simp only [Int.toNat_natCast]
      refine Tr.xCellsP (xs := byteCells (b.take c.length)) ⟨by omega, bc_take b _⟩ ?_
      refine Tr.asBytes (bytesN1_byteCells _) ?_
      refine Tr.xCellsP (xs := byteCells c) ⟨by omega, List.take_of_length_le (by simp [byteCells])⟩ ?_
      refine Tr.asBytes (bytesN1_byteCells _) ?_
      refine Tr.some fun o => (?_ : Tr _ _ _ _) o; (try simp only[nrm,nrmL,aSome_some,Nat.reduceAdd,Nat.reduceMul,Int.reduceToNat])
      have e3 : ((ByteArray.mk ⟨b.take c.length⟩).toList == (ByteArray.mk ⟨c⟩).toList) = isB b c := by unfold isB; rw [decide_eq_true hn, Bool.true_and]; rfl
      rw [e3]
      exact K h
    · refine Tr.bnd (Tr.condF (decide_eq_false (by omega)) ?_)
      refine Tr.some fun o => (?_ : Tr _ _ _ _) o; (try simp only[nrm,nrmL,aSome_some,Nat.reduceAdd,Nat.reduceMul,Int.reduceToNat])
      have e3 : isB b c = false := by unfold isB; rw [decide_eq_false hn, Bool.false_and]
      have K2 := K h
      rw [e3] at K2
      exact K2
  | succ m ih =>
    intro i hm hi
    have hlt : i < arr.length := by omega
    have e1 : IntKind.wrap .i64 ((i : Int) + 1) = ((i + 1 : Nat) : Int) := by rw [wrap_eq]; omega
    refine CtJ.of k_law25_TraceCounts fun h r => Tr.eq (e_law25_TraceCounts_L2 ..) ?_; (try simp only[nrm,nrmL,aSome_some,Nat.reduceAdd,Nat.reduceMul,Int.reduceToNat])
    refine Tr.condT (by simp; omega) ?_
    (repeat' first|(with_reducible first|refine Ga ?_|refine Gn fun b h=>?_|apply Tr.andG|apply Tr.orG|refine Tr.xFits ?_|rintro px rfl|refine fun(h:H)=>?_|intro hb)|((with_reducible first|apply Gb|apply Gc|apply Gd|apply Ge|apply Gf|apply Gg|apply Gh|apply Gi);·first|rfl|assumption)|((with_reducible first|apply Gj|apply Gk|apply Gl|apply Gm);·first|assumption|rfl)|((with_reducible apply Tr.xV);·exact⟨Nat.le_of_ble_eq_true rfl,rfl,rfl⟩)|((with_reducible apply Tr.xAgg);·exact⟨Nat.le_of_ble_eq_true rfl,rfl⟩)|((with_reducible apply Tr.xPAgg);·exact⟨Nat.le_of_ble_eq_true rfl,rfl,rfl⟩)|((with_reducible first|refine Tr.ck ?_ ?_|apply Tr.xSome|apply Tr.xCells);·first|rfl|omega|(simp only[gnd] at hb;omega))|((with_reducible refine Tr.same ?_ ?_);·first|exact sameV_sl _ _ _|exact sameV_ptr _|exact sameV_int _ _|exact sameV_bool _|exact sameV_str _)|((with_reducible apply Tr.xCellsB);·exact⟨Nat.le_of_ble_eq_true rfl,rfl⟩)|((with_reducible apply Tr.asBytes);·exact bytesN1_byteCells _)|(refine Tr.some fun _=>?_;exact⟨rfl,rfl⟩)|fail)
    rw [Int.toNat_natCast]
    refine Tr.xIntS (v := arr.getD i 0) (ints_at (by omega)) ?_
    (repeat' first|(with_reducible first|refine Ga ?_|refine Gn fun b h=>?_|apply Tr.andG|apply Tr.orG|refine Tr.xFits ?_|rintro px rfl|refine fun(h:H)=>?_|intro hb)|((with_reducible first|apply Gb|apply Gc|apply Gd|apply Ge|apply Gf|apply Gg|apply Gh|apply Gi);·first|rfl|assumption)|((with_reducible first|apply Gj|apply Gk|apply Gl|apply Gm);·first|assumption|rfl)|((with_reducible apply Tr.xV);·exact⟨Nat.le_of_ble_eq_true rfl,rfl,rfl⟩)|((with_reducible apply Tr.xAgg);·exact⟨Nat.le_of_ble_eq_true rfl,rfl⟩)|((with_reducible apply Tr.xPAgg);·exact⟨Nat.le_of_ble_eq_true rfl,rfl,rfl⟩)|((with_reducible first|refine Tr.ck ?_ ?_|apply Tr.xSome|apply Tr.xCells);·first|rfl|omega|(simp only[gnd] at hb;omega))|((with_reducible refine Tr.same ?_ ?_);·first|exact sameV_sl _ _ _|exact sameV_ptr _|exact sameV_int _ _|exact sameV_bool _|exact sameV_str _)|((with_reducible apply Tr.xCellsB);·exact⟨Nat.le_of_ble_eq_true rfl,rfl⟩)|((with_reducible apply Tr.asBytes);·exact bytesN1_byteCells _)|(refine Tr.some fun _=>?_;exact⟨rfl,rfl⟩)|fail)
    refine Tr.xInt (n := arr.getD i 0) (ints_at (by omega)) ?_
    refine Tr.condF (by simp) ?_
    rw [e1]
    refine Tr.xRun (ih (i + 1) (by omega) (by omega)) ?_; rintro _ h rfl
    rfl
abbrev lawT (w : Nat) (arr : List Int) (ga : Option Addr) (gc : Nat) (got : List OP) (a : Option Addr) (oc : Nat) (os : List OP) (ba : Option Addr) (bc : Nat) (b : List UInt8) (ca : Option Addr) (cc : Nat) (c : List UInt8) : List HP :=
  [pt w (.cells Y_18_int false (arr.map int)), gotC ga gc got, outsC a oc os, all2 outC (os.map (·.1)) (os.map (·.2)), bC ba bc b, bC ca cc c]
theorem ct_L1 (W : World) (s slot at_ : Int) (ba : Option Addr) (bc : Nat) (b : List UInt8) (ca : Option Addr) (cc : Nat) (c : List UInt8) (hb : b.length ≤ 200) (w : Nat) (a : Option Addr) (oc : Nat) (os : List OP) (ho : os.length ≤ 40) (hG : ∀ x ∈ os, x.2.g.length ≤ 9223372036854775807) (ga : Option Addr) (gc : Nat) :
    ∀ (m i : Nat), os.length - i = m → i ≤ os.length →
    CtJ JUMP F_law25_TraceCounts T_law25_TraceCounts_L1 [(0, .slice a os.length oc), (1, int s), (2, int slot), (3, .slice ba b.length bc), (4, .slice ca c.length cc), (5, int at_), (13, .slice ga (os.filter (sel s slot)).length gc), (14, int (((os.take i).filter (sel s slot)).length : Nat)), (15, P0 w), (16, int i)]
      (lawT w (foldN (os.take i) zeros18) ga gc (os.filter (sel s slot)) a oc os ba bc b ca cc c) fun v own => v = .bool true := by
  intro m
  induction m with
  | zero =>
    intro i hm hi
    have hi2 : i = os.length := by omega
    subst hi2
    have hlen : (foldN os zeros18).length = 18 := foldN_len os zeros18
    rw [List.take_length]
    simp only [lawT]
    refine CtJ.of k_law25_TraceCounts fun h r => Tr.eq (e_law25_TraceCounts_L1 ..) ?_; (try simp only[nrm,nrmL,aSome_some,Nat.reduceAdd,Nat.reduceMul,Int.reduceToNat])
    refine Tr.condF (by simp) ?_
    refine Tr.xCall (ct_Counts a oc os ho) ?_; rintro _ h ⟨na, rfl, o⟩ <;> (refine (?_ : Tr _ _ _ _) o; (try simp only[nrm,nrmL,aSome_some,Nat.reduceAdd,Nat.reduceMul,Int.reduceToNat]); (repeat' first|(with_reducible first|refine Ga ?_|refine Gn fun b h=>?_|refine Tr.xFits ?_|rintro px rfl|refine fun(h:H)=>?_|intro hb)|((with_reducible first|apply Gb|apply Gc|apply Gd|apply Ge|apply Gf|apply Gg|apply Gh|apply Gi);·first|rfl|assumption)|((with_reducible first|apply Gj|apply Gk|apply Gl|apply Gm);·first|assumption|rfl)|((with_reducible apply Tr.xV);·exact⟨Nat.le_of_ble_eq_true rfl,rfl,rfl⟩)|((with_reducible apply Tr.xAgg);·exact⟨Nat.le_of_ble_eq_true rfl,rfl⟩)|((with_reducible apply Tr.xPAgg);·exact⟨Nat.le_of_ble_eq_true rfl,rfl,rfl⟩)|((with_reducible first|refine Tr.ck ?_ ?_|apply Tr.xSome|apply Tr.xCells);·first|rfl|omega|(simp only[gnd] at hb;omega))|((with_reducible refine Tr.same ?_ ?_);·first|exact sameV_sl _ _ _|exact sameV_ptr _|exact sameV_int _ _|exact sameV_bool _|exact sameV_str _)|((with_reducible apply Tr.xCellsB);·exact⟨Nat.le_of_ble_eq_true rfl,rfl⟩)|((with_reducible apply Tr.asBytes);·exact bytesN1_byteCells _)|(refine Tr.some fun _=>?_;exact⟨rfl,rfl⟩)|fail))
    refine Tr.bnd (Tr.condF (by simp) ?_)
    refine Tr.some fun o => (?_ : Tr _ _ _ _) o; (try simp only[nrm,nrmL,aSome_some,Nat.reduceAdd,Nat.reduceMul,Int.reduceToNat])
    refine Tr.condF (by rfl) ?_
    refine Tr.xRun (ct_L2 W ba bc b ca cc c at_ hb w na (foldN os zeros18) hlen _ 0 rfl (by omega)) ?_; rintro _ h rfl
    rfl
  | succ m ih =>
    intro i hm hi
    have hlt : i < os.length := by omega
    have hp : os[i]? = some os[i] := List.getElem?_eq_getElem hlt
    have hx := flatO_at os i _ hp
    have hmem : os[i] ∈ os := List.getElem_mem hlt
    have hgl := hG _ hmem
    have hn := ih (i + 1) (by omega) (by omega)
    rw [take_snoc hp, foldN_snoc, List.filter_append, List.length_append] at hn
    have hfa := filter_at (sel s slot) hp
    have hk : ((os.take i).filter (sel s slot)).length ≤ i := Nat.le_trans (List.length_filter_le ..) (by rw [List.length_take]; omega)
    have hlen : (foldN (os.take i) zeros18).length = 18 := foldN_len _ zeros18
    have hfs : ((os.map (·.1)) : List OutG)[i]? = some os[i].1 := by rw [List.getElem?_map, hp]; rfl
    have hys : ((os.map (·.2)) : List OutY)[i]? = some os[i].2 := by rw [List.getElem?_map, hp]; rfl
    generalize os[i] = x at *
    obtain ⟨g, y⟩ := x
    generalize ((os.take i).filter (sel s slot)).length = k at *
    generalize foldN (os.take i) zeros18 = arr at *
    have hfl := flatO_len os
    have hfl2 := flatO_len (os.filter (sel s slot))
    generalize hgot : os.filter (sel s slot) = got at *
    have e1 : IntKind.wrap .i64 ((i : Int) + 1) = ((i + 1 : Nat) : Int) := by rw [wrap_eq]; omega
    have e1k : IntKind.wrap .i64 ((k : Int) + 1) = ((k + 1 : Nat) : Int) := by rw [wrap_eq]; omega
    have hR : ∀ bo : Nat, CtJ JUMP F_law25_TraceCounts T_law25_TraceCounts_R1 [(0, .slice a os.length oc), (1, int s), (2, int slot), (3, .slice ba b.length bc), (4, .slice ca c.length cc), (5, int at_), (13, .slice ga got.length gc), (14, int (k : Nat)), (15, P0 w), (16, int i), (17, P0 bo)]
      (pt bo (.cells Y_api_Out false (outL g y)) :: lawT w (stepN arr y) ga gc got a oc os ba bc b ca cc c) fun v own => v = .bool true := by
      intro bo
      simp only [lawT] at hn ⊢
      refine CtJ.of k_law25_TraceCounts fun h r => Tr.eq (e_law25_TraceCounts_R1 ..) ?_; (try simp only[nrm,nrmL,aSome_some,Nat.reduceAdd,Nat.reduceMul,Int.reduceToNat])
      refine Tr.xInt (n := y.s) rfl ?_
      apply Tr.orG
      · intro hb
        refine Tr.xInt (n := y.slot) rfl ?_
        refine Tr.some fun _ => ⟨rfl, rfl⟩
      cases hq : (y.s == s && y.slot == slot) with
      | true =>
        have hs : sel s slot (g, y) = true := hq
        have hat := hfa hs
        have hkl : k < got.length := (List.getElem?_eq_some_iff.1 hat).1
        have hxg := flatO_at got k _ hat
        simp only [List.filter_cons, hs, if_true, List.filter_nil, List.length_singleton] at hn
        refine Tr.condF (by simp only [Bool.and_eq_true, beq_iff_eq] at hq; simp [hq.1, hq.2]) ?_
        refine Tr.bnd (Tr.condF (decide_eq_false (by omega)) ?_)
        (repeat' first|(with_reducible first|refine Ga ?_|refine Gn fun b h=>?_|apply Tr.andG|apply Tr.orG|refine Tr.xFits ?_|rintro px rfl|refine fun(h:H)=>?_|intro hb)|((with_reducible first|apply Gb|apply Gc|apply Gd|apply Ge|apply Gf|apply Gg|apply Gh|apply Gi);·first|rfl|assumption)|((with_reducible first|apply Gj|apply Gk|apply Gl|apply Gm);·first|assumption|rfl)|((with_reducible apply Tr.xV);·exact⟨Nat.le_of_ble_eq_true rfl,rfl,rfl⟩)|((with_reducible apply Tr.xAgg);·exact⟨Nat.le_of_ble_eq_true rfl,rfl⟩)|((with_reducible apply Tr.xPAgg);·exact⟨Nat.le_of_ble_eq_true rfl,rfl,rfl⟩)|((with_reducible first|refine Tr.ck ?_ ?_|apply Tr.xSome|apply Tr.xCells);·first|rfl|omega|(simp only[gnd] at hb;omega))|((with_reducible refine Tr.same ?_ ?_);·first|exact sameV_sl _ _ _|exact sameV_ptr _|exact sameV_int _ _|exact sameV_bool _|exact sameV_str _)|((with_reducible apply Tr.xCellsB);·exact⟨Nat.le_of_ble_eq_true rfl,rfl⟩)|((with_reducible apply Tr.asBytes);·exact bytesN1_byteCells _)|(refine Tr.some fun _=>?_;exact⟨rfl,rfl⟩)|fail)
        refine Tr.xAggS (xs := outL g y) ⟨by omega, by simp; omega, by simpa using hxg⟩ ?_
        refine Tr.xAgg (xs := outL g y) ⟨Nat.le_of_ble_eq_true rfl, rfl⟩ ?_
        refine tr_at2 outC _ _ hfs hys ?_
        refine Tr.xCall (ct_SameOut g y hgl) ?_; rintro _ h ⟨rfl, o⟩ <;> (refine (?_ : Tr _ _ _ _) o; (try simp only[nrm,nrmL,aSome_some,Nat.reduceAdd,Nat.reduceMul,Int.reduceToNat]); (repeat' first|(with_reducible first|refine Ga ?_|refine Gn fun b h=>?_|refine Tr.xFits ?_|rintro px rfl|refine fun(h:H)=>?_|intro hb)|((with_reducible first|apply Gb|apply Gc|apply Gd|apply Ge|apply Gf|apply Gg|apply Gh|apply Gi);·first|rfl|assumption)|((with_reducible first|apply Gj|apply Gk|apply Gl|apply Gm);·first|assumption|rfl)|((with_reducible apply Tr.xV);·exact⟨Nat.le_of_ble_eq_true rfl,rfl,rfl⟩)|((with_reducible apply Tr.xAgg);·exact⟨Nat.le_of_ble_eq_true rfl,rfl⟩)|((with_reducible apply Tr.xPAgg);·exact⟨Nat.le_of_ble_eq_true rfl,rfl,rfl⟩)|((with_reducible first|refine Tr.ck ?_ ?_|apply Tr.xSome|apply Tr.xCells);·first|rfl|omega|(simp only[gnd] at hb;omega))|((with_reducible refine Tr.same ?_ ?_);·first|exact sameV_sl _ _ _|exact sameV_ptr _|exact sameV_int _ _|exact sameV_bool _|exact sameV_str _)|((with_reducible apply Tr.xCellsB);·exact⟨Nat.le_of_ble_eq_true rfl,rfl⟩)|((with_reducible apply Tr.asBytes);·exact bytesN1_byteCells _)|(refine Tr.some fun _=>?_;exact⟨rfl,rfl⟩)|fail))
        refine Tr.some fun o => (?_ : Tr _ _ _ _) o; (try simp only[nrm,nrmL,aSome_some,Nat.reduceAdd,Nat.reduceMul,Int.reduceToNat])
        refine tr_back2 outC _ _ i hfs hys ?_
        refine Tr.condF rfl ?_
        rw [e1, e1k]
        refine Tr.xRun (hn) ?_; rintro _ h rfl
        rfl
      | false =>
        have hs : sel s slot (g, y) = false := hq
        simp only [List.filter_cons, hs, List.filter_nil, List.length_nil, Nat.add_zero] at hn
        refine Tr.condT (by simp only [Bool.and_eq_false_iff, beq_eq_false_iff_ne] at hq; simpa using hq) ?_
        rw [e1]
        refine Tr.xRun (hn) ?_; rintro _ h rfl
        rfl
    simp only [lawT] at hR ⊢
    refine CtJ.of k_law25_TraceCounts fun h r => Tr.eq (e_law25_TraceCounts_L1 ..) ?_; (try simp only[nrm,nrmL,aSome_some,Nat.reduceAdd,Nat.reduceMul,Int.reduceToNat])
    refine Tr.condT (by simp; omega) ?_
    (repeat' first|(with_reducible first|refine Ga ?_|refine Gn fun b h=>?_|apply Tr.andG|apply Tr.orG|refine Tr.xFits ?_|rintro px rfl|refine fun(h:H)=>?_|intro hb)|((with_reducible first|apply Gb|apply Gc|apply Gd|apply Ge|apply Gf|apply Gg|apply Gh|apply Gi);·first|rfl|assumption)|((with_reducible first|apply Gj|apply Gk|apply Gl|apply Gm);·first|assumption|rfl)|((with_reducible apply Tr.xV);·exact⟨Nat.le_of_ble_eq_true rfl,rfl,rfl⟩)|((with_reducible apply Tr.xAgg);·exact⟨Nat.le_of_ble_eq_true rfl,rfl⟩)|((with_reducible apply Tr.xPAgg);·exact⟨Nat.le_of_ble_eq_true rfl,rfl,rfl⟩)|((with_reducible first|refine Tr.ck ?_ ?_|apply Tr.xSome|apply Tr.xCells);·first|rfl|omega|(simp only[gnd] at hb;omega))|((with_reducible refine Tr.same ?_ ?_);·first|exact sameV_sl _ _ _|exact sameV_ptr _|exact sameV_int _ _|exact sameV_bool _|exact sameV_str _)|((with_reducible apply Tr.xCellsB);·exact⟨Nat.le_of_ble_eq_true rfl,rfl⟩)|((with_reducible apply Tr.asBytes);·exact bytesN1_byteCells _)|(refine Tr.some fun _=>?_;exact⟨rfl,rfl⟩)|fail)
    refine Tr.xAggS (xs := outL g y) ⟨by omega, by simp; omega, by simpa using hx⟩ ?_
    refine Tr.nw fun bo h => ?_
    refine Tr.ck (by rfl) ?_
    refine Tr.xPAgg (cs' := outL g y) ⟨Nat.le_of_ble_eq_true rfl, rfl, by simp [outL]⟩ fun h => ?_
    refine Tr.xBool (n := y.back) rfl ?_
    apply Tr.andG
    · intro hb
      refine Tr.xInt (n := y.op) rfl ?_
      refine Tr.some fun _ => ⟨rfl, rfl⟩
    apply Tr.andG
    · intro hb
      refine Tr.xInt (n := y.op) rfl ?_
      refine Tr.some fun _ => ⟨rfl, rfl⟩
    have hR2 := hR bo
    cases hq : (y.back && decide (y.op ≥ 1) && decide (y.op ≤ 18)) with
    | true =>
      have hs : cond3 y = true := hq
      have hop : 1 ≤ y.op ∧ y.op ≤ 18 := by
        simp only [Bool.and_eq_true, decide_eq_true_eq] at hq
        omega
      have e2 : IntKind.wrap .i64 (y.op - 1) = (((y.op - 1).toNat : Nat) : Int) := by rw [wrap_eq]; omega
      have est : stepN arr y = arr.set (y.op - 1).toNat (IntKind.wrap .i64 (arr.getD (y.op - 1).toNat 0 + 1)) := by unfold stepN; rw [if_pos hs]
      rw [est] at hR2
      have hj : (y.op - 1).toNat < 18 := by omega
      generalize (y.op - 1).toNat = j at e2 hR2 hj ⊢
      refine Tr.condT rfl ?_
      refine Tr.xInt (n := y.op) rfl ?_
      rw [e2]
      (repeat' first|(with_reducible first|refine Ga ?_|refine Gn fun b h=>?_|apply Tr.andG|apply Tr.orG|refine Tr.xFits ?_|rintro px rfl|refine fun(h:H)=>?_|intro hb)|((with_reducible first|apply Gb|apply Gc|apply Gd|apply Ge|apply Gf|apply Gg|apply Gh|apply Gi);·first|rfl|assumption)|((with_reducible first|apply Gj|apply Gk|apply Gl|apply Gm);·first|assumption|rfl)|((with_reducible apply Tr.xV);·exact⟨Nat.le_of_ble_eq_true rfl,rfl,rfl⟩)|((with_reducible apply Tr.xAgg);·exact⟨Nat.le_of_ble_eq_true rfl,rfl⟩)|((with_reducible apply Tr.xPAgg);·exact⟨Nat.le_of_ble_eq_true rfl,rfl,rfl⟩)|((with_reducible first|refine Tr.ck ?_ ?_|apply Tr.xSome|apply Tr.xCells);·first|rfl|omega|(simp only[gnd] at hb;omega))|((with_reducible refine Tr.same ?_ ?_);·first|exact sameV_sl _ _ _|exact sameV_ptr _|exact sameV_int _ _|exact sameV_bool _|exact sameV_str _)|((with_reducible apply Tr.xCellsB);·exact⟨Nat.le_of_ble_eq_true rfl,rfl⟩)|((with_reducible apply Tr.asBytes);·exact bytesN1_byteCells _)|(refine Tr.some fun _=>?_;exact⟨rfl,rfl⟩)|fail)
      rw [Int.toNat_natCast]
      refine Tr.xInt (n := arr.getD j 0) (ints_at (by omega)) ?_
      (repeat' first|(with_reducible first|refine Ga ?_|refine Gn fun b h=>?_|apply Tr.andG|apply Tr.orG|refine Tr.xFits ?_|rintro px rfl|refine fun(h:H)=>?_|intro hb)|((with_reducible first|apply Gb|apply Gc|apply Gd|apply Ge|apply Gf|apply Gg|apply Gh|apply Gi);·first|rfl|assumption)|((with_reducible first|apply Gj|apply Gk|apply Gl|apply Gm);·first|assumption|rfl)|((with_reducible apply Tr.xV);·exact⟨Nat.le_of_ble_eq_true rfl,rfl,rfl⟩)|((with_reducible apply Tr.xAgg);·exact⟨Nat.le_of_ble_eq_true rfl,rfl⟩)|((with_reducible apply Tr.xPAgg);·exact⟨Nat.le_of_ble_eq_true rfl,rfl,rfl⟩)|((with_reducible first|refine Tr.ck ?_ ?_|apply Tr.xSome|apply Tr.xCells);·first|rfl|omega|(simp only[gnd] at hb;omega))|((with_reducible refine Tr.same ?_ ?_);·first|exact sameV_sl _ _ _|exact sameV_ptr _|exact sameV_int _ _|exact sameV_bool _|exact sameV_str _)|((with_reducible apply Tr.xCellsB);·exact⟨Nat.le_of_ble_eq_true rfl,rfl⟩)|((with_reducible apply Tr.asBytes);·exact bytesN1_byteCells _)|(refine Tr.some fun _=>?_;exact⟨rfl,rfl⟩)|fail)
      refine Tr.xV (cs' := (arr.set j (IntKind.wrap .i64 (arr.getD j 0 + 1))).map int) ⟨by simp; omega, rfl, (List.map_set ..).symm⟩ fun h => ?_
      refine Tr.xRun (hR2) ?_; rintro _ h rfl
      rfl
    | false =>
      have hs : cond3 y = false := hq
      have est : stepN arr y = arr := by unfold stepN; rw [if_neg (by rw [hs]; simp)]
      rw [est] at hR2
      refine Tr.condF rfl ?_
      refine Tr.xRun (hR2) ?_; rintro _ h rfl
      rfl
theorem ct_TraceCounts (W : World) (s slot at_ : Int) (ba : Option Addr) (bc : Nat) (b : List UInt8) (ca : Option Addr) (cc : Nat) (c : List UInt8) (a : Option Addr) (oc : Nat) (os : List OP) (hG : ∀ x ∈ os, x.2.g.length ≤ 9223372036854775807) :
    Ct CALL F_law25_TraceCounts [.slice a os.length oc, int s, int slot, .slice ba b.length bc, .slice ca c.length cc, int at_] [outsC a oc os, all2 outC (os.map (·.1)) (os.map (·.2)), bC ba bc b, bC ca cc c] fun v own => v = .bool true := by
  refine Ct.of k_law25_TraceCounts rfl fun h r => Tr.eq (e_law25_TraceCounts ..) ?_; (try simp only[nrm,nrmL,aSome_some,Nat.reduceAdd,Nat.reduceMul,Int.reduceToNat])
  (repeat' first|(with_reducible first|refine Ga ?_|refine Gn fun b h=>?_|apply Tr.andG|apply Tr.orG|refine Tr.xFits ?_|rintro px rfl|refine fun(h:H)=>?_|intro hb)|((with_reducible first|apply Gb|apply Gc|apply Gd|apply Ge|apply Gf|apply Gg|apply Gh|apply Gi);·first|rfl|assumption)|((with_reducible first|apply Gj|apply Gk|apply Gl|apply Gm);·first|assumption|rfl)|((with_reducible apply Tr.xV);·exact⟨Nat.le_of_ble_eq_true rfl,rfl,rfl⟩)|((with_reducible apply Tr.xAgg);·exact⟨Nat.le_of_ble_eq_true rfl,rfl⟩)|((with_reducible apply Tr.xPAgg);·exact⟨Nat.le_of_ble_eq_true rfl,rfl,rfl⟩)|((with_reducible first|refine Tr.ck ?_ ?_|apply Tr.xSome|apply Tr.xCells);·first|rfl|omega|(simp only[gnd] at hb;omega))|((with_reducible refine Tr.same ?_ ?_);·first|exact sameV_sl _ _ _|exact sameV_ptr _|exact sameV_int _ _|exact sameV_bool _|exact sameV_str _)|((with_reducible apply Tr.xCellsB);·exact⟨Nat.le_of_ble_eq_true rfl,rfl⟩)|((with_reducible apply Tr.asBytes);·exact bytesN1_byteCells _)|(refine Tr.some fun _=>?_;exact⟨rfl,rfl⟩)|fail)
  cases hc : (decide ((os.length : Int) > 40) || decide ((b.length : Int) > 200) || decide ((c.length : Int) > 200)) with
  | true =>
    refine Tr.condT rfl ?_
    refine Tr.xCall (ct_awake W) ?_; rintro _ h ⟨rfl, o⟩ <;> (refine (?_ : Tr _ _ _ _) o; (try simp only[nrm,nrmL,aSome_some,Nat.reduceAdd,Nat.reduceMul,Int.reduceToNat]); (repeat' first|(with_reducible first|refine Ga ?_|refine Gn fun b h=>?_|apply Tr.andG|apply Tr.orG|refine Tr.xFits ?_|rintro px rfl|refine fun(h:H)=>?_|intro hb)|((with_reducible first|apply Gb|apply Gc|apply Gd|apply Ge|apply Gf|apply Gg|apply Gh|apply Gi);·first|rfl|assumption)|((with_reducible first|apply Gj|apply Gk|apply Gl|apply Gm);·first|assumption|rfl)|((with_reducible apply Tr.xV);·exact⟨Nat.le_of_ble_eq_true rfl,rfl,rfl⟩)|((with_reducible apply Tr.xAgg);·exact⟨Nat.le_of_ble_eq_true rfl,rfl⟩)|((with_reducible apply Tr.xPAgg);·exact⟨Nat.le_of_ble_eq_true rfl,rfl,rfl⟩)|((with_reducible first|refine Tr.ck ?_ ?_|apply Tr.xSome|apply Tr.xCells);·first|rfl|omega|(simp only[gnd] at hb;omega))|((with_reducible refine Tr.same ?_ ?_);·first|exact sameV_sl _ _ _|exact sameV_ptr _|exact sameV_int _ _|exact sameV_bool _|exact sameV_str _)|((with_reducible apply Tr.xCellsB);·exact⟨Nat.le_of_ble_eq_true rfl,rfl⟩)|((with_reducible apply Tr.asBytes);·exact bytesN1_byteCells _)|(refine Tr.some fun _=>?_;exact⟨rfl,rfl⟩)|fail))
    refine Tr.some fun o => ?_
    rfl
  | false =>
    refine Tr.condF rfl ?_
    have hb : (os.length ≤ 40 ∧ b.length ≤ 200) ∧ c.length ≤ 200 := by
      simp only [Bool.or_eq_false_iff, decide_eq_false_iff_not] at hc
      omega
    refine Tr.xCall (ct_Calls s slot a oc os hb.1.1) ?_; rintro _ h ⟨ga, gc, rfl, o⟩ <;> (refine (?_ : Tr _ _ _ _) o; (try simp only[nrm,nrmL,aSome_some,Nat.reduceAdd,Nat.reduceMul,Int.reduceToNat]))
    simp only [aSl]
    refine Tr.nw fun w h => ?_
    have J := ct_L1 W s slot at_ ba bc b ca cc c hb.1.2 w a oc os hb.1.1 hG ga gc _ 0 rfl (by omega)
    simp only [lawT] at J
    rw [show (foldN (os.take 0) zeros18).map int = [.int .i64 0, .int .i64 0, .int .i64 0, .int .i64 0, .int .i64 0, .int .i64 0, .int .i64 0, .int .i64 0, .int .i64 0, .int .i64 0, .int .i64 0, .int .i64 0, .int .i64 0, .int .i64 0, .int .i64 0, .int .i64 0, .int .i64 0, .int .i64 0] from rfl] at J
    refine Tr.xRun (J) ?_; rintro _ h rfl
    rfl
end Go.EQ

set_option maxRecDepth 100000
namespace Go.EQ
open Go Go.NN Go.Proofs Go.Proofs.YtffngggpkaibkaaGreatDoor Go.ChangeShapes Go.WideShapes Go.RowKit
theorem laidOk : laidOutB PR = true := by kernel_rfl
theorem ownOk : ownKnob PR.godebug = none := by kernel_rfl
theorem u8sT {W : World} : ImpT PR W Y_s_uint8 (fun (g : Option Addr × Nat) (l : List UInt8) => [.slice g.1 l.length g.2]) (fun g l => slC true Y_uint8 1 g.1 l.length g.2 (byteCells l)) (fun l => l.length ≤ maxLen) :=
  ImpT.bytes Y_uint8 u_s_uint8 u_uint8 (by kernel_rfl)
theorem intsT {W : World} : ImpT PR W Y_s_int (fun (g : Option Addr × Nat) (l : List Int) => [.slice g.1 l.length g.2]) (fun g l => slC true Y_int 1 g.1 l.length g.2 (l.map (Value.int .i64))) (fun l => l.length ≤ maxLen ∧ ∀ n ∈ l, (Lit.int .i64 n).wf = true) :=
  ImpT.ints Y_int u_s_int u_int (by kernel_rfl)
abbrev SysS := Int × Int × Int × List UInt8
theorem sysT {W : World} : ImpT PR W Y_api_Sys (fun (g : Option Addr × Nat) (y : SysS) => [int y.1, int y.2.1, int y.2.2.1, .slice g.1 y.2.2.2.length g.2]) (fun g y => slC true Y_uint8 1 g.1 y.2.2.2.length g.2 (byteCells y.2.2.2)) (fun _ => True) :=
  (ImpT.struct u_api_Sys (by kernel_rfl) (ImpL.cons (ImpT.int u_int) (ImpL.cons (ImpT.int u_int) (ImpL.cons (ImpT.int u_int) (ImpL.cons u8sT ImpL.nil))))).as
    fun ⟨op, a, b, l, _⟩ _ => ⟨(op, a, b, l), trivial, fun ⟨_, _, _, g, _⟩ => ⟨g, rfl, fun hh r o => ((((o.of_sl 1 rfl).of_sl 1 rfl).of_sl 1 rfl).of_sl 0 rfl)⟩⟩
theorem outT {W : World} : ImpT PR W Y_api_Out outL outC (fun y => y.g.length ≤ maxLen) :=
  (ImpT.struct u_api_Out (by kernel_rfl) (ImpL.cons (ImpT.int u_int) (ImpL.cons (ImpT.int u_int) (ImpL.cons sysT (ImpL.cons (ImpT.int u_int) (ImpL.cons (ImpT.int u_api_Errno) (ImpL.cons u8sT (ImpL.cons (ImpT.bool u_bool) (ImpL.cons intsT (ImpL.cons (ImpT.int u_int) ImpL.nil)))))))))).as
    fun ⟨s, slot, sys, n, e, w, back, g, dies, _⟩ hg => ⟨⟨s, slot, sys.1, sys.2.1, sys.2.2.1, sys.2.2.2, n, e, w, back, g, dies⟩, hg.2.2.2.2.2.2.2.1.1, fun ⟨_, _, g0, _, _, g1, _, g2, _, _⟩ => ⟨(g0, g1, g2), rfl, fun hh r o => by
      have o1 := ((o.of_sl 1 rfl).of_sl 1 rfl).join
      have o2 := (((Own.perm (r := _ :: _ :: r) o1 (.swap _ _ _)).of_sl 1 rfl).of_sl 1 rfl).join
      have o3 := (Own.perm (r := _ :: _ :: _ :: r) o2 (.swap _ _ _)).of_sl 1 rfl
      have o4 := o3.of_sl 0 rfl
      exact Own.fold (outC (g0, g1, g2) ⟨s, slot, sys.1, sys.2.1, sys.2.2.1, sys.2.2.2, n, e, w, back, g, dies⟩) () (o4.perm ((List.reverse_perm [_, _, _]).append_right r))⟩⟩
theorem outsT {W : World} : ImpT PR W Y_s_api_Out (fun (g : (Option Addr × Nat) × List OutG) (ys : List OutY) => [.slice g.1.1 ys.length g.1.2])
    (fun g ys => sl [slC true Y_api_Out 12 g.1.1 ys.length g.1.2 ((List.zip g.2 ys).flatMap fun p => outL p.1 p.2), all2 outC g.2 ys, pu (g.2.length = ys.length)]) (fun ys => ys.length ≤ maxLen ∧ ∀ y ∈ ys, y.g.length ≤ maxLen) :=
  ImpT.slice (sz := 12) Y_api_Out u_s_api_Out (by kernel_rfl) (by omega) (fun _ _ => rfl) outT
section
variable {H : Type} {enc : TypeId × Value → H} {P : Program} {w : World} {base : Nat} {spare : Nat → Bool} {held : Bool}
theorem trodAll_six {t0 t1 t2 t3 t4 t5 : TypeId} {args : Array Value} {ds : List (DataW H)} {ps : List MemPlace} (h : DataW.TrodAll enc P w base spare held [t0, t1, t2, t3, t4, t5] args.toList ds ps) :
    ∃ v0 v1 v2 v3 v4 v5 d0 d1 d2 d3 d4 d5 p0 p1 p2 p3 p4 p5, args = #[v0, v1, v2, v3, v4, v5] ∧ ds = [d0, d1, d2, d3, d4, d5] ∧ DataW.Trod enc P w base spare held t0 v0 d0 p0 ∧ DataW.Trod enc P w base spare held t1 v1 d1 p1 ∧ DataW.Trod enc P w base spare held t2 v2 d2 p2 ∧ DataW.Trod enc P w base spare held t3 v3 d3 p3 ∧ DataW.Trod enc P w base spare held t4 v4 d4 p4 ∧ DataW.Trod enc P w base spare held t5 v5 d5 p5 := by
  obtain ⟨v0, vs, d0, ds0, p0, q0, hargs, rfl, rfl, h0, r0⟩ := trodAll_cons h
  obtain ⟨v1, vs1, d1, ds1, p1, q1, rfl, rfl, rfl, h1, r1⟩ := trodAll_cons r0
  obtain ⟨v2, vs2, d2, ds2, p2, q2, rfl, rfl, rfl, h2, r2⟩ := trodAll_cons r1
  obtain ⟨v3, vs3, d3, ds3, p3, q3, rfl, rfl, rfl, h3, r3⟩ := trodAll_cons r2
  obtain ⟨v4, vs4, d4, ds4, p4, q4, rfl, rfl, rfl, h4, r4⟩ := trodAll_cons r3
  obtain ⟨v5, vs5, d5, ds5, p5, q5, rfl, rfl, rfl, h5, r5⟩ := trodAll_cons r4
  obtain ⟨rfl, rfl, rfl⟩ := trodAll_nil r5
  exact ⟨v0, v1, v2, v3, v4, v5, d0, d1, d2, d3, d4, d5, p0, p1, p2, p3, p4, p5, by cases args; simp_all, rfl, h0, h1, h2, h3, h4, h5⟩
end
theorem map_fst_zip {α β : Type} : ∀ (l : List α) (m : List β), l.length = m.length → (List.zip l m).map (·.1) = l
  | [], [], _ => rfl
  | a :: l, b :: m, h => by rw [List.zip_cons_cons, List.map_cons, map_fst_zip l m (by simpa using h)]
  | [], _ :: _, h => by simp at h
  | _ :: _, [], h => by simp at h
theorem map_snd_zip {α β : Type} : ∀ (l : List α) (m : List β), l.length = m.length → (List.zip l m).map (·.2) = m
  | [], [], _ => rfl
  | a :: l, b :: m, h => by rw [List.zip_cons_cons, List.map_cons, map_snd_zip l m (by simpa using h)]
  | [], _ :: _, h => by simp at h
  | _ :: _, [], h => by simp at h
theorem countsCalls {H : Type} {enc : TypeId × Value → H} {W : World} {v0 v1 v2 v3 v4 v5 : Value} {d0 d1 d2 d3 d4 d5 : DataW H} {p0 p1 p2 p3 p4 p5 : List MemPlace} {b0 : Nat}
    (k0 : Value.okWide PR W .any b0 Y_s_api_Out v0) (k1 : Value.okWide PR W .any b0 Y_int v1) (k2 : Value.okWide PR W .any b0 Y_int v2) (k3 : Value.okWide PR W .any b0 Y_s_uint8 v3) (k4 : Value.okWide PR W .any b0 Y_s_uint8 v4) (k5 : Value.okWide PR W .any b0 Y_int v5)
    (h0 : DataW.Trod enc PR W 0 (fun _ => true) true Y_s_api_Out v0 d0 p0) (h1 : DataW.Trod enc PR W 0 (fun _ => true) true Y_int v1 d1 p1) (h2 : DataW.Trod enc PR W 0 (fun _ => true) true Y_int v2 d2 p2) (h3 : DataW.Trod enc PR W 0 (fun _ => true) true Y_s_uint8 v3 d3 p3) (h4 : DataW.Trod enc PR W 0 (fun _ => true) true Y_s_uint8 v4 d4 p4) (h5 : DataW.Trod enc PR W 0 (fun _ => true) true Y_int v5 d5 p5) :
    Calls PR F_law25_TraceCounts #[v0, v1, v2, v3, v4, v5] W fun e W' => e = .returned (.bool true) ∧ Below W.heap.size W W' := by
  obtain ⟨ys, hys, i0⟩ := (outsT (W := W)).arg (cells_slice u_s_api_Out k0) h0
  obtain ⟨s, _, i1⟩ := ImpT.argInt u_int k1 h1
  obtain ⟨slot, _, i2⟩ := ImpT.argInt u_int k2 h2
  obtain ⟨b, _, i3⟩ := (u8sT (W := W)).arg (cells_slice u_s_uint8 k3) h3
  obtain ⟨c, _, i4⟩ := (u8sT (W := W)).arg (cells_slice u_s_uint8 k4) h4
  obtain ⟨at_, _, i5⟩ := ImpT.argInt u_int k5 h5
  refine (i0.app (i1.app (i2.app (i3.app (i4.app i5))))).run mixedOk globsOk fun vs ps hh0 hh r o => ?_
  obtain ⟨_, _, _, _, rfl, rfl, ⟨⟨⟨a, oc⟩, gs⟩, rfl, rfl⟩, hr⟩ := hh0
  obtain ⟨_, _, _, _, rfl, rfl, ⟨rfl, rfl⟩, hr⟩ := hr
  obtain ⟨_, _, _, _, rfl, rfl, ⟨rfl, rfl⟩, hr⟩ := hr
  obtain ⟨_, _, _, _, rfl, rfl, ⟨⟨ba, bc⟩, rfl, rfl⟩, hr⟩ := hr
  obtain ⟨_, _, _, _, rfl, rfl, ⟨⟨ca, cc⟩, rfl, rfl⟩, ⟨rfl, rfl⟩⟩ := hr
  simp only [List.nil_append, List.append_nil, List.cons_append] at o ⊢
  have o2 := o.perm ((List.reverse_perm [_, _, _]).append_right r)
  have hp : gs.length = ys.length := (Own.of_sl o2 2 rfl).pure
  have o3 := (Own.join o2).weak1 2
  have hl : (List.zip gs ys).length = ys.length := by rw [List.length_zip]; omega
  have T := ct_TraceCounts W s slot at_ ba bc b ca cc c a oc (List.zip gs ys) (fun x hx => by
    have := hys.2 x.2 (by obtain ⟨x1, x2⟩ := x; exact (List.of_mem_zip hx).2)
    simp only [maxLen] at this; omega)
  rw [map_fst_zip _ _ hp, map_snd_zip _ _ hp] at T
  simp only [outsC, hl] at T
  obtain ⟨v, h', e, rfl⟩ := T hh r o3
  exact ⟨h', e⟩
abbrev laid2 {H : Type} : List (String × DataW H) := [("math/bits.deBruijn32tab", Rows.laid_math_bits_deBruijn32tab), ("math/bits.deBruijn64tab", Rows.laid_math_bits_deBruijn64tab)]
theorem door_met (os : Os) (args : Array Value) : laidMetH Tryz.prog laid2 ((World.doorLaid Tryz.prog 400 os).forCall (fun _ _ => 0) ⟨#[], args, []⟩).memory :=
  laidMetH_of_parts3 (fuel := 8) (laidMet_of_run' 8 (by kernel_rfl) (by kernel_rfl)) (by kernel_rfl) (by kernel_rfl)
theorem countsLifted (os : Os) (started : os.Started) (H : Type) (enc : TypeId × Value → H) :
    ReturnsInHanded {} Tryz.checked os F_law25_TraceCounts .any (fun w args => (Rows.traceCountsSpec.pre enc Tryz.prog Tryz.f3 [] false w args ∧ laidMetH Tryz.prog laid2 w) ∧ sizedMet enc Tryz.prog Tryz.f3 (OpenSpec.ofChange Rows.traceCountsSpec) false w args)
      (Rows.traceCountsSpec.post enc Tryz.prog Tryz.f3 false true false false) := by
  refine returnsInHanded_of_change_and (C := Tryz.checked) (X := fun w _ => laidMetH Tryz.prog laid2 w) (fun _ _ _ hh h => h.of_heap hh) ownOk started (by kernel_rfl) Tryz.func3
    (ChangeSpec.witness_shaped (enc := enc) (C := Tryz.checked) (os := os) (X := fun w _ => laidMetH Tryz.prog laid2 w) false (World.doorLaid Tryz.prog 400 os) #[.slice none 0 0, .int .i64 0, .int .i64 0, .slice none 0 0, .slice none 0 0, .int .i64 0] 8 rfl (World.shaped_of_RefB (by kernel_rfl) (by kernel_rfl)) (by kernel_rfl) (by kernel_rfl) (by kernel_rfl) (door_met os _)) ?_
  intro W base args ds gs before hval hW _ _ hL _
  have hW' := hW
  obtain ⟨p, q, hA, hV, rfl, hfz, hnd⟩ := hW
  rw [Tryz.params3] at hA hval
  obtain ⟨v0, v1, v2, v3, v4, v5, d0, d1, d2, d3, d4, d5, p0, p1, p2, p3, p4, p5, rfl, rfl, h0, h1, h2, h3, h4, h5⟩ := trodAll_six hA
  refine (countsCalls (hval 0 _ v0 rfl rfl) (hval 1 _ v1 rfl rfl) (hval 2 _ v2 rfl rfl) (hval 3 _ v3 rfl rfl) (hval 4 _ v4 rfl rfl) (hval 5 _ v5 rfl rfl) h0 h1 h2 h3 h4 h5).mono fun e W' ⟨he, hb⟩ => ?_
  subst he
  refine ⟨_, rfl, post_true laidOk ?_ rfl u_bool rfl (fun ds gs hl => ?_) hW' hb⟩
  · rw [Tryz.params3]; intro t ht; simp at ht; rcases ht with rfl | rfl | rfl | rfl | rfl | rfl <;> exact ⟨by kernel_rfl, of_decide_eq_true (by kernel_rfl)⟩
  · replace hl : ds.length = 6 := hl
    cases gs with
    | cons _ _ => exact .inr (by simp)
    | nil => match ds, hl with | [_, _, _, _, _, _], _ => exact .inl rfl
theorem TraceCounts_row : Rows.TraceCountsSaid :=
  OpenClaim.holds_of_wide F_law25_TraceCounts Tryz.f3 rfl rfl rfl rfl rfl rfl rfl ⟨rfl, rfl, rfl, rfl, rfl⟩ rfl rfl rfl rfl rfl (by kernel_rfl) Tryz.func3 (by kernel_rfl)
    (of_decide_eq_true (by kernel_rfl)) (by unfold Func.isWrapper; first | (rw [if_pos (by decide +kernel)]; kernel_rfl) | (rw [if_neg (by decide +kernel)]; exact ⟨rfl, rfl⟩))
    (fun os started H enc _ => countsLifted os started H enc)
theorem TraceCounts_holds : Rows.TraceCountsCardSaid :=
  Claim7.holds_tied_plain_at .later [] [.data, .data] true (true, "68dd376fea1172a40cad1b7529e6c41f0fcc5f75966c5df814e6222363e19334") false
    TraceCounts_row (fun _ h => by cases h) (by kernel_rfl) (fun _ h => by cases h) traceCounts_row_tie rfl ⟨rfl, rfl⟩ (by kernel_rfl) rfl
    (fun f fn hf hfn => by
      obtain rfl : f = F_law25_TraceCounts := Option.some.inj ((show Tryz.prog.funcNamed "commonage/commonagelaw25.TraceCounts" = some F_law25_TraceCounts by kernel_rfl).symm.trans hf) |>.symm
      obtain rfl : fn = Tryz.f3 := (Option.some.inj (Tryz.func3.symm.trans hfn)).symm
      exact ⟨by kernel_rfl, fun j t ht => by
        rw [Tryz.params3] at ht
        have hm : t ∈ [Y_s_api_Out, Y_int, Y_int, Y_s_uint8, Y_s_uint8, Y_int] := by simpa using Array.mem_of_getElem? ht
        have hall : ([Y_s_api_Out, Y_int, Y_int, Y_s_uint8, Y_s_uint8, Y_int].all fun u => !Tryz.prog.wantsStandIn u) = true := by kernel_rfl
        exact (show Tryz.prog.wantsStandIn t = false by simpa using List.all_eq_true.1 hall t hm)⟩)
    (by kernel_rfl)
end Go.EQ
