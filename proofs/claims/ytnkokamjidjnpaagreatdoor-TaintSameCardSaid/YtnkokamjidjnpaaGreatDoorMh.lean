/- TaintSame returns true whatever it is given: an Out and a whole number; and the card ties the two tables that its code names to the program's text. No condition. -/
import Derived.Test.YtnkokamjidjnpaaGreatDoorMg
set_option linter.unusedVariables false
set_option linter.unusedSimpArgs false
set_option linter.unusedSectionVars false
set_option linter.unusedSimpArgs false
set_option linter.unusedVariables false
set_option maxRecDepth 10000
namespace Go.EQ
open Go Go.NN
abbrev int (n : Int) : Value := .int .i64 n
abbrev P0 (b : Nat) : Value := .pointer (some ⟨b, 0, none⟩)
abbrev SlS := Option Addr × Nat × Nat
abbrev slV (s : SlS) : Value := .slice s.1 s.2.1 s.2.2
theorem ct_EqB_L1 (a : Option Addr) (ro : Bool) (c : Nat) (l : List Int) (hl : l.length ≤ most) : ∀ (m i : Nat), l.length - i = m → i ≤ l.length →
    CtPJ JUMP F_slices_Equal_s_byte_byte T_slices_Equal_s_byte_byte_L1 [(0, .slice a l.length c), (1, .slice a l.length c), (12, int l.length), (13, int i)] [slC ro Y_uint8 1 a l.length c (l.map (Value.int .u8))] (.bool true) := by
  intro m
  induction m with
  | zero =>
    intro i hm hi
    refine CtPJ.of k_slices_Equal_s_byte_byte fun h r => Tr.eq (e_slices_Equal_s_byte_byte_L1 ..) ?_; (try simp only[nrm,nrmL,aSome_some,Nat.reduceAdd,Nat.reduceMul,Int.reduceToNat])
    refine Tr.condF (by simp; omega) ?_
    refine Tr.some fun o => ?_
    exact ⟨rfl, rfl⟩
  | succ m ih =>
    intro i hm hi
    have hlt : i < l.length := by omega
    have hp : l[i]? = some l[i] := List.getElem?_eq_getElem hlt
    generalize l[i] = x at hp
    have e1 : IntKind.wrap .i64 ((i : Int) + 1) = ((i + 1 : Nat) : Int) := by rw [wrap_eq]; simp only [most] at hl; omega
    refine CtPJ.of k_slices_Equal_s_byte_byte fun h r => Tr.eq (e_slices_Equal_s_byte_byte_L1 ..) ?_; (try simp only[nrm,nrmL,aSome_some,Nat.reduceAdd,Nat.reduceMul,Int.reduceToNat])
    refine Tr.condT (by simp; omega) ?_
    (repeat' first|(with_reducible first|refine Ga ?_|refine Gn fun b h=>?_|apply Tr.andG|apply Tr.orG|refine Tr.xFits ?_|rintro px rfl|refine fun(h:H)=>?_|intro hb)|((with_reducible first|apply Gb|apply Gc|apply Gd|apply Ge|apply Gf|apply Gg|apply Gh|apply Gi);·first|rfl|assumption)|((with_reducible first|apply Gj|apply Gk|apply Gl|apply Gm);·first|assumption|rfl)|((with_reducible apply Tr.xV);·exact⟨Nat.le_of_ble_eq_true rfl,rfl,rfl⟩)|((with_reducible apply Tr.xAgg);·exact⟨Nat.le_of_ble_eq_true rfl,rfl⟩)|((with_reducible apply Tr.xPAgg);·exact⟨Nat.le_of_ble_eq_true rfl,rfl,rfl⟩)|((with_reducible first|refine Tr.ck ?_ ?_|apply Tr.xSome|apply Tr.xCells);·first|rfl|omega|(simp only[gnd] at hb;omega))|((with_reducible refine Tr.same ?_ ?_);·first|exact sameV_sl _ _ _|exact sameV_ptr _|exact sameV_int _ _|exact sameV_bool _|exact sameV_str _)|((with_reducible apply Tr.xCellsB);·exact⟨Nat.le_of_ble_eq_true rfl,rfl⟩)|((with_reducible apply Tr.asBytes);·exact bytesN1_byteCells _)|(refine Tr.some fun _=>?_;exact⟨rfl,rfl⟩)|fail)
    refine Tr.xIntS (v := x) (by simp [hp]) ?_
    (repeat' first|(with_reducible first|refine Ga ?_|refine Gn fun b h=>?_|apply Tr.andG|apply Tr.orG|refine Tr.xFits ?_|rintro px rfl|refine fun(h:H)=>?_|intro hb)|((with_reducible first|apply Gb|apply Gc|apply Gd|apply Ge|apply Gf|apply Gg|apply Gh|apply Gi);·first|rfl|assumption)|((with_reducible first|apply Gj|apply Gk|apply Gl|apply Gm);·first|assumption|rfl)|((with_reducible apply Tr.xV);·exact⟨Nat.le_of_ble_eq_true rfl,rfl,rfl⟩)|((with_reducible apply Tr.xAgg);·exact⟨Nat.le_of_ble_eq_true rfl,rfl⟩)|((with_reducible apply Tr.xPAgg);·exact⟨Nat.le_of_ble_eq_true rfl,rfl,rfl⟩)|((with_reducible first|refine Tr.ck ?_ ?_|apply Tr.xSome|apply Tr.xCells);·first|rfl|omega|(simp only[gnd] at hb;omega))|((with_reducible refine Tr.same ?_ ?_);·first|exact sameV_sl _ _ _|exact sameV_ptr _|exact sameV_int _ _|exact sameV_bool _|exact sameV_str _)|((with_reducible apply Tr.xCellsB);·exact⟨Nat.le_of_ble_eq_true rfl,rfl⟩)|((with_reducible apply Tr.asBytes);·exact bytesN1_byteCells _)|(refine Tr.some fun _=>?_;exact⟨rfl,rfl⟩)|fail)
    refine Tr.xIntS (v := x) (by simp [hp]) ?_
    refine Tr.condF (by simp) ?_
    rw [e1]
    exact tr_prunO (ih (i + 1) (by omega) (by omega)) (r := r) (by simp) fun o => ⟨rfl, rfl⟩
theorem ct_EqB (a : Option Addr) (ro : Bool) (n c : Nat) (l : List Int) (s1 s2 : SlS) (hn : n = l.length) (hl : l.length ≤ most) (hs : (s1 = (a, n, c) ∧ s2 = (a, n, c)) ∨ s1.2.1 ≠ s2.2.1) :
    CtP CALL F_slices_Equal_s_byte_byte [slV s1, slV s2] [slC ro Y_uint8 1 a n c (l.map (Value.int .u8))] (.bool (decide (s1.2.1 = s2.2.1))) := by
  subst hn
  obtain ⟨a1, n1, c1⟩ := s1
  obtain ⟨a2, n2, c2⟩ := s2
  refine CtP.of k_slices_Equal_s_byte_byte rfl fun h r => Tr.eq (e_slices_Equal_s_byte_byte ..) ?_; (try simp only[nrm,nrmL,aSome_some,Nat.reduceAdd,Nat.reduceMul,Int.reduceToNat])
  rcases hs with ⟨h1, h2⟩ | hs
  · cases h1; cases h2
    refine Tr.condF (by simp) ?_
    exact tr_prunO (ct_EqB_L1 a ro c l hl _ 0 rfl (by omega)) (r := r) (by simp) fun o => ⟨by simp, rfl⟩
  · replace hs : n1 ≠ n2 := hs
    refine Tr.condT (by simp; omega) ?_
    refine Tr.some fun o => ?_
    exact ⟨by rw [decide_eq_false hs], rfl⟩
theorem ct_EqI_L1 (a : Option Addr) (ro : Bool) (c : Nat) (l : List Int) (hl : l.length ≤ most) : ∀ (m i : Nat), l.length - i = m → i ≤ l.length →
    CtPJ JUMP F_slices_Equal_s_int_int T_slices_Equal_s_int_int_L1 [(0, .slice a l.length c), (1, .slice a l.length c), (12, int l.length), (13, int i)] [slC ro Y_int 1 a l.length c (l.map (Value.int .i64))] (.bool true) := by
  intro m
  induction m with
  | zero =>
    intro i hm hi
    refine CtPJ.of k_slices_Equal_s_int_int fun h r => Tr.eq (e_slices_Equal_s_int_int_L1 ..) ?_; (try simp only[nrm,nrmL,aSome_some,Nat.reduceAdd,Nat.reduceMul,Int.reduceToNat])
    refine Tr.condF (by simp; omega) ?_
    refine Tr.some fun o => ?_
    exact ⟨rfl, rfl⟩
  | succ m ih =>
    intro i hm hi
    have hlt : i < l.length := by omega
    have hp : l[i]? = some l[i] := List.getElem?_eq_getElem hlt
    generalize l[i] = x at hp
    have e1 : IntKind.wrap .i64 ((i : Int) + 1) = ((i + 1 : Nat) : Int) := by rw [wrap_eq]; simp only [most] at hl; omega
    refine CtPJ.of k_slices_Equal_s_int_int fun h r => Tr.eq (e_slices_Equal_s_int_int_L1 ..) ?_; (try simp only[nrm,nrmL,aSome_some,Nat.reduceAdd,Nat.reduceMul,Int.reduceToNat])
    refine Tr.condT (by simp; omega) ?_
    (repeat' first|(with_reducible first|refine Ga ?_|refine Gn fun b h=>?_|apply Tr.andG|apply Tr.orG|refine Tr.xFits ?_|rintro px rfl|refine fun(h:H)=>?_|intro hb)|((with_reducible first|apply Gb|apply Gc|apply Gd|apply Ge|apply Gf|apply Gg|apply Gh|apply Gi);·first|rfl|assumption)|((with_reducible first|apply Gj|apply Gk|apply Gl|apply Gm);·first|assumption|rfl)|((with_reducible apply Tr.xV);·exact⟨Nat.le_of_ble_eq_true rfl,rfl,rfl⟩)|((with_reducible apply Tr.xAgg);·exact⟨Nat.le_of_ble_eq_true rfl,rfl⟩)|((with_reducible apply Tr.xPAgg);·exact⟨Nat.le_of_ble_eq_true rfl,rfl,rfl⟩)|((with_reducible first|refine Tr.ck ?_ ?_|apply Tr.xSome|apply Tr.xCells);·first|rfl|omega|(simp only[gnd] at hb;omega))|((with_reducible refine Tr.same ?_ ?_);·first|exact sameV_sl _ _ _|exact sameV_ptr _|exact sameV_int _ _|exact sameV_bool _|exact sameV_str _)|((with_reducible apply Tr.xCellsB);·exact⟨Nat.le_of_ble_eq_true rfl,rfl⟩)|((with_reducible apply Tr.asBytes);·exact bytesN1_byteCells _)|(refine Tr.some fun _=>?_;exact⟨rfl,rfl⟩)|fail)
    refine Tr.xIntS (v := x) (by simp [hp]) ?_
    (repeat' first|(with_reducible first|refine Ga ?_|refine Gn fun b h=>?_|apply Tr.andG|apply Tr.orG|refine Tr.xFits ?_|rintro px rfl|refine fun(h:H)=>?_|intro hb)|((with_reducible first|apply Gb|apply Gc|apply Gd|apply Ge|apply Gf|apply Gg|apply Gh|apply Gi);·first|rfl|assumption)|((with_reducible first|apply Gj|apply Gk|apply Gl|apply Gm);·first|assumption|rfl)|((with_reducible apply Tr.xV);·exact⟨Nat.le_of_ble_eq_true rfl,rfl,rfl⟩)|((with_reducible apply Tr.xAgg);·exact⟨Nat.le_of_ble_eq_true rfl,rfl⟩)|((with_reducible apply Tr.xPAgg);·exact⟨Nat.le_of_ble_eq_true rfl,rfl,rfl⟩)|((with_reducible first|refine Tr.ck ?_ ?_|apply Tr.xSome|apply Tr.xCells);·first|rfl|omega|(simp only[gnd] at hb;omega))|((with_reducible refine Tr.same ?_ ?_);·first|exact sameV_sl _ _ _|exact sameV_ptr _|exact sameV_int _ _|exact sameV_bool _|exact sameV_str _)|((with_reducible apply Tr.xCellsB);·exact⟨Nat.le_of_ble_eq_true rfl,rfl⟩)|((with_reducible apply Tr.asBytes);·exact bytesN1_byteCells _)|(refine Tr.some fun _=>?_;exact⟨rfl,rfl⟩)|fail)
    refine Tr.xIntS (v := x) (by simp [hp]) ?_
    refine Tr.condF (by simp) ?_
    rw [e1]
    exact tr_prunO (ih (i + 1) (by omega) (by omega)) (r := r) (by simp) fun o => ⟨rfl, rfl⟩
theorem ct_EqI (a : Option Addr) (ro : Bool) (n c : Nat) (l : List Int) (s1 s2 : SlS) (hn : n = l.length) (hl : l.length ≤ most) (hs : (s1 = (a, n, c) ∧ s2 = (a, n, c)) ∨ s1.2.1 ≠ s2.2.1) :
    CtP CALL F_slices_Equal_s_int_int [slV s1, slV s2] [slC ro Y_int 1 a n c (l.map (Value.int .i64))] (.bool (decide (s1.2.1 = s2.2.1))) := by
  subst hn
  obtain ⟨a1, n1, c1⟩ := s1
  obtain ⟨a2, n2, c2⟩ := s2
  refine CtP.of k_slices_Equal_s_int_int rfl fun h r => Tr.eq (e_slices_Equal_s_int_int ..) ?_; (try simp only[nrm,nrmL,aSome_some,Nat.reduceAdd,Nat.reduceMul,Int.reduceToNat])
  rcases hs with ⟨h1, h2⟩ | hs
  · cases h1; cases h2
    refine Tr.condF (by simp) ?_
    exact tr_prunO (ct_EqI_L1 a ro c l hl _ 0 rfl (by omega)) (r := r) (by simp) fun o => ⟨by simp, rfl⟩
  · replace hs : n1 ≠ n2 := hs
    refine Tr.condT (by simp; omega) ?_
    refine Tr.some fun o => ?_
    exact ⟨by rw [decide_eq_false hs], rfl⟩
end Go.EQ

set_option linter.unusedSimpArgs false
set_option linter.unusedVariables false
set_option maxRecDepth 10000
namespace Go.EQ
open Go Go.NN
structure OutS where
  s : Int
  slot : Int
  op : Int
  a : Int
  b : Int
  d : SlS
  n : Int
  e : Int
  w : SlS
  back : Bool
  g : SlS
  dies : Int
def outL (x : OutS) : List Value := [int x.s, int x.slot, int x.op, int x.a, int x.b, slV x.d, int x.n, int x.e, slV x.w, .bool x.back, slV x.g, int x.dies]
def sameO (x y : OutS) : Bool :=
  ((x.s == y.s && x.slot == y.slot && x.n == y.n && x.e == y.e && x.back == y.back && x.dies == y.dies) && (x.op == y.op && x.a == y.a && x.b == y.b && decide (x.d.2.1 = y.d.2.1))) && decide (x.w.2.1 = y.w.2.1) && decide (x.g.2.1 = y.g.2.1)
abbrev sameP (x y : SlS) (z : SlS) : Prop := (x = z ∧ y = z) ∨ x.2.1 ≠ y.2.1
theorem ct_Same (ro : Bool) (x y : OutS) (d w g : SlS) (ld lw lg : List Int) (h1 : d.2.1 = ld.length) (h2 : w.2.1 = lw.length) (h3 : g.2.1 = lg.length) (m1 : ld.length ≤ most) (m2 : lw.length ≤ most) (m3 : lg.length ≤ most)
    (hd : sameP x.d y.d d) (hw : sameP x.w y.w w) (hg : sameP x.g y.g g) :
    Ct CALL F_taint_Same [.agg ⟨outL x⟩, .agg ⟨outL y⟩] [slC ro Y_uint8 1 d.1 d.2.1 d.2.2 (ld.map (Value.int .u8)), slC ro Y_uint8 1 w.1 w.2.1 w.2.2 (lw.map (Value.int .u8)), slC ro Y_int 1 g.1 g.2.1 g.2.2 (lg.map (Value.int .i64))]
      fun v own => v = .bool (sameO x y) ∧ own [slC ro Y_uint8 1 d.1 d.2.1 d.2.2 (ld.map (Value.int .u8)), slC ro Y_uint8 1 w.1 w.2.1 w.2.2 (lw.map (Value.int .u8)), slC ro Y_int 1 g.1 g.2.1 g.2.2 (lg.map (Value.int .i64))] := by
  have c1 := ct_EqB d.1 ro d.2.1 d.2.2 ld x.d y.d h1 m1 hd
  have c2 := ct_EqB w.1 ro w.2.1 w.2.2 lw x.w y.w h2 m2 hw
  have c3 := ct_EqI g.1 ro g.2.1 g.2.2 lg x.g y.g h3 m3 hg
  simp only [outL]
  refine Ct.of k_taint_Same rfl fun h r => Tr.eq (e_taint_Same ..) ?_; (try simp only[nrm,nrmL,aSome_some,Nat.reduceAdd,Nat.reduceMul,Int.reduceToNat])
  (repeat' first|(with_reducible first|refine Ga ?_|refine Gn fun b h=>?_|apply Tr.andG|apply Tr.orG|refine Tr.xFits ?_|rintro px rfl|refine fun(h:H)=>?_|intro hb)|((with_reducible first|apply Gb|apply Gc|apply Gd|apply Ge|apply Gf|apply Gg|apply Gh|apply Gi);·first|rfl|assumption)|((with_reducible first|apply Gj|apply Gk|apply Gl|apply Gm);·first|assumption|rfl)|((with_reducible apply Tr.xV);·exact⟨Nat.le_of_ble_eq_true rfl,rfl,rfl⟩)|((with_reducible apply Tr.xAgg);·exact⟨Nat.le_of_ble_eq_true rfl,rfl⟩)|((with_reducible apply Tr.xPAgg);·exact⟨Nat.le_of_ble_eq_true rfl,rfl,rfl⟩)|((with_reducible first|refine Tr.ck ?_ ?_|apply Tr.xSome|apply Tr.xCells);·first|rfl|omega|(simp only[gnd] at hb;omega))|((with_reducible refine Tr.same ?_ ?_);·first|exact sameV_sl _ _ _|exact sameV_ptr _|exact sameV_int _ _|exact sameV_bool _|exact sameV_str _)|((with_reducible apply Tr.xCellsB);·exact⟨Nat.le_of_ble_eq_true rfl,rfl⟩)|((with_reducible apply Tr.asBytes);·exact bytesN1_byteCells _)|(refine Tr.some fun _=>?_;exact⟨rfl,rfl⟩)|fail)
  · refine Tr.pcall (c1) ?_; (try simp only[nrm,nrmL,aSome_some,Nat.reduceAdd,Nat.reduceMul,Int.reduceToNat]); (repeat' first|(with_reducible first|refine Ga ?_|refine Gn fun b h=>?_|apply Tr.andG|apply Tr.orG|refine Tr.xFits ?_|rintro px rfl|refine fun(h:H)=>?_|intro hb)|((with_reducible first|apply Gb|apply Gc|apply Gd|apply Ge|apply Gf|apply Gg|apply Gh|apply Gi);·first|rfl|assumption)|((with_reducible first|apply Gj|apply Gk|apply Gl|apply Gm);·first|assumption|rfl)|((with_reducible apply Tr.xV);·exact⟨Nat.le_of_ble_eq_true rfl,rfl,rfl⟩)|((with_reducible apply Tr.xAgg);·exact⟨Nat.le_of_ble_eq_true rfl,rfl⟩)|((with_reducible apply Tr.xPAgg);·exact⟨Nat.le_of_ble_eq_true rfl,rfl,rfl⟩)|((with_reducible first|refine Tr.ck ?_ ?_|apply Tr.xSome|apply Tr.xCells);·first|rfl|omega|(simp only[gnd] at hb;omega))|((with_reducible refine Tr.same ?_ ?_);·first|exact sameV_sl _ _ _|exact sameV_ptr _|exact sameV_int _ _|exact sameV_bool _|exact sameV_str _)|((with_reducible apply Tr.xCellsB);·exact⟨Nat.le_of_ble_eq_true rfl,rfl⟩)|((with_reducible apply Tr.asBytes);·exact bytesN1_byteCells _)|(refine Tr.some fun _=>?_;exact⟨rfl,rfl⟩)|fail)
  · refine Tr.pcall (c2) ?_; (try simp only[nrm,nrmL,aSome_some,Nat.reduceAdd,Nat.reduceMul,Int.reduceToNat]); (repeat' first|(with_reducible first|refine Ga ?_|refine Gn fun b h=>?_|apply Tr.andG|apply Tr.orG|refine Tr.xFits ?_|rintro px rfl|refine fun(h:H)=>?_|intro hb)|((with_reducible first|apply Gb|apply Gc|apply Gd|apply Ge|apply Gf|apply Gg|apply Gh|apply Gi);·first|rfl|assumption)|((with_reducible first|apply Gj|apply Gk|apply Gl|apply Gm);·first|assumption|rfl)|((with_reducible apply Tr.xV);·exact⟨Nat.le_of_ble_eq_true rfl,rfl,rfl⟩)|((with_reducible apply Tr.xAgg);·exact⟨Nat.le_of_ble_eq_true rfl,rfl⟩)|((with_reducible apply Tr.xPAgg);·exact⟨Nat.le_of_ble_eq_true rfl,rfl,rfl⟩)|((with_reducible first|refine Tr.ck ?_ ?_|apply Tr.xSome|apply Tr.xCells);·first|rfl|omega|(simp only[gnd] at hb;omega))|((with_reducible refine Tr.same ?_ ?_);·first|exact sameV_sl _ _ _|exact sameV_ptr _|exact sameV_int _ _|exact sameV_bool _|exact sameV_str _)|((with_reducible apply Tr.xCellsB);·exact⟨Nat.le_of_ble_eq_true rfl,rfl⟩)|((with_reducible apply Tr.asBytes);·exact bytesN1_byteCells _)|(refine Tr.some fun _=>?_;exact⟨rfl,rfl⟩)|fail)
  · refine Tr.pcall (c3) ?_; (try simp only[nrm,nrmL,aSome_some,Nat.reduceAdd,Nat.reduceMul,Int.reduceToNat]); (repeat' first|(with_reducible first|refine Ga ?_|refine Gn fun b h=>?_|apply Tr.andG|apply Tr.orG|refine Tr.xFits ?_|rintro px rfl|refine fun(h:H)=>?_|intro hb)|((with_reducible first|apply Gb|apply Gc|apply Gd|apply Ge|apply Gf|apply Gg|apply Gh|apply Gi);·first|rfl|assumption)|((with_reducible first|apply Gj|apply Gk|apply Gl|apply Gm);·first|assumption|rfl)|((with_reducible apply Tr.xV);·exact⟨Nat.le_of_ble_eq_true rfl,rfl,rfl⟩)|((with_reducible apply Tr.xAgg);·exact⟨Nat.le_of_ble_eq_true rfl,rfl⟩)|((with_reducible apply Tr.xPAgg);·exact⟨Nat.le_of_ble_eq_true rfl,rfl,rfl⟩)|((with_reducible first|refine Tr.ck ?_ ?_|apply Tr.xSome|apply Tr.xCells);·first|rfl|omega|(simp only[gnd] at hb;omega))|((with_reducible refine Tr.same ?_ ?_);·first|exact sameV_sl _ _ _|exact sameV_ptr _|exact sameV_int _ _|exact sameV_bool _|exact sameV_str _)|((with_reducible apply Tr.xCellsB);·exact⟨Nat.le_of_ble_eq_true rfl,rfl⟩)|((with_reducible apply Tr.asBytes);·exact bytesN1_byteCells _)|(refine Tr.some fun _=>?_;exact⟨rfl,rfl⟩)|fail)
  refine Tr.some fun o => ?_
  exact ⟨by simp only [sameO, Bool.and_assoc], o.sub⟩
end Go.EQ

set_option linter.unusedSimpArgs false
set_option linter.unusedVariables false
set_option maxRecDepth 100000
namespace Go.EQ
open Go Go.NN
theorem noGlobs : ∀ f, (cutsOf f).globs = 0 := cutsAt_globs cutsL (by kernel_rfl)
theorem globsOk : ∀ f, (cutsOf f).globs ≤ PR.globals.size := fun f => by rw [noGlobs f]; exact Nat.zero_le _
theorem mixedOk : PR.follows .mixedOrders = true := by kernel_rfl
theorem ct_awake (W : World) : Ct CALL F_law24_awake [] [] fun v own => v = .bool true ∧ own [] := Go.NF.closedF W mixedOk noGlobs tabs_ok tabs_rx 3000 (by kernel_rfl)
abbrev dC (ro : Bool) (s : SlS) (l : List Int) : HP := slC ro Y_uint8 1 s.1 s.2.1 s.2.2 (l.map (Value.int .u8))
abbrev gC (ro : Bool) (s : SlS) (l : List Int) : HP := slC ro Y_int 1 s.1 s.2.1 s.2.2 (l.map (Value.int .i64))
structure Diff (x y : OutS) : Prop where
  xy : sameO x y = false
  yx : sameO y x = false
  d : y.d = x.d ∨ y.d.2.1 ≠ x.d.2.1
  w : y.w = x.w ∨ y.w.2.1 ≠ x.w.2.1
  g : y.g = x.g ∨ y.g.2.1 ≠ x.g.2.1
theorem sameO_refl (x : OutS) : sameO x x = true := by simp [sameO]
theorem sameP_l {x y : SlS} (h : y = x ∨ y.2.1 ≠ x.2.1) : sameP x y x := by
  rcases h with h | h
  · exact .inl ⟨rfl, h⟩
  · exact .inr (Ne.symm h)
theorem sameP_r {x y : SlS} (h : y = x ∨ y.2.1 ≠ x.2.1) : sameP y x x := by
  rcases h with h | h
  · exact .inl ⟨h, rfl⟩
  · exact .inr h
theorem ct_R1 (W : World) (ro : Bool) (bo bx : Nat) (x y : OutS) (ld lw lg : List Int) (h1 : x.d.2.1 = ld.length) (h2 : x.w.2.1 = lw.length) (h3 : x.g.2.1 = lg.length) (m1 : ld.length ≤ most) (m2 : lw.length ≤ most) (m3 : lg.length ≤ most) (df : Diff x y) :
    CtJ JUMP F_law24_TaintSame T_law24_TaintSame_R1 [(2, P0 bo), (5, P0 bx)] [pt bo (.cells Y_api_Out false (outL x)), pt bx (.cells Y_api_Out false (outL y)), dC ro x.d ld, dC ro x.w lw, gC ro x.g lg] fun v own => v = .bool true := by
  have c1 := ct_Same ro x x x.d x.w x.g ld lw lg h1 h2 h3 m1 m2 m3 (.inl ⟨rfl, rfl⟩) (.inl ⟨rfl, rfl⟩) (.inl ⟨rfl, rfl⟩)
  have c2 := ct_Same ro x y x.d x.w x.g ld lw lg h1 h2 h3 m1 m2 m3 (sameP_l df.d) (sameP_l df.w) (sameP_l df.g)
  have c3 := ct_Same ro y x x.d x.w x.g ld lw lg h1 h2 h3 m1 m2 m3 (sameP_r df.d) (sameP_r df.w) (sameP_r df.g)
  rw [sameO_refl] at c1
  rw [df.xy] at c2
  rw [df.yx] at c3
  refine CtJ.of k_law24_TaintSame fun h r => Tr.eq (e_law24_TaintSame_R1 ..) ?_; (try simp only[nrm,nrmL,aSome_some,Nat.reduceAdd,Nat.reduceMul,Int.reduceToNat])
  (repeat' first|(with_reducible first|refine Ga ?_|refine Gn fun b h=>?_|refine Tr.xFits ?_|rintro px rfl|refine fun(h:H)=>?_|intro hb)|((with_reducible first|apply Gb|apply Gc|apply Gd|apply Ge|apply Gf|apply Gg|apply Gh|apply Gi);·first|rfl|assumption)|((with_reducible first|apply Gj|apply Gk|apply Gl|apply Gm);·first|assumption|rfl)|((with_reducible apply Tr.xV);·exact⟨Nat.le_of_ble_eq_true rfl,rfl,rfl⟩)|((with_reducible apply Tr.xAgg);·exact⟨Nat.le_of_ble_eq_true rfl,rfl⟩)|((with_reducible apply Tr.xPAgg);·exact⟨Nat.le_of_ble_eq_true rfl,rfl,rfl⟩)|((with_reducible first|refine Tr.ck ?_ ?_|apply Tr.xSome|apply Tr.xCells);·first|rfl|omega|(simp only[gnd] at hb;omega))|((with_reducible refine Tr.same ?_ ?_);·first|exact sameV_sl _ _ _|exact sameV_ptr _|exact sameV_int _ _|exact sameV_bool _|exact sameV_str _)|((with_reducible apply Tr.xCellsB);·exact⟨Nat.le_of_ble_eq_true rfl,rfl⟩)|((with_reducible apply Tr.asBytes);·exact bytesN1_byteCells _)|(refine Tr.some fun _=>?_;exact⟨rfl,rfl⟩)|fail)
  refine Tr.xCall (c1) ?_; rintro _ h ⟨rfl, o⟩ <;> (refine (?_ : Tr _ _ _ _) o; (try simp only[nrm,nrmL,aSome_some,Nat.reduceAdd,Nat.reduceMul,Int.reduceToNat]); (repeat' first|(with_reducible first|refine Ga ?_|refine Gn fun b h=>?_|refine Tr.xFits ?_|rintro px rfl|refine fun(h:H)=>?_|intro hb)|((with_reducible first|apply Gb|apply Gc|apply Gd|apply Ge|apply Gf|apply Gg|apply Gh|apply Gi);·first|rfl|assumption)|((with_reducible first|apply Gj|apply Gk|apply Gl|apply Gm);·first|assumption|rfl)|((with_reducible apply Tr.xV);·exact⟨Nat.le_of_ble_eq_true rfl,rfl,rfl⟩)|((with_reducible apply Tr.xAgg);·exact⟨Nat.le_of_ble_eq_true rfl,rfl⟩)|((with_reducible apply Tr.xPAgg);·exact⟨Nat.le_of_ble_eq_true rfl,rfl,rfl⟩)|((with_reducible first|refine Tr.ck ?_ ?_|apply Tr.xSome|apply Tr.xCells);·first|rfl|omega|(simp only[gnd] at hb;omega))|((with_reducible refine Tr.same ?_ ?_);·first|exact sameV_sl _ _ _|exact sameV_ptr _|exact sameV_int _ _|exact sameV_bool _|exact sameV_str _)|((with_reducible apply Tr.xCellsB);·exact⟨Nat.le_of_ble_eq_true rfl,rfl⟩)|((with_reducible apply Tr.asBytes);·exact bytesN1_byteCells _)|(refine Tr.some fun _=>?_;exact⟨rfl,rfl⟩)|fail))
  refine Tr.bnd (Tr.condT rfl ?_)
  (repeat' first|(with_reducible first|refine Ga ?_|refine Gn fun b h=>?_|refine Tr.xFits ?_|rintro px rfl|refine fun(h:H)=>?_|intro hb)|((with_reducible first|apply Gb|apply Gc|apply Gd|apply Ge|apply Gf|apply Gg|apply Gh|apply Gi);·first|rfl|assumption)|((with_reducible first|apply Gj|apply Gk|apply Gl|apply Gm);·first|assumption|rfl)|((with_reducible apply Tr.xV);·exact⟨Nat.le_of_ble_eq_true rfl,rfl,rfl⟩)|((with_reducible apply Tr.xAgg);·exact⟨Nat.le_of_ble_eq_true rfl,rfl⟩)|((with_reducible apply Tr.xPAgg);·exact⟨Nat.le_of_ble_eq_true rfl,rfl,rfl⟩)|((with_reducible first|refine Tr.ck ?_ ?_|apply Tr.xSome|apply Tr.xCells);·first|rfl|omega|(simp only[gnd] at hb;omega))|((with_reducible refine Tr.same ?_ ?_);·first|exact sameV_sl _ _ _|exact sameV_ptr _|exact sameV_int _ _|exact sameV_bool _|exact sameV_str _)|((with_reducible apply Tr.xCellsB);·exact⟨Nat.le_of_ble_eq_true rfl,rfl⟩)|((with_reducible apply Tr.asBytes);·exact bytesN1_byteCells _)|(refine Tr.some fun _=>?_;exact⟨rfl,rfl⟩)|fail)
  refine Tr.xCall (c2) ?_; rintro _ h ⟨rfl, o⟩ <;> (refine (?_ : Tr _ _ _ _) o; (try simp only[nrm,nrmL,aSome_some,Nat.reduceAdd,Nat.reduceMul,Int.reduceToNat]); (repeat' first|(with_reducible first|refine Ga ?_|refine Gn fun b h=>?_|refine Tr.xFits ?_|rintro px rfl|refine fun(h:H)=>?_|intro hb)|((with_reducible first|apply Gb|apply Gc|apply Gd|apply Ge|apply Gf|apply Gg|apply Gh|apply Gi);·first|rfl|assumption)|((with_reducible first|apply Gj|apply Gk|apply Gl|apply Gm);·first|assumption|rfl)|((with_reducible apply Tr.xV);·exact⟨Nat.le_of_ble_eq_true rfl,rfl,rfl⟩)|((with_reducible apply Tr.xAgg);·exact⟨Nat.le_of_ble_eq_true rfl,rfl⟩)|((with_reducible apply Tr.xPAgg);·exact⟨Nat.le_of_ble_eq_true rfl,rfl,rfl⟩)|((with_reducible first|refine Tr.ck ?_ ?_|apply Tr.xSome|apply Tr.xCells);·first|rfl|omega|(simp only[gnd] at hb;omega))|((with_reducible refine Tr.same ?_ ?_);·first|exact sameV_sl _ _ _|exact sameV_ptr _|exact sameV_int _ _|exact sameV_bool _|exact sameV_str _)|((with_reducible apply Tr.xCellsB);·exact⟨Nat.le_of_ble_eq_true rfl,rfl⟩)|((with_reducible apply Tr.asBytes);·exact bytesN1_byteCells _)|(refine Tr.some fun _=>?_;exact⟨rfl,rfl⟩)|fail))
  refine Tr.some fun o => (?_ : Tr _ _ _ _) o; (try simp only[nrm,nrmL,aSome_some,Nat.reduceAdd,Nat.reduceMul,Int.reduceToNat])
  refine Tr.bnd (Tr.condT rfl ?_)
  (repeat' first|(with_reducible first|refine Ga ?_|refine Gn fun b h=>?_|refine Tr.xFits ?_|rintro px rfl|refine fun(h:H)=>?_|intro hb)|((with_reducible first|apply Gb|apply Gc|apply Gd|apply Ge|apply Gf|apply Gg|apply Gh|apply Gi);·first|rfl|assumption)|((with_reducible first|apply Gj|apply Gk|apply Gl|apply Gm);·first|assumption|rfl)|((with_reducible apply Tr.xV);·exact⟨Nat.le_of_ble_eq_true rfl,rfl,rfl⟩)|((with_reducible apply Tr.xAgg);·exact⟨Nat.le_of_ble_eq_true rfl,rfl⟩)|((with_reducible apply Tr.xPAgg);·exact⟨Nat.le_of_ble_eq_true rfl,rfl,rfl⟩)|((with_reducible first|refine Tr.ck ?_ ?_|apply Tr.xSome|apply Tr.xCells);·first|rfl|omega|(simp only[gnd] at hb;omega))|((with_reducible refine Tr.same ?_ ?_);·first|exact sameV_sl _ _ _|exact sameV_ptr _|exact sameV_int _ _|exact sameV_bool _|exact sameV_str _)|((with_reducible apply Tr.xCellsB);·exact⟨Nat.le_of_ble_eq_true rfl,rfl⟩)|((with_reducible apply Tr.asBytes);·exact bytesN1_byteCells _)|(refine Tr.some fun _=>?_;exact⟨rfl,rfl⟩)|fail)
  refine Tr.xCall (c3) ?_; rintro _ h ⟨rfl, o⟩ <;> (refine (?_ : Tr _ _ _ _) o; (try simp only[nrm,nrmL,aSome_some,Nat.reduceAdd,Nat.reduceMul,Int.reduceToNat]); (repeat' first|(with_reducible first|refine Ga ?_|refine Gn fun b h=>?_|refine Tr.xFits ?_|rintro px rfl|refine fun(h:H)=>?_|intro hb)|((with_reducible first|apply Gb|apply Gc|apply Gd|apply Ge|apply Gf|apply Gg|apply Gh|apply Gi);·first|rfl|assumption)|((with_reducible first|apply Gj|apply Gk|apply Gl|apply Gm);·first|assumption|rfl)|((with_reducible apply Tr.xV);·exact⟨Nat.le_of_ble_eq_true rfl,rfl,rfl⟩)|((with_reducible apply Tr.xAgg);·exact⟨Nat.le_of_ble_eq_true rfl,rfl⟩)|((with_reducible apply Tr.xPAgg);·exact⟨Nat.le_of_ble_eq_true rfl,rfl,rfl⟩)|((with_reducible first|refine Tr.ck ?_ ?_|apply Tr.xSome|apply Tr.xCells);·first|rfl|omega|(simp only[gnd] at hb;omega))|((with_reducible refine Tr.same ?_ ?_);·first|exact sameV_sl _ _ _|exact sameV_ptr _|exact sameV_int _ _|exact sameV_bool _|exact sameV_str _)|((with_reducible apply Tr.xCellsB);·exact⟨Nat.le_of_ble_eq_true rfl,rfl⟩)|((with_reducible apply Tr.asBytes);·exact bytesN1_byteCells _)|(refine Tr.some fun _=>?_;exact⟨rfl,rfl⟩)|fail))
  refine Tr.some fun o => (?_ : Tr _ _ _ _) o; (try simp only[nrm,nrmL,aSome_some,Nat.reduceAdd,Nat.reduceMul,Int.reduceToNat])
  refine Tr.bnd (Tr.condT rfl ?_)
  refine Tr.xCall (ct_awake W) ?_; rintro _ h ⟨rfl, o⟩ <;> (refine (?_ : Tr _ _ _ _) o; (try simp only[nrm,nrmL,aSome_some,Nat.reduceAdd,Nat.reduceMul,Int.reduceToNat]); (repeat' first|(with_reducible first|refine Ga ?_|refine Gn fun b h=>?_|refine Tr.xFits ?_|rintro px rfl|refine fun(h:H)=>?_|intro hb)|((with_reducible first|apply Gb|apply Gc|apply Gd|apply Ge|apply Gf|apply Gg|apply Gh|apply Gi);·first|rfl|assumption)|((with_reducible first|apply Gj|apply Gk|apply Gl|apply Gm);·first|assumption|rfl)|((with_reducible apply Tr.xV);·exact⟨Nat.le_of_ble_eq_true rfl,rfl,rfl⟩)|((with_reducible apply Tr.xAgg);·exact⟨Nat.le_of_ble_eq_true rfl,rfl⟩)|((with_reducible apply Tr.xPAgg);·exact⟨Nat.le_of_ble_eq_true rfl,rfl,rfl⟩)|((with_reducible first|refine Tr.ck ?_ ?_|apply Tr.xSome|apply Tr.xCells);·first|rfl|omega|(simp only[gnd] at hb;omega))|((with_reducible refine Tr.same ?_ ?_);·first|exact sameV_sl _ _ _|exact sameV_ptr _|exact sameV_int _ _|exact sameV_bool _|exact sameV_str _)|((with_reducible apply Tr.xCellsB);·exact⟨Nat.le_of_ble_eq_true rfl,rfl⟩)|((with_reducible apply Tr.asBytes);·exact bytesN1_byteCells _)|(refine Tr.some fun _=>?_;exact⟨rfl,rfl⟩)|fail))
  refine Tr.some fun o => (?_ : Tr _ _ _ _) o; (try simp only[nrm,nrmL,aSome_some,Nat.reduceAdd,Nat.reduceMul,Int.reduceToNat])
  refine Tr.some fun o => ?_
  rfl
end Go.EQ

set_option linter.unusedSimpArgs false
set_option linter.unusedVariables false
set_option maxRecDepth 100000
namespace Go.EQ
open Go Go.NN
theorem wne (v : Int) : IntKind.wrap .i64 (v + 1) ≠ v := by rw [wrap_eq]; omega
theorem wne2 (v : Int) : (v == IntKind.wrap .i64 (v + 1)) = false := by simpa using Ne.symm (wne v)
theorem wne3 (v : Int) : (IntKind.wrap .i64 (v + 1) == v) = false := by simpa using wne v
theorem df_s (x : OutS) : Diff x { x with s := IntKind.wrap .i64 (x.s + 1) } := ⟨by simp [sameO, wne2], by simp [sameO, wne3], .inl rfl, .inl rfl, .inl rfl⟩
theorem df_slot (x : OutS) : Diff x { x with slot := IntKind.wrap .i64 (x.slot + 1) } := ⟨by simp [sameO, wne2], by simp [sameO, wne3], .inl rfl, .inl rfl, .inl rfl⟩
theorem df_op (x : OutS) : Diff x { x with op := IntKind.wrap .i64 (x.op + 1) } := ⟨by simp [sameO, wne2], by simp [sameO, wne3], .inl rfl, .inl rfl, .inl rfl⟩
theorem df_a (x : OutS) : Diff x { x with a := IntKind.wrap .i64 (x.a + 1) } := ⟨by simp [sameO, wne2], by simp [sameO, wne3], .inl rfl, .inl rfl, .inl rfl⟩
theorem df_b (x : OutS) : Diff x { x with b := IntKind.wrap .i64 (x.b + 1) } := ⟨by simp [sameO, wne2], by simp [sameO, wne3], .inl rfl, .inl rfl, .inl rfl⟩
theorem df_n (x : OutS) : Diff x { x with n := IntKind.wrap .i64 (x.n + 1) } := ⟨by simp [sameO, wne2], by simp [sameO, wne3], .inl rfl, .inl rfl, .inl rfl⟩
theorem df_e (x : OutS) : Diff x { x with e := IntKind.wrap .i64 (x.e + 1) } := ⟨by simp [sameO, wne2], by simp [sameO, wne3], .inl rfl, .inl rfl, .inl rfl⟩
theorem df_dies (x : OutS) : Diff x { x with dies := IntKind.wrap .i64 (x.dies + 1) } := ⟨by simp [sameO, wne2], by simp [sameO, wne3], .inl rfl, .inl rfl, .inl rfl⟩
theorem df_back (x : OutS) : Diff x { x with back := !x.back } := ⟨by simp [sameO], by simp [sameO], .inl rfl, .inl rfl, .inl rfl⟩
theorem df_d (x : OutS) (a : Option Addr) (n c : Nat) (h : n ≠ x.d.2.1) : Diff x { x with d := (a, n, c) } := ⟨by simp [sameO, Ne.symm h], by simp [sameO, h], .inr h, .inl rfl, .inl rfl⟩
theorem df_w (x : OutS) (a : Option Addr) (n c : Nat) (h : n ≠ x.w.2.1) : Diff x { x with w := (a, n, c) } := ⟨by simp [sameO, Ne.symm h], by simp [sameO, h], .inl rfl, .inr h, .inl rfl⟩
theorem df_g (x : OutS) (a : Option Addr) (n c : Nat) (h : n ≠ x.g.2.1) : Diff x { x with g := (a, n, c) } := ⟨by simp [sameO, Ne.symm h], by simp [sameO, h], .inl rfl, .inl rfl, .inr h⟩
theorem ct_TaintSame (W : World) (ro : Bool) (s slot op a bb n e dies field : Int) (back : Bool) (da wa ga : Option Addr) (dc wc gc : Nat) (ld lw lg : List Int) :
    Ct CALL F_law24_TaintSame [.agg ⟨[int s, int slot, int op, int a, int bb, .slice da ld.length dc, int n, int e, .slice wa lw.length wc, .bool back, .slice ga lg.length gc, int dies]⟩, int field]
      [slC ro Y_uint8 1 da ld.length dc (ld.map (Value.int .u8)), slC ro Y_uint8 1 wa lw.length wc (lw.map (Value.int .u8)), slC ro Y_int 1 ga lg.length gc (lg.map (Value.int .i64))] fun v own => v = .bool true := by
  refine Ct.of k_law24_TaintSame rfl fun h r => Tr.eq (e_law24_TaintSame ..) ?_; (try simp only[nrm,nrmL,aSome_some,Nat.reduceAdd,Nat.reduceMul,Int.reduceToNat])
  refine Tr.nw fun bo h => ?_
  (repeat' first|(with_reducible first|refine Ga ?_|refine Gn fun b h=>?_|apply Tr.andG|apply Tr.orG|refine Tr.xFits ?_|rintro px rfl|refine fun(h:H)=>?_|intro hb)|((with_reducible first|apply Gb|apply Gc|apply Gd|apply Ge|apply Gf|apply Gg|apply Gh|apply Gi);·first|rfl|assumption)|((with_reducible first|apply Gj|apply Gk|apply Gl|apply Gm);·first|assumption|rfl)|((with_reducible apply Tr.xV);·exact⟨Nat.le_of_ble_eq_true rfl,rfl,rfl⟩)|((with_reducible apply Tr.xAgg);·exact⟨Nat.le_of_ble_eq_true rfl,rfl⟩)|((with_reducible apply Tr.xPAgg);·exact⟨Nat.le_of_ble_eq_true rfl,rfl,rfl⟩)|((with_reducible first|refine Tr.ck ?_ ?_|apply Tr.xSome|apply Tr.xCells);·first|rfl|omega|(simp only[gnd] at hb;omega))|((with_reducible refine Tr.same ?_ ?_);·first|exact sameV_sl _ _ _|exact sameV_ptr _|exact sameV_int _ _|exact sameV_bool _|exact sameV_str _)|((with_reducible apply Tr.xCellsB);·exact⟨Nat.le_of_ble_eq_true rfl,rfl⟩)|((with_reducible apply Tr.asBytes);·exact bytesN1_byteCells _)|(refine Tr.some fun _=>?_;exact⟨rfl,rfl⟩)|fail)
  cases hc : (decide ((lw.length : Int) > 60) || decide ((lg.length : Int) > 30) || decide ((ld.length : Int) > 60)) with
  | true =>
    refine Tr.condT rfl ?_
    refine Tr.xCall (ct_awake W) ?_; rintro _ h ⟨rfl, o⟩ <;> (refine (?_ : Tr _ _ _ _) o; (try simp only[nrm,nrmL,aSome_some,Nat.reduceAdd,Nat.reduceMul,Int.reduceToNat]); (repeat' first|(with_reducible first|refine Ga ?_|refine Gn fun b h=>?_|apply Tr.andG|apply Tr.orG|refine Tr.xFits ?_|rintro px rfl|refine fun(h:H)=>?_|intro hb)|((with_reducible first|apply Gb|apply Gc|apply Gd|apply Ge|apply Gf|apply Gg|apply Gh|apply Gi);·first|rfl|assumption)|((with_reducible first|apply Gj|apply Gk|apply Gl|apply Gm);·first|assumption|rfl)|((with_reducible apply Tr.xV);·exact⟨Nat.le_of_ble_eq_true rfl,rfl,rfl⟩)|((with_reducible apply Tr.xAgg);·exact⟨Nat.le_of_ble_eq_true rfl,rfl⟩)|((with_reducible apply Tr.xPAgg);·exact⟨Nat.le_of_ble_eq_true rfl,rfl,rfl⟩)|((with_reducible first|refine Tr.ck ?_ ?_|apply Tr.xSome|apply Tr.xCells);·first|rfl|omega|(simp only[gnd] at hb;omega))|((with_reducible refine Tr.same ?_ ?_);·first|exact sameV_sl _ _ _|exact sameV_ptr _|exact sameV_int _ _|exact sameV_bool _|exact sameV_str _)|((with_reducible apply Tr.xCellsB);·exact⟨Nat.le_of_ble_eq_true rfl,rfl⟩)|((with_reducible apply Tr.asBytes);·exact bytesN1_byteCells _)|(refine Tr.some fun _=>?_;exact⟨rfl,rfl⟩)|fail))
    refine Tr.some fun o => ?_
    rfl
  | false =>
    refine Tr.condF rfl ?_
    have hm : ld.length ≤ most ∧ lw.length ≤ most ∧ lg.length ≤ most := by
      simp only [Bool.or_eq_false_iff, decide_eq_false_iff_not] at hc
      simp only [most]; omega
    have hm2 : ld.length ≤ 60 ∧ lw.length ≤ 60 ∧ lg.length ≤ 60 := by
      simp only [Bool.or_eq_false_iff, decide_eq_false_iff_not] at hc
      omega
    have J : ∀ (bx : Nat) (y : OutS), Diff ⟨s, slot, op, a, bb, (da, ld.length, dc), n, e, (wa, lw.length, wc), back, (ga, lg.length, gc), dies⟩ y →
        CtJ JUMP F_law24_TaintSame T_law24_TaintSame_R1 [(2, P0 bo), (5, P0 bx)] [pt bo (.cells Y_api_Out false [int s, int slot, int op, int a, int bb, .slice da ld.length dc, int n, int e, .slice wa lw.length wc, .bool back, .slice ga lg.length gc, int dies]), pt bx (.cells Y_api_Out false (outL y)), slC ro Y_uint8 1 da ld.length dc (ld.map (Value.int .u8)), slC ro Y_uint8 1 wa lw.length wc (lw.map (Value.int .u8)), slC ro Y_int 1 ga lg.length gc (lg.map (Value.int .i64))] fun v own => v = .bool true :=
      fun bx y df => ct_R1 W ro bo bx _ y ld lw lg rfl rfl rfl hm.1 hm.2.1 hm.2.2 df
    refine Tr.xAgg (xs := [int s, int slot, int op, int a, int bb, .slice da ld.length dc, int n, int e, .slice wa lw.length wc, .bool back, .slice ga lg.length gc, int dies]) ⟨Nat.le_of_ble_eq_true rfl, rfl⟩ ?_
    refine Tr.nw fun bx h => ?_
    refine Tr.ck (by rfl) ?_
    refine Tr.xPAgg (cs' := [int s, int slot, int op, int a, int bb, .slice da ld.length dc, int n, int e, .slice wa lw.length wc, .bool back, .slice ga lg.length gc, int dies]) ⟨Nat.le_of_ble_eq_true rfl, rfl, rfl⟩ fun h => ?_
    generalize bitA .i64 field 15 = q
    cases hq0 : (q == 0) with
    | true =>
      refine Tr.condT rfl ?_
      (repeat' first|(with_reducible first|refine Ga ?_|refine Gn fun b h=>?_|apply Tr.andG|apply Tr.orG|refine Tr.xFits ?_|rintro px rfl|refine fun(h:H)=>?_|intro hb)|((with_reducible first|apply Gb|apply Gc|apply Gd|apply Ge|apply Gf|apply Gg|apply Gh|apply Gi);·first|rfl|assumption)|((with_reducible first|apply Gj|apply Gk|apply Gl|apply Gm);·first|assumption|rfl)|((with_reducible apply Tr.xV);·exact⟨Nat.le_of_ble_eq_true rfl,rfl,rfl⟩)|((with_reducible apply Tr.xAgg);·exact⟨Nat.le_of_ble_eq_true rfl,rfl⟩)|((with_reducible apply Tr.xPAgg);·exact⟨Nat.le_of_ble_eq_true rfl,rfl,rfl⟩)|((with_reducible first|refine Tr.ck ?_ ?_|apply Tr.xSome|apply Tr.xCells);·first|rfl|omega|(simp only[gnd] at hb;omega))|((with_reducible refine Tr.same ?_ ?_);·first|exact sameV_sl _ _ _|exact sameV_ptr _|exact sameV_int _ _|exact sameV_bool _|exact sameV_str _)|((with_reducible apply Tr.xCellsB);·exact⟨Nat.le_of_ble_eq_true rfl,rfl⟩)|((with_reducible apply Tr.asBytes);·exact bytesN1_byteCells _)|(refine Tr.some fun _=>?_;exact⟨rfl,rfl⟩)|fail)
      simp only [List.set_cons_zero, List.set_cons_succ]
      have j := J bx _ (df_s _)
      simp only [outL, slV] at j
      refine Tr.xRun (j) ?_; rintro _ h rfl
      rfl
    | false =>
    refine Tr.condF rfl ?_
    cases hq1 : (q == 1) with
    | true =>
      refine Tr.condT rfl ?_
      (repeat' first|(with_reducible first|refine Ga ?_|refine Gn fun b h=>?_|apply Tr.andG|apply Tr.orG|refine Tr.xFits ?_|rintro px rfl|refine fun(h:H)=>?_|intro hb)|((with_reducible first|apply Gb|apply Gc|apply Gd|apply Ge|apply Gf|apply Gg|apply Gh|apply Gi);·first|rfl|assumption)|((with_reducible first|apply Gj|apply Gk|apply Gl|apply Gm);·first|assumption|rfl)|((with_reducible apply Tr.xV);·exact⟨Nat.le_of_ble_eq_true rfl,rfl,rfl⟩)|((with_reducible apply Tr.xAgg);·exact⟨Nat.le_of_ble_eq_true rfl,rfl⟩)|((with_reducible apply Tr.xPAgg);·exact⟨Nat.le_of_ble_eq_true rfl,rfl,rfl⟩)|((with_reducible first|refine Tr.ck ?_ ?_|apply Tr.xSome|apply Tr.xCells);·first|rfl|omega|(simp only[gnd] at hb;omega))|((with_reducible refine Tr.same ?_ ?_);·first|exact sameV_sl _ _ _|exact sameV_ptr _|exact sameV_int _ _|exact sameV_bool _|exact sameV_str _)|((with_reducible apply Tr.xCellsB);·exact⟨Nat.le_of_ble_eq_true rfl,rfl⟩)|((with_reducible apply Tr.asBytes);·exact bytesN1_byteCells _)|(refine Tr.some fun _=>?_;exact⟨rfl,rfl⟩)|fail)
      simp only [List.set_cons_zero, List.set_cons_succ]
      have j := J bx _ (df_slot _)
      simp only [outL, slV] at j
      refine Tr.xRun (j) ?_; rintro _ h rfl
      rfl
    | false =>
    refine Tr.condF rfl ?_
    cases hq2 : (q == 2) with
    | true =>
      refine Tr.condT rfl ?_
      (repeat' first|(with_reducible first|refine Ga ?_|refine Gn fun b h=>?_|apply Tr.andG|apply Tr.orG|refine Tr.xFits ?_|rintro px rfl|refine fun(h:H)=>?_|intro hb)|((with_reducible first|apply Gb|apply Gc|apply Gd|apply Ge|apply Gf|apply Gg|apply Gh|apply Gi);·first|rfl|assumption)|((with_reducible first|apply Gj|apply Gk|apply Gl|apply Gm);·first|assumption|rfl)|((with_reducible apply Tr.xV);·exact⟨Nat.le_of_ble_eq_true rfl,rfl,rfl⟩)|((with_reducible apply Tr.xAgg);·exact⟨Nat.le_of_ble_eq_true rfl,rfl⟩)|((with_reducible apply Tr.xPAgg);·exact⟨Nat.le_of_ble_eq_true rfl,rfl,rfl⟩)|((with_reducible first|refine Tr.ck ?_ ?_|apply Tr.xSome|apply Tr.xCells);·first|rfl|omega|(simp only[gnd] at hb;omega))|((with_reducible refine Tr.same ?_ ?_);·first|exact sameV_sl _ _ _|exact sameV_ptr _|exact sameV_int _ _|exact sameV_bool _|exact sameV_str _)|((with_reducible apply Tr.xCellsB);·exact⟨Nat.le_of_ble_eq_true rfl,rfl⟩)|((with_reducible apply Tr.asBytes);·exact bytesN1_byteCells _)|(refine Tr.some fun _=>?_;exact⟨rfl,rfl⟩)|fail)
      simp only [List.set_cons_zero, List.set_cons_succ]
      have j := J bx _ (df_op _)
      simp only [outL, slV] at j
      refine Tr.xRun (j) ?_; rintro _ h rfl
      rfl
    | false =>
    refine Tr.condF rfl ?_
    cases hq3 : (q == 3) with
    | true =>
      refine Tr.condT rfl ?_
      (repeat' first|(with_reducible first|refine Ga ?_|refine Gn fun b h=>?_|apply Tr.andG|apply Tr.orG|refine Tr.xFits ?_|rintro px rfl|refine fun(h:H)=>?_|intro hb)|((with_reducible first|apply Gb|apply Gc|apply Gd|apply Ge|apply Gf|apply Gg|apply Gh|apply Gi);·first|rfl|assumption)|((with_reducible first|apply Gj|apply Gk|apply Gl|apply Gm);·first|assumption|rfl)|((with_reducible apply Tr.xV);·exact⟨Nat.le_of_ble_eq_true rfl,rfl,rfl⟩)|((with_reducible apply Tr.xAgg);·exact⟨Nat.le_of_ble_eq_true rfl,rfl⟩)|((with_reducible apply Tr.xPAgg);·exact⟨Nat.le_of_ble_eq_true rfl,rfl,rfl⟩)|((with_reducible first|refine Tr.ck ?_ ?_|apply Tr.xSome|apply Tr.xCells);·first|rfl|omega|(simp only[gnd] at hb;omega))|((with_reducible refine Tr.same ?_ ?_);·first|exact sameV_sl _ _ _|exact sameV_ptr _|exact sameV_int _ _|exact sameV_bool _|exact sameV_str _)|((with_reducible apply Tr.xCellsB);·exact⟨Nat.le_of_ble_eq_true rfl,rfl⟩)|((with_reducible apply Tr.asBytes);·exact bytesN1_byteCells _)|(refine Tr.some fun _=>?_;exact⟨rfl,rfl⟩)|fail)
      simp only [List.set_cons_zero, List.set_cons_succ]
      have j := J bx _ (df_a _)
      simp only [outL, slV] at j
      refine Tr.xRun (j) ?_; rintro _ h rfl
      rfl
    | false =>
    refine Tr.condF rfl ?_
    cases hq4 : (q == 4) with
    | true =>
      refine Tr.condT rfl ?_
      (repeat' first|(with_reducible first|refine Ga ?_|refine Gn fun b h=>?_|apply Tr.andG|apply Tr.orG|refine Tr.xFits ?_|rintro px rfl|refine fun(h:H)=>?_|intro hb)|((with_reducible first|apply Gb|apply Gc|apply Gd|apply Ge|apply Gf|apply Gg|apply Gh|apply Gi);·first|rfl|assumption)|((with_reducible first|apply Gj|apply Gk|apply Gl|apply Gm);·first|assumption|rfl)|((with_reducible apply Tr.xV);·exact⟨Nat.le_of_ble_eq_true rfl,rfl,rfl⟩)|((with_reducible apply Tr.xAgg);·exact⟨Nat.le_of_ble_eq_true rfl,rfl⟩)|((with_reducible apply Tr.xPAgg);·exact⟨Nat.le_of_ble_eq_true rfl,rfl,rfl⟩)|((with_reducible first|refine Tr.ck ?_ ?_|apply Tr.xSome|apply Tr.xCells);·first|rfl|omega|(simp only[gnd] at hb;omega))|((with_reducible refine Tr.same ?_ ?_);·first|exact sameV_sl _ _ _|exact sameV_ptr _|exact sameV_int _ _|exact sameV_bool _|exact sameV_str _)|((with_reducible apply Tr.xCellsB);·exact⟨Nat.le_of_ble_eq_true rfl,rfl⟩)|((with_reducible apply Tr.asBytes);·exact bytesN1_byteCells _)|(refine Tr.some fun _=>?_;exact⟨rfl,rfl⟩)|fail)
      simp only [List.set_cons_zero, List.set_cons_succ]
      have j := J bx _ (df_b _)
      simp only [outL, slV] at j
      refine Tr.xRun (j) ?_; rintro _ h rfl
      rfl
    | false =>
    refine Tr.condF rfl ?_
    cases hq5 : (q == 5) with
    | true =>
      refine Tr.condT rfl ?_
      refine Tr.nw fun b2 h => ?_
      refine tr_asSl 0 rfl 1 0 rfl (by omega) ?_
      simp only [List.set_cons_zero]
      (repeat' first|(with_reducible first|refine Ga ?_|refine Gn fun b h=>?_|apply Tr.andG|apply Tr.orG|refine Tr.xFits ?_|rintro px rfl|refine fun(h:H)=>?_|intro hb)|((with_reducible first|apply Gb|apply Gc|apply Gd|apply Ge|apply Gf|apply Gg|apply Gh|apply Gi);·first|rfl|assumption)|((with_reducible first|apply Gj|apply Gk|apply Gl|apply Gm);·first|assumption|rfl)|((with_reducible apply Tr.xV);·exact⟨Nat.le_of_ble_eq_true rfl,rfl,rfl⟩)|((with_reducible apply Tr.xAgg);·exact⟨Nat.le_of_ble_eq_true rfl,rfl⟩)|((with_reducible apply Tr.xPAgg);·exact⟨Nat.le_of_ble_eq_true rfl,rfl,rfl⟩)|((with_reducible first|refine Tr.ck ?_ ?_|apply Tr.xSome|apply Tr.xCells);·first|rfl|omega|(simp only[gnd] at hb;omega))|((with_reducible refine Tr.same ?_ ?_);·first|exact sameV_sl _ _ _|exact sameV_ptr _|exact sameV_int _ _|exact sameV_bool _|exact sameV_str _)|((with_reducible apply Tr.xCellsB);·exact⟨Nat.le_of_ble_eq_true rfl,rfl⟩)|((with_reducible apply Tr.asBytes);·exact bytesN1_byteCells _)|(refine Tr.some fun _=>?_;exact⟨rfl,rfl⟩)|fail)
      refine Tr.xApd ?_ (fun a1 c1 h => ?_)
      · exact ⟨by simp, by rw [List.all_map]; exact List.all_eq_true.2 fun _ _ => rfl, by simp only [most]; omega⟩
      (try simp only[nrm,nrmL,aSome_some,Nat.reduceAdd,Nat.reduceMul,Int.reduceToNat])
      (repeat' first|(with_reducible first|refine Ga ?_|refine Gn fun b h=>?_|apply Tr.andG|apply Tr.orG|refine Tr.xFits ?_|rintro px rfl|refine fun(h:H)=>?_|intro hb)|((with_reducible first|apply Gb|apply Gc|apply Gd|apply Ge|apply Gf|apply Gg|apply Gh|apply Gi);·first|rfl|assumption)|((with_reducible first|apply Gj|apply Gk|apply Gl|apply Gm);·first|assumption|rfl)|((with_reducible apply Tr.xV);·exact⟨Nat.le_of_ble_eq_true rfl,rfl,rfl⟩)|((with_reducible apply Tr.xAgg);·exact⟨Nat.le_of_ble_eq_true rfl,rfl⟩)|((with_reducible apply Tr.xPAgg);·exact⟨Nat.le_of_ble_eq_true rfl,rfl,rfl⟩)|((with_reducible first|refine Tr.ck ?_ ?_|apply Tr.xSome|apply Tr.xCells);·first|rfl|omega|(simp only[gnd] at hb;omega))|((with_reducible refine Tr.same ?_ ?_);·first|exact sameV_sl _ _ _|exact sameV_ptr _|exact sameV_int _ _|exact sameV_bool _|exact sameV_str _)|((with_reducible apply Tr.xCellsB);·exact⟨Nat.le_of_ble_eq_true rfl,rfl⟩)|((with_reducible apply Tr.asBytes);·exact bytesN1_byteCells _)|(refine Tr.some fun _=>?_;exact⟨rfl,rfl⟩)|fail)
      refine Tr.xApd ?_ (fun a2 c2 h => ?_)
      · exact ⟨by first | rfl | simp, by first | rfl | simp, by simp only [most]; omega⟩
      (try simp only[nrm,nrmL,aSome_some,Nat.reduceAdd,Nat.reduceMul,Int.reduceToNat])
      (repeat' first|(with_reducible first|refine Ga ?_|refine Gn fun b h=>?_|apply Tr.andG|apply Tr.orG|refine Tr.xFits ?_|rintro px rfl|refine fun(h:H)=>?_|intro hb)|((with_reducible first|apply Gb|apply Gc|apply Gd|apply Ge|apply Gf|apply Gg|apply Gh|apply Gi);·first|rfl|assumption)|((with_reducible first|apply Gj|apply Gk|apply Gl|apply Gm);·first|assumption|rfl)|((with_reducible apply Tr.xV);·exact⟨Nat.le_of_ble_eq_true rfl,rfl,rfl⟩)|((with_reducible apply Tr.xAgg);·exact⟨Nat.le_of_ble_eq_true rfl,rfl⟩)|((with_reducible apply Tr.xPAgg);·exact⟨Nat.le_of_ble_eq_true rfl,rfl,rfl⟩)|((with_reducible first|refine Tr.ck ?_ ?_|apply Tr.xSome|apply Tr.xCells);·first|rfl|omega|(simp only[gnd] at hb;omega))|((with_reducible refine Tr.same ?_ ?_);·first|exact sameV_sl _ _ _|exact sameV_ptr _|exact sameV_int _ _|exact sameV_bool _|exact sameV_str _)|((with_reducible apply Tr.xCellsB);·exact⟨Nat.le_of_ble_eq_true rfl,rfl⟩)|((with_reducible apply Tr.asBytes);·exact bytesN1_byteCells _)|(refine Tr.some fun _=>?_;exact⟨rfl,rfl⟩)|fail)
      simp only [List.set_cons_zero, List.set_cons_succ]
      have j := J bx _ (df_d _ a2 (ld.length + 1) c2 (by simp))
      simp only [outL, slV] at j
      refine Tr.xRun (j) ?_; rintro _ h rfl
      rfl
    | false =>
    refine Tr.condF rfl ?_
    cases hq6 : (q == 6) with
    | true =>
      refine Tr.condT rfl ?_
      (repeat' first|(with_reducible first|refine Ga ?_|refine Gn fun b h=>?_|apply Tr.andG|apply Tr.orG|refine Tr.xFits ?_|rintro px rfl|refine fun(h:H)=>?_|intro hb)|((with_reducible first|apply Gb|apply Gc|apply Gd|apply Ge|apply Gf|apply Gg|apply Gh|apply Gi);·first|rfl|assumption)|((with_reducible first|apply Gj|apply Gk|apply Gl|apply Gm);·first|assumption|rfl)|((with_reducible apply Tr.xV);·exact⟨Nat.le_of_ble_eq_true rfl,rfl,rfl⟩)|((with_reducible apply Tr.xAgg);·exact⟨Nat.le_of_ble_eq_true rfl,rfl⟩)|((with_reducible apply Tr.xPAgg);·exact⟨Nat.le_of_ble_eq_true rfl,rfl,rfl⟩)|((with_reducible first|refine Tr.ck ?_ ?_|apply Tr.xSome|apply Tr.xCells);·first|rfl|omega|(simp only[gnd] at hb;omega))|((with_reducible refine Tr.same ?_ ?_);·first|exact sameV_sl _ _ _|exact sameV_ptr _|exact sameV_int _ _|exact sameV_bool _|exact sameV_str _)|((with_reducible apply Tr.xCellsB);·exact⟨Nat.le_of_ble_eq_true rfl,rfl⟩)|((with_reducible apply Tr.asBytes);·exact bytesN1_byteCells _)|(refine Tr.some fun _=>?_;exact⟨rfl,rfl⟩)|fail)
      simp only [List.set_cons_zero, List.set_cons_succ]
      have j := J bx _ (df_n _)
      simp only [outL, slV] at j
      refine Tr.xRun (j) ?_; rintro _ h rfl
      rfl
    | false =>
    refine Tr.condF rfl ?_
    cases hq7 : (q == 7) with
    | true =>
      refine Tr.condT rfl ?_
      (repeat' first|(with_reducible first|refine Ga ?_|refine Gn fun b h=>?_|apply Tr.andG|apply Tr.orG|refine Tr.xFits ?_|rintro px rfl|refine fun(h:H)=>?_|intro hb)|((with_reducible first|apply Gb|apply Gc|apply Gd|apply Ge|apply Gf|apply Gg|apply Gh|apply Gi);·first|rfl|assumption)|((with_reducible first|apply Gj|apply Gk|apply Gl|apply Gm);·first|assumption|rfl)|((with_reducible apply Tr.xV);·exact⟨Nat.le_of_ble_eq_true rfl,rfl,rfl⟩)|((with_reducible apply Tr.xAgg);·exact⟨Nat.le_of_ble_eq_true rfl,rfl⟩)|((with_reducible apply Tr.xPAgg);·exact⟨Nat.le_of_ble_eq_true rfl,rfl,rfl⟩)|((with_reducible first|refine Tr.ck ?_ ?_|apply Tr.xSome|apply Tr.xCells);·first|rfl|omega|(simp only[gnd] at hb;omega))|((with_reducible refine Tr.same ?_ ?_);·first|exact sameV_sl _ _ _|exact sameV_ptr _|exact sameV_int _ _|exact sameV_bool _|exact sameV_str _)|((with_reducible apply Tr.xCellsB);·exact⟨Nat.le_of_ble_eq_true rfl,rfl⟩)|((with_reducible apply Tr.asBytes);·exact bytesN1_byteCells _)|(refine Tr.some fun _=>?_;exact⟨rfl,rfl⟩)|fail)
      simp only [List.set_cons_zero, List.set_cons_succ]
      have j := J bx _ (df_e _)
      simp only [outL, slV] at j
      refine Tr.xRun (j) ?_; rintro _ h rfl
      rfl
    | false =>
    refine Tr.condF rfl ?_
    cases hq8 : (q == 8) with
    | true =>
      refine Tr.condT rfl ?_
      refine Tr.nw fun b2 h => ?_
      refine tr_asSl 0 rfl 1 0 rfl (by omega) ?_
      simp only [List.set_cons_zero]
      (repeat' first|(with_reducible first|refine Ga ?_|refine Gn fun b h=>?_|apply Tr.andG|apply Tr.orG|refine Tr.xFits ?_|rintro px rfl|refine fun(h:H)=>?_|intro hb)|((with_reducible first|apply Gb|apply Gc|apply Gd|apply Ge|apply Gf|apply Gg|apply Gh|apply Gi);·first|rfl|assumption)|((with_reducible first|apply Gj|apply Gk|apply Gl|apply Gm);·first|assumption|rfl)|((with_reducible apply Tr.xV);·exact⟨Nat.le_of_ble_eq_true rfl,rfl,rfl⟩)|((with_reducible apply Tr.xAgg);·exact⟨Nat.le_of_ble_eq_true rfl,rfl⟩)|((with_reducible apply Tr.xPAgg);·exact⟨Nat.le_of_ble_eq_true rfl,rfl,rfl⟩)|((with_reducible first|refine Tr.ck ?_ ?_|apply Tr.xSome|apply Tr.xCells);·first|rfl|omega|(simp only[gnd] at hb;omega))|((with_reducible refine Tr.same ?_ ?_);·first|exact sameV_sl _ _ _|exact sameV_ptr _|exact sameV_int _ _|exact sameV_bool _|exact sameV_str _)|((with_reducible apply Tr.xCellsB);·exact⟨Nat.le_of_ble_eq_true rfl,rfl⟩)|((with_reducible apply Tr.asBytes);·exact bytesN1_byteCells _)|(refine Tr.some fun _=>?_;exact⟨rfl,rfl⟩)|fail)
      refine Tr.xApd ?_ (fun a1 c1 h => ?_)
      · exact ⟨by simp, by rw [List.all_map]; exact List.all_eq_true.2 fun _ _ => rfl, by simp only [most]; omega⟩
      (try simp only[nrm,nrmL,aSome_some,Nat.reduceAdd,Nat.reduceMul,Int.reduceToNat])
      (repeat' first|(with_reducible first|refine Ga ?_|refine Gn fun b h=>?_|apply Tr.andG|apply Tr.orG|refine Tr.xFits ?_|rintro px rfl|refine fun(h:H)=>?_|intro hb)|((with_reducible first|apply Gb|apply Gc|apply Gd|apply Ge|apply Gf|apply Gg|apply Gh|apply Gi);·first|rfl|assumption)|((with_reducible first|apply Gj|apply Gk|apply Gl|apply Gm);·first|assumption|rfl)|((with_reducible apply Tr.xV);·exact⟨Nat.le_of_ble_eq_true rfl,rfl,rfl⟩)|((with_reducible apply Tr.xAgg);·exact⟨Nat.le_of_ble_eq_true rfl,rfl⟩)|((with_reducible apply Tr.xPAgg);·exact⟨Nat.le_of_ble_eq_true rfl,rfl,rfl⟩)|((with_reducible first|refine Tr.ck ?_ ?_|apply Tr.xSome|apply Tr.xCells);·first|rfl|omega|(simp only[gnd] at hb;omega))|((with_reducible refine Tr.same ?_ ?_);·first|exact sameV_sl _ _ _|exact sameV_ptr _|exact sameV_int _ _|exact sameV_bool _|exact sameV_str _)|((with_reducible apply Tr.xCellsB);·exact⟨Nat.le_of_ble_eq_true rfl,rfl⟩)|((with_reducible apply Tr.asBytes);·exact bytesN1_byteCells _)|(refine Tr.some fun _=>?_;exact⟨rfl,rfl⟩)|fail)
      refine Tr.xApd ?_ (fun a2 c2 h => ?_)
      · exact ⟨by first | rfl | simp, by first | rfl | simp, by simp only [most]; omega⟩
      (try simp only[nrm,nrmL,aSome_some,Nat.reduceAdd,Nat.reduceMul,Int.reduceToNat])
      (repeat' first|(with_reducible first|refine Ga ?_|refine Gn fun b h=>?_|apply Tr.andG|apply Tr.orG|refine Tr.xFits ?_|rintro px rfl|refine fun(h:H)=>?_|intro hb)|((with_reducible first|apply Gb|apply Gc|apply Gd|apply Ge|apply Gf|apply Gg|apply Gh|apply Gi);·first|rfl|assumption)|((with_reducible first|apply Gj|apply Gk|apply Gl|apply Gm);·first|assumption|rfl)|((with_reducible apply Tr.xV);·exact⟨Nat.le_of_ble_eq_true rfl,rfl,rfl⟩)|((with_reducible apply Tr.xAgg);·exact⟨Nat.le_of_ble_eq_true rfl,rfl⟩)|((with_reducible apply Tr.xPAgg);·exact⟨Nat.le_of_ble_eq_true rfl,rfl,rfl⟩)|((with_reducible first|refine Tr.ck ?_ ?_|apply Tr.xSome|apply Tr.xCells);·first|rfl|omega|(simp only[gnd] at hb;omega))|((with_reducible refine Tr.same ?_ ?_);·first|exact sameV_sl _ _ _|exact sameV_ptr _|exact sameV_int _ _|exact sameV_bool _|exact sameV_str _)|((with_reducible apply Tr.xCellsB);·exact⟨Nat.le_of_ble_eq_true rfl,rfl⟩)|((with_reducible apply Tr.asBytes);·exact bytesN1_byteCells _)|(refine Tr.some fun _=>?_;exact⟨rfl,rfl⟩)|fail)
      simp only [List.set_cons_zero, List.set_cons_succ]
      have j := J bx _ (df_w _ a2 (lw.length + 1) c2 (by simp))
      simp only [outL, slV] at j
      refine Tr.xRun (j) ?_; rintro _ h rfl
      rfl
    | false =>
    refine Tr.condF rfl ?_
    cases hq9 : (q == 9) with
    | true =>
      refine Tr.condT rfl ?_
      (repeat' first|(with_reducible first|refine Ga ?_|refine Gn fun b h=>?_|apply Tr.andG|apply Tr.orG|refine Tr.xFits ?_|rintro px rfl|refine fun(h:H)=>?_|intro hb)|((with_reducible first|apply Gb|apply Gc|apply Gd|apply Ge|apply Gf|apply Gg|apply Gh|apply Gi);·first|rfl|assumption)|((with_reducible first|apply Gj|apply Gk|apply Gl|apply Gm);·first|assumption|rfl)|((with_reducible apply Tr.xV);·exact⟨Nat.le_of_ble_eq_true rfl,rfl,rfl⟩)|((with_reducible apply Tr.xAgg);·exact⟨Nat.le_of_ble_eq_true rfl,rfl⟩)|((with_reducible apply Tr.xPAgg);·exact⟨Nat.le_of_ble_eq_true rfl,rfl,rfl⟩)|((with_reducible first|refine Tr.ck ?_ ?_|apply Tr.xSome|apply Tr.xCells);·first|rfl|omega|(simp only[gnd] at hb;omega))|((with_reducible refine Tr.same ?_ ?_);·first|exact sameV_sl _ _ _|exact sameV_ptr _|exact sameV_int _ _|exact sameV_bool _|exact sameV_str _)|((with_reducible apply Tr.xCellsB);·exact⟨Nat.le_of_ble_eq_true rfl,rfl⟩)|((with_reducible apply Tr.asBytes);·exact bytesN1_byteCells _)|(refine Tr.some fun _=>?_;exact⟨rfl,rfl⟩)|fail)
      simp only [List.set_cons_zero, List.set_cons_succ]
      have j := J bx _ (df_back _)
      simp only [outL, slV] at j
      refine Tr.xRun (j) ?_; rintro _ h rfl
      rfl
    | false =>
    refine Tr.condF rfl ?_
    cases hq10 : (q == 10) with
    | true =>
      refine Tr.condT rfl ?_
      refine Tr.nw fun b2 h => ?_
      refine tr_asSl 0 rfl 1 0 rfl (by omega) ?_
      simp only [List.set_cons_zero]
      (repeat' first|(with_reducible first|refine Ga ?_|refine Gn fun b h=>?_|apply Tr.andG|apply Tr.orG|refine Tr.xFits ?_|rintro px rfl|refine fun(h:H)=>?_|intro hb)|((with_reducible first|apply Gb|apply Gc|apply Gd|apply Ge|apply Gf|apply Gg|apply Gh|apply Gi);·first|rfl|assumption)|((with_reducible first|apply Gj|apply Gk|apply Gl|apply Gm);·first|assumption|rfl)|((with_reducible apply Tr.xV);·exact⟨Nat.le_of_ble_eq_true rfl,rfl,rfl⟩)|((with_reducible apply Tr.xAgg);·exact⟨Nat.le_of_ble_eq_true rfl,rfl⟩)|((with_reducible apply Tr.xPAgg);·exact⟨Nat.le_of_ble_eq_true rfl,rfl,rfl⟩)|((with_reducible first|refine Tr.ck ?_ ?_|apply Tr.xSome|apply Tr.xCells);·first|rfl|omega|(simp only[gnd] at hb;omega))|((with_reducible refine Tr.same ?_ ?_);·first|exact sameV_sl _ _ _|exact sameV_ptr _|exact sameV_int _ _|exact sameV_bool _|exact sameV_str _)|((with_reducible apply Tr.xCellsB);·exact⟨Nat.le_of_ble_eq_true rfl,rfl⟩)|((with_reducible apply Tr.asBytes);·exact bytesN1_byteCells _)|(refine Tr.some fun _=>?_;exact⟨rfl,rfl⟩)|fail)
      refine Tr.xApd ?_ (fun a1 c1 h => ?_)
      · exact ⟨by simp, by rw [List.all_map]; exact List.all_eq_true.2 fun _ _ => rfl, by simp only [most]; omega⟩
      (try simp only[nrm,nrmL,aSome_some,Nat.reduceAdd,Nat.reduceMul,Int.reduceToNat])
      (repeat' first|(with_reducible first|refine Ga ?_|refine Gn fun b h=>?_|apply Tr.andG|apply Tr.orG|refine Tr.xFits ?_|rintro px rfl|refine fun(h:H)=>?_|intro hb)|((with_reducible first|apply Gb|apply Gc|apply Gd|apply Ge|apply Gf|apply Gg|apply Gh|apply Gi);·first|rfl|assumption)|((with_reducible first|apply Gj|apply Gk|apply Gl|apply Gm);·first|assumption|rfl)|((with_reducible apply Tr.xV);·exact⟨Nat.le_of_ble_eq_true rfl,rfl,rfl⟩)|((with_reducible apply Tr.xAgg);·exact⟨Nat.le_of_ble_eq_true rfl,rfl⟩)|((with_reducible apply Tr.xPAgg);·exact⟨Nat.le_of_ble_eq_true rfl,rfl,rfl⟩)|((with_reducible first|refine Tr.ck ?_ ?_|apply Tr.xSome|apply Tr.xCells);·first|rfl|omega|(simp only[gnd] at hb;omega))|((with_reducible refine Tr.same ?_ ?_);·first|exact sameV_sl _ _ _|exact sameV_ptr _|exact sameV_int _ _|exact sameV_bool _|exact sameV_str _)|((with_reducible apply Tr.xCellsB);·exact⟨Nat.le_of_ble_eq_true rfl,rfl⟩)|((with_reducible apply Tr.asBytes);·exact bytesN1_byteCells _)|(refine Tr.some fun _=>?_;exact⟨rfl,rfl⟩)|fail)
      refine Tr.xApd ?_ (fun a2 c2 h => ?_)
      · exact ⟨by first | rfl | simp, by first | rfl | simp, by simp only [most]; omega⟩
      (try simp only[nrm,nrmL,aSome_some,Nat.reduceAdd,Nat.reduceMul,Int.reduceToNat])
      (repeat' first|(with_reducible first|refine Ga ?_|refine Gn fun b h=>?_|apply Tr.andG|apply Tr.orG|refine Tr.xFits ?_|rintro px rfl|refine fun(h:H)=>?_|intro hb)|((with_reducible first|apply Gb|apply Gc|apply Gd|apply Ge|apply Gf|apply Gg|apply Gh|apply Gi);·first|rfl|assumption)|((with_reducible first|apply Gj|apply Gk|apply Gl|apply Gm);·first|assumption|rfl)|((with_reducible apply Tr.xV);·exact⟨Nat.le_of_ble_eq_true rfl,rfl,rfl⟩)|((with_reducible apply Tr.xAgg);·exact⟨Nat.le_of_ble_eq_true rfl,rfl⟩)|((with_reducible apply Tr.xPAgg);·exact⟨Nat.le_of_ble_eq_true rfl,rfl,rfl⟩)|((with_reducible first|refine Tr.ck ?_ ?_|apply Tr.xSome|apply Tr.xCells);·first|rfl|omega|(simp only[gnd] at hb;omega))|((with_reducible refine Tr.same ?_ ?_);·first|exact sameV_sl _ _ _|exact sameV_ptr _|exact sameV_int _ _|exact sameV_bool _|exact sameV_str _)|((with_reducible apply Tr.xCellsB);·exact⟨Nat.le_of_ble_eq_true rfl,rfl⟩)|((with_reducible apply Tr.asBytes);·exact bytesN1_byteCells _)|(refine Tr.some fun _=>?_;exact⟨rfl,rfl⟩)|fail)
      simp only [List.set_cons_zero, List.set_cons_succ]
      have j := J bx _ (df_g _ a2 (lg.length + 1) c2 (by simp))
      simp only [outL, slV] at j
      refine Tr.xRun (j) ?_; rintro _ h rfl
      rfl
    | false =>
    refine Tr.condF rfl ?_
    (repeat' first|(with_reducible first|refine Ga ?_|refine Gn fun b h=>?_|apply Tr.andG|apply Tr.orG|refine Tr.xFits ?_|rintro px rfl|refine fun(h:H)=>?_|intro hb)|((with_reducible first|apply Gb|apply Gc|apply Gd|apply Ge|apply Gf|apply Gg|apply Gh|apply Gi);·first|rfl|assumption)|((with_reducible first|apply Gj|apply Gk|apply Gl|apply Gm);·first|assumption|rfl)|((with_reducible apply Tr.xV);·exact⟨Nat.le_of_ble_eq_true rfl,rfl,rfl⟩)|((with_reducible apply Tr.xAgg);·exact⟨Nat.le_of_ble_eq_true rfl,rfl⟩)|((with_reducible apply Tr.xPAgg);·exact⟨Nat.le_of_ble_eq_true rfl,rfl,rfl⟩)|((with_reducible first|refine Tr.ck ?_ ?_|apply Tr.xSome|apply Tr.xCells);·first|rfl|omega|(simp only[gnd] at hb;omega))|((with_reducible refine Tr.same ?_ ?_);·first|exact sameV_sl _ _ _|exact sameV_ptr _|exact sameV_int _ _|exact sameV_bool _|exact sameV_str _)|((with_reducible apply Tr.xCellsB);·exact⟨Nat.le_of_ble_eq_true rfl,rfl⟩)|((with_reducible apply Tr.asBytes);·exact bytesN1_byteCells _)|(refine Tr.some fun _=>?_;exact⟨rfl,rfl⟩)|fail)
    simp only [List.set_cons_zero, List.set_cons_succ]
    have j := J bx _ (df_dies _)
    simp only [outL, slV] at j
    refine Tr.xRun (j) ?_; rintro _ h rfl
    rfl
end Go.EQ
