/- For every list of numbers the law KernClock of layer 8 returns true and leaves its argument as it was. No condition. -/
import Derived.Test.YtkoigngajoefkaaMf
import Derived.KernelRfl
import Derived.Test.YtkoigngajoefkaaRows
set_option linter.unusedSimpArgs false
set_option linter.unusedVariables false
set_option maxRecDepth 100000
namespace Go.EQ
open Go Go.NN
/-! ## The law's 'awake' -/
def bootA : BootS := ⟨[2, 2], [0, 1], [[0]], 5, [⟨0, 0, 0, 10, [0]⟩]⟩
abbrev callA1 : CallS := ⟨2, 256, 0, 0, 0, 0, [7]⟩
abbrev callA2 : CallS := ⟨1, 256, 0, 1, 0, 0, []⟩
abbrev callA3 : CallS := ⟨8, 0, 0, 0, 0, 0, []⟩
theorem bootA_ok : bootOk bootA = true := by kernel_rfl
theorem bootA_small : Small bootA := ⟨by simp [bootA, most], by simp [bootA, most], by simp [bootA, most]⟩
def SA0 : KS := kNew bootA
abbrev SA1 : KS := (kAns SA0 0 callA1).2
abbrev SA2 : KS := (kAns SA1 0 callA2).2
abbrev SA3 : KS := (kAns SA2 1 callA2).2
abbrev SA4 : KS := (kAns SA3 1 callA3).2
theorem a1 : (kAns SA0 0 callA1).1.1 = 0 := by kernel_rfl
theorem a2 : (kAns SA1 0 callA2).1.2.2 = [7] := by kernel_rfl
theorem a3 : (kAns SA2 1 callA2).1.1 = 2 := by kernel_rfl
theorem a4 : (kAns SA3 1 callA3).1.1 = 8 := by kernel_rfl
theorem a5 : SA4.now = 0 := by kernel_rfl
theorem ct_awake8 : Ct CALL F_law8_awake [] [] fun v own => v = .bool true ∧ own [] := by
  refine Ct.of k_law8_awake rfl fun h r => Tr.eq (e_law8_awake ..) ?_; (try simp only[nrm,nrmL,aSome_some,Nat.reduceAdd,Nat.reduceMul,Int.reduceToNat])
  refine Tr.nw fun b1 h1 => ?_
  refine Tr.nw fun b2 h2 => ?_
  refine Tr.nw fun b3 h3 => ?_
  refine Tr.nw fun b4 h4 => ?_
  refine Tr.nw fun b5 h5 => ?_
  refine Tr.nw fun b6 h6 => ?_
  refine tr_asSl 0 rfl 5 1 rfl (by omega) ?_; (try simp only[nrm,nrmL,aSome_some,Nat.reduceAdd,Nat.reduceMul,Int.reduceToNat])
  refine tr_asSl 1 rfl 1 1 rfl (by omega) ?_; (try simp only[nrm,nrmL,aSome_some,Nat.reduceAdd,Nat.reduceMul,Int.reduceToNat])
  refine tr_asSl 2 rfl 1 1 rfl (by omega) ?_; (try simp only[nrm,nrmL,aSome_some,Nat.reduceAdd,Nat.reduceMul,Int.reduceToNat])
  refine tr_asSl 3 rfl 1 1 rfl (by omega) ?_; (try simp only[nrm,nrmL,aSome_some,Nat.reduceAdd,Nat.reduceMul,Int.reduceToNat])
  refine tr_asSl 4 rfl 1 2 rfl (by omega) ?_; (try simp only[nrm,nrmL,aSome_some,Nat.reduceAdd,Nat.reduceMul,Int.reduceToNat])
  refine tr_asSl 5 rfl 1 2 rfl (by omega) ?_; (try simp only[nrm,nrmL,aSome_some,Nat.reduceAdd,Nat.reduceMul,Int.reduceToNat])
  refine tr_one2 (toC false) (some ⟨b5, 0, none⟩, 1) (⟨0, 0, 0, 10, [0]⟩ : ShareS) (r := []) 1 rfl ?_; (try simp only[nrm,nrmL,aSome_some,Nat.reduceAdd,Nat.reduceMul,Int.reduceToNat])
  refine tr_one2 (rsC false) (some ⟨b3, 0, none⟩, 1) ([0] : List Int) (r := []) 3 rfl ?_; (try simp only[nrm,nrmL,aSome_some,Nat.reduceAdd,Nat.reduceMul,Int.reduceToNat])
  refine tr_callI (ct_New false bootA ⟨some ⟨b1, 0, none⟩, 2, some ⟨b2, 0, none⟩, 2, some ⟨b4, 0, none⟩, 1, [(some ⟨b3, 0, none⟩, 1)], some ⟨b6, 0, none⟩, 1, [(some ⟨b5, 0, none⟩, 1)]⟩ ⟨rfl, rfl⟩ bootA_small) [5, 4, 3, 0, 1, 0] rfl ?_
  intro v h hv
  rw [if_pos bootA_ok] at hv
  obtain ⟨k, rfl, o⟩ := hv
  refine (?_ : Tr _ _ _ _) o
  (try simp only[nrm,nrmL,aSome_some,Nat.reduceAdd,Nat.reduceMul,Int.reduceToNat])
  (repeat' first|(with_reducible first|refine Ga ?_|refine Gn fun b h=>?_|apply Tr.andG|apply Tr.orG|refine Tr.xFits ?_|rintro px rfl|refine fun(h:H)=>?_|intro hb)|((with_reducible first|apply Gb|apply Gc|apply Gd|apply Ge|apply Gf|apply Gg|apply Gh|apply Gi);·rfl)|((with_reducible first|apply Gj|apply Gk|apply Gl|apply Gm);·first|assumption|rfl)|((with_reducible apply Tr.xV);·exact⟨Nat.le_of_ble_eq_true rfl,rfl,rfl⟩)|((with_reducible apply Tr.xAgg);·exact⟨Nat.le_of_ble_eq_true rfl,rfl⟩)|((with_reducible apply Tr.xPAgg);·exact⟨Nat.le_of_ble_eq_true rfl,rfl,rfl⟩)|((with_reducible first|refine Tr.ck ?_ ?_|apply Tr.xSome|apply Tr.xCells);·first|rfl|omega|(simp only[gnd] at hb;omega))|((with_reducible refine Tr.same ?_ ?_);·first|exact sameV_sl _ _ _|exact sameV_ptr _|exact sameV_int _ _|exact sameV_bool _|exact sameV_str _)|((with_reducible apply Tr.xCellsB);·exact⟨Nat.le_of_ble_eq_true rfl,rfl⟩)|((with_reducible apply Tr.asBytes);·exact bytesN1_byteCells _)|(refine Tr.some fun _=>?_;exact⟨rfl,rfl⟩)|fail)
  refine Tr.condF rfl ?_
  refine Tr.nw fun c1 g1 => ?_
  refine tr_view 0 rfl [] (byteCells [7]) [] rfl 1 0 1 1 (by simp [byteCells]) ?_; (try simp only[nrm,nrmL,aSome_some,Nat.reduceAdd,Nat.reduceMul,Int.reduceToNat])
  refine tr_callI (ct_kDo k SA0 0 (kNew_ok bootA_ok bootA_small) (by omega) 0 callA1 (some ⟨c1, 0, none⟩) 1 false ([], []) (by decide)) [1, 0] rfl ?_
  rintro _ h ⟨x1, d1, rfl, o⟩
  refine (?_ : Tr _ _ _ _) o
  (try simp only[nrm,nrmL,aSome_some,Nat.reduceAdd,Nat.reduceMul,Int.reduceToNat])
  have k1 : KOk 2 SA1 := kAns_ok (kNew_ok bootA_ok bootA_small) (by omega) 0 callA1
  have k2 : KOk 4 SA2 := kAns_ok k1 (by omega) 0 callA2
  have k3 : KOk 6 SA3 := kAns_ok k2 (by omega) 1 callA2
  refine Tr.dx ?_
  refine Tr.nw fun c2 g2 => ?_
  (repeat' first|(with_reducible first|refine Ga ?_|refine Gn fun b h=>?_|apply Tr.andG|apply Tr.orG|refine Tr.xFits ?_|rintro px rfl|refine fun(h:H)=>?_|intro hb)|((with_reducible first|apply Gb|apply Gc|apply Gd|apply Ge|apply Gf|apply Gg|apply Gh|apply Gi);·rfl)|((with_reducible first|apply Gj|apply Gk|apply Gl|apply Gm);·first|assumption|rfl)|((with_reducible apply Tr.xV);·exact⟨Nat.le_of_ble_eq_true rfl,rfl,rfl⟩)|((with_reducible apply Tr.xAgg);·exact⟨Nat.le_of_ble_eq_true rfl,rfl⟩)|((with_reducible apply Tr.xPAgg);·exact⟨Nat.le_of_ble_eq_true rfl,rfl,rfl⟩)|((with_reducible first|refine Tr.ck ?_ ?_|apply Tr.xSome|apply Tr.xCells);·first|rfl|omega|(simp only[gnd] at hb;omega))|((with_reducible refine Tr.same ?_ ?_);·first|exact sameV_sl _ _ _|exact sameV_ptr _|exact sameV_int _ _|exact sameV_bool _|exact sameV_str _)|((with_reducible apply Tr.xCellsB);·exact⟨Nat.le_of_ble_eq_true rfl,rfl⟩)|((with_reducible apply Tr.asBytes);·exact bytesN1_byteCells _)|(refine Tr.some fun _=>?_;exact⟨rfl,rfl⟩)|fail)
  refine Tr.xCall (ct_kDo0 k SA1 2 k1 (by omega) 0 1 256 0 1 0 0 (by decide)) ?_; rintro _ h ⟨x2, d2, rfl, o⟩ <;> (refine (?_ : Tr _ _ _ _) o; (try simp only[nrm,nrmL,aSome_some,Nat.reduceAdd,Nat.reduceMul,Int.reduceToNat]); (repeat' first|(with_reducible first|refine Ga ?_|refine Gn fun b h=>?_|apply Tr.andG|apply Tr.orG|refine Tr.xFits ?_|rintro px rfl|refine fun(h:H)=>?_|intro hb)|((with_reducible first|apply Gb|apply Gc|apply Gd|apply Ge|apply Gf|apply Gg|apply Gh|apply Gi);·rfl)|((with_reducible first|apply Gj|apply Gk|apply Gl|apply Gm);·first|assumption|rfl)|((with_reducible apply Tr.xV);·exact⟨Nat.le_of_ble_eq_true rfl,rfl,rfl⟩)|((with_reducible apply Tr.xAgg);·exact⟨Nat.le_of_ble_eq_true rfl,rfl⟩)|((with_reducible apply Tr.xPAgg);·exact⟨Nat.le_of_ble_eq_true rfl,rfl,rfl⟩)|((with_reducible first|refine Tr.ck ?_ ?_|apply Tr.xSome|apply Tr.xCells);·first|rfl|omega|(simp only[gnd] at hb;omega))|((with_reducible refine Tr.same ?_ ?_);·first|exact sameV_sl _ _ _|exact sameV_ptr _|exact sameV_int _ _|exact sameV_bool _|exact sameV_str _)|((with_reducible apply Tr.xCellsB);·exact⟨Nat.le_of_ble_eq_true rfl,rfl⟩)|((with_reducible apply Tr.asBytes);·exact bytesN1_byteCells _)|(refine Tr.some fun _=>?_;exact⟨rfl,rfl⟩)|fail))
  refine Tr.xCall (ct_kDo0 k SA2 4 k2 (by omega) 1 1 256 0 1 0 0 (by decide)) ?_; rintro _ h ⟨x3, d3, rfl, o⟩ <;> (refine (?_ : Tr _ _ _ _) o; (try simp only[nrm,nrmL,aSome_some,Nat.reduceAdd,Nat.reduceMul,Int.reduceToNat]); (repeat' first|(with_reducible first|refine Ga ?_|refine Gn fun b h=>?_|apply Tr.andG|apply Tr.orG|refine Tr.xFits ?_|rintro px rfl|refine fun(h:H)=>?_|intro hb)|((with_reducible first|apply Gb|apply Gc|apply Gd|apply Ge|apply Gf|apply Gg|apply Gh|apply Gi);·rfl)|((with_reducible first|apply Gj|apply Gk|apply Gl|apply Gm);·first|assumption|rfl)|((with_reducible apply Tr.xV);·exact⟨Nat.le_of_ble_eq_true rfl,rfl,rfl⟩)|((with_reducible apply Tr.xAgg);·exact⟨Nat.le_of_ble_eq_true rfl,rfl⟩)|((with_reducible apply Tr.xPAgg);·exact⟨Nat.le_of_ble_eq_true rfl,rfl,rfl⟩)|((with_reducible first|refine Tr.ck ?_ ?_|apply Tr.xSome|apply Tr.xCells);·first|rfl|omega|(simp only[gnd] at hb;omega))|((with_reducible refine Tr.same ?_ ?_);·first|exact sameV_sl _ _ _|exact sameV_ptr _|exact sameV_int _ _|exact sameV_bool _|exact sameV_str _)|((with_reducible apply Tr.xCellsB);·exact⟨Nat.le_of_ble_eq_true rfl,rfl⟩)|((with_reducible apply Tr.asBytes);·exact bytesN1_byteCells _)|(refine Tr.some fun _=>?_;exact⟨rfl,rfl⟩)|fail))
  refine Tr.xCall (ct_kDo0 k SA3 6 k3 (by omega) 1 8 0 0 0 0 0 (by decide)) ?_; rintro _ h ⟨x4, d4, rfl, o⟩ <;> (refine (?_ : Tr _ _ _ _) o; (try simp only[nrm,nrmL,aSome_some,Nat.reduceAdd,Nat.reduceMul,Int.reduceToNat]); (repeat' first|(with_reducible first|refine Ga ?_|refine Gn fun b h=>?_|apply Tr.andG|apply Tr.orG|refine Tr.xFits ?_|rintro px rfl|refine fun(h:H)=>?_|intro hb)|((with_reducible first|apply Gb|apply Gc|apply Gd|apply Ge|apply Gf|apply Gg|apply Gh|apply Gi);·rfl)|((with_reducible first|apply Gj|apply Gk|apply Gl|apply Gm);·first|assumption|rfl)|((with_reducible apply Tr.xV);·exact⟨Nat.le_of_ble_eq_true rfl,rfl,rfl⟩)|((with_reducible apply Tr.xAgg);·exact⟨Nat.le_of_ble_eq_true rfl,rfl⟩)|((with_reducible apply Tr.xPAgg);·exact⟨Nat.le_of_ble_eq_true rfl,rfl,rfl⟩)|((with_reducible first|refine Tr.ck ?_ ?_|apply Tr.xSome|apply Tr.xCells);·first|rfl|omega|(simp only[gnd] at hb;omega))|((with_reducible refine Tr.same ?_ ?_);·first|exact sameV_sl _ _ _|exact sameV_ptr _|exact sameV_int _ _|exact sameV_bool _|exact sameV_str _)|((with_reducible apply Tr.xCellsB);·exact⟨Nat.le_of_ble_eq_true rfl,rfl⟩)|((with_reducible apply Tr.asBytes);·exact bytesN1_byteCells _)|(refine Tr.some fun _=>?_;exact⟨rfl,rfl⟩)|fail))
  · refine Tr.pcall (ct_kNow k SA4) ?_; (try simp only[nrm,nrmL,aSome_some,Nat.reduceAdd,Nat.reduceMul,Int.reduceToNat]); (repeat' first|(with_reducible first|refine Ga ?_|refine Gn fun b h=>?_|apply Tr.andG|apply Tr.orG|refine Tr.xFits ?_|rintro px rfl|refine fun(h:H)=>?_|intro hb)|((with_reducible first|apply Gb|apply Gc|apply Gd|apply Ge|apply Gf|apply Gg|apply Gh|apply Gi);·rfl)|((with_reducible first|apply Gj|apply Gk|apply Gl|apply Gm);·first|assumption|rfl)|((with_reducible apply Tr.xV);·exact⟨Nat.le_of_ble_eq_true rfl,rfl,rfl⟩)|((with_reducible apply Tr.xAgg);·exact⟨Nat.le_of_ble_eq_true rfl,rfl⟩)|((with_reducible apply Tr.xPAgg);·exact⟨Nat.le_of_ble_eq_true rfl,rfl,rfl⟩)|((with_reducible first|refine Tr.ck ?_ ?_|apply Tr.xSome|apply Tr.xCells);·first|rfl|omega|(simp only[gnd] at hb;omega))|((with_reducible refine Tr.same ?_ ?_);·first|exact sameV_sl _ _ _|exact sameV_ptr _|exact sameV_int _ _|exact sameV_bool _|exact sameV_str _)|((with_reducible apply Tr.xCellsB);·exact⟨Nat.le_of_ble_eq_true rfl,rfl⟩)|((with_reducible apply Tr.asBytes);·exact bytesN1_byteCells _)|(refine Tr.some fun _=>?_;exact⟨rfl,rfl⟩)|fail)
  refine Tr.some fun o => ?_
  exact ⟨congrArg Value.bool (by kernel_rfl), o.sub⟩
end Go.EQ

set_option linter.unusedSimpArgs false
set_option linter.unusedVariables false
set_option maxRecDepth 100000
namespace Go.EQ
open Go Go.NN
def bootC1 : BootS := ⟨[1], [0, 0], [], 1, []⟩
theorem bootC1_ok : bootOk bootC1 = true := by kernel_rfl
theorem bootC1_small : Small bootC1 := ⟨by simp [bootC1, most], by simp [bootC1], by simp [bootC1]⟩
theorem kAns_now (S : KS) (env : Int) (h : 0 ≤ env ∧ env < S.envs.length) : kAns S env ⟨10, 0, 0, 0, 0, 0, []⟩ = ((0, S.now, []), S) := by
  unfold kAns; rw [if_neg (by omega)]; rfl
theorem kAns_arg (S : KS) (env : Int) (c : CallS) (h : ¬ (0 ≤ env ∧ env < S.envs.length)) : kAns S env c = ((1, 0, []), S) := by
  unfold kAns; rw [if_pos (by omega)]
theorem kAns_11 (S : KS) (env : Int) (h : 0 ≤ env ∧ env < S.envs.length) : kAns S env ⟨11, 0, 0, 0, 0, 0, []⟩ = ((7, 0, []), S) := by
  unfold kAns; rw [if_neg (by omega)]; rfl
theorem kAns_0 (S : KS) (env : Int) (h : 0 ≤ env ∧ env < S.envs.length) : kAns S env ⟨0, 0, 0, 0, 0, 0, []⟩ = ((7, 0, []), S) := by
  unfold kAns; rw [if_neg (by omega)]; rfl
theorem ct_Clock_L1 (p : HP) (ro : Bool) (a : Option Addr) (c : Nat) (l : List Int) [ks : IsSl p a ro Y_int 1 l.length c (l.map int)] (hl : l.length ≤ 9223372036854775807) (k : Nat) : ∀ (m i : Nat) (S : KS), 60 - i = m → i ≤ 60 → KOk 0 S → S.envs.length = 2 → S.now ≤ 1000 * i →
    CtJ JUMP F_law8_KernClock T_law8_KernClock_L1 [(0, .slice a l.length c), (3, P0 k), (5, int S.now), (6, int i)] [kernC k S, p] fun v own => v = .bool true ∧ own [p] := by
  intro m
  induction m using Nat.strongRecOn with
  | _ m ih =>
    intro i S hm hi ok he hnow
    have h0 := ok.now
    by_cases hlt2 : i < l.length ∧ i < 60
    · obtain ⟨hlt, h60⟩ := hlt2
      have hx : l[i]? = some l[i] := List.getElem?_eq_getElem hlt
      generalize l[i] = x at hx
      have hg : (l.map int)[i]? = some (.int .i64 x) := by simp [hx]
      have e1 : IntKind.wrap .i64 ((i : Int) + 1) = ((i + 1 : Nat) : Int) := by rw [wrap_eq]; omega
      have hW : IntKind.wrap .i64 (S.now + mm2 false (mm2 true x 0) 1000) = (kTick S x).now := by
        rw [mm2_max, mm2_min, wrap_eq]; simp only [kTick, tickV]; omega
      have ok2 := kTick_ok ok x
      have he2 : (kTick S x).envs.length = 2 := he
      have hn2 : (kTick S x).now ≤ 1000 * ((i + 1 : Nat) : Int) := by simp only [kTick, tickV]; omega
      have n0 := kAns_now (kTick S x) 0 (by omega)
      have n1 := kAns_now (kTick S x) 1 (by omega)
      refine CtJ.of k_law8_KernClock fun h r => Tr.eq (e_law8_KernClock_L1 ..) ?_; (try simp only[nrm,nrmL,aSome_some,Nat.reduceAdd,Nat.reduceMul,Int.reduceToNat])
      rw [Int.toNat_natCast]
      (repeat' first|(with_reducible first|refine Ga ?_|refine Gn fun b h=>?_|refine Tr.xFits ?_|rintro px rfl|refine fun(h:H)=>?_|intro hb)|((with_reducible first|apply Gb|apply Gc|apply Gd|apply Ge|apply Gf|apply Gg|apply Gh|apply Gi);·rfl)|((with_reducible first|apply Gj|apply Gk|apply Gl|apply Gm);·first|assumption|rfl)|((with_reducible apply Tr.xV);·exact⟨Nat.le_of_ble_eq_true rfl,rfl,rfl⟩)|((with_reducible apply Tr.xAgg);·exact⟨Nat.le_of_ble_eq_true rfl,rfl⟩)|((with_reducible apply Tr.xPAgg);·exact⟨Nat.le_of_ble_eq_true rfl,rfl,rfl⟩)|((with_reducible first|refine Tr.ck ?_ ?_|apply Tr.xSome|apply Tr.xCells);·first|rfl|omega|(simp only[gnd] at hb;omega))|((with_reducible refine Tr.same ?_ ?_);·first|exact sameV_sl _ _ _|exact sameV_ptr _|exact sameV_int _ _|exact sameV_bool _|exact sameV_str _)|((with_reducible apply Tr.xCellsB);·exact⟨Nat.le_of_ble_eq_true rfl,rfl⟩)|((with_reducible apply Tr.asBytes);·exact bytesN1_byteCells _)|(refine Tr.some fun _=>?_;exact⟨rfl,rfl⟩)|fail)
      refine Tr.andG (c := decide ((i : Int) < 60)) (fun hb => ?_) ?_
      · (repeat' first|(with_reducible first|refine Ga ?_|refine Gn fun b h=>?_|apply Tr.andG|apply Tr.orG|refine Tr.xFits ?_|rintro px rfl|refine fun(h:H)=>?_|intro hb)|((with_reducible first|apply Gb|apply Gc|apply Gd|apply Ge|apply Gf|apply Gg|apply Gh|apply Gi);·rfl)|((with_reducible first|apply Gj|apply Gk|apply Gl|apply Gm);·first|assumption|rfl)|((with_reducible apply Tr.xV);·exact⟨Nat.le_of_ble_eq_true rfl,rfl,rfl⟩)|((with_reducible apply Tr.xAgg);·exact⟨Nat.le_of_ble_eq_true rfl,rfl⟩)|((with_reducible apply Tr.xPAgg);·exact⟨Nat.le_of_ble_eq_true rfl,rfl,rfl⟩)|((with_reducible first|refine Tr.ck ?_ ?_|apply Tr.xSome|apply Tr.xCells);·first|rfl|omega|(simp only[gnd] at hb;omega))|((with_reducible refine Tr.same ?_ ?_);·first|exact sameV_sl _ _ _|exact sameV_ptr _|exact sameV_int _ _|exact sameV_bool _|exact sameV_str _)|((with_reducible apply Tr.xCellsB);·exact⟨Nat.le_of_ble_eq_true rfl,rfl⟩)|((with_reducible apply Tr.asBytes);·exact bytesN1_byteCells _)|(refine Tr.some fun _=>?_;exact⟨rfl,rfl⟩)|fail)
      refine Tr.condT (by simp; omega) ?_
      (repeat' first|(with_reducible first|refine Ga ?_|refine Gn fun b h=>?_|refine Tr.xFits ?_|rintro px rfl|refine fun(h:H)=>?_|intro hb)|((with_reducible first|apply Gb|apply Gc|apply Gd|apply Ge|apply Gf|apply Gg|apply Gh|apply Gi);·rfl)|((with_reducible first|apply Gj|apply Gk|apply Gl|apply Gm);·first|assumption|rfl)|((with_reducible apply Tr.xV);·exact⟨Nat.le_of_ble_eq_true rfl,rfl,rfl⟩)|((with_reducible apply Tr.xAgg);·exact⟨Nat.le_of_ble_eq_true rfl,rfl⟩)|((with_reducible apply Tr.xPAgg);·exact⟨Nat.le_of_ble_eq_true rfl,rfl,rfl⟩)|((with_reducible first|refine Tr.ck ?_ ?_|apply Tr.xSome|apply Tr.xCells);·first|rfl|omega|(simp only[gnd] at hb;omega))|((with_reducible refine Tr.same ?_ ?_);·first|exact sameV_sl _ _ _|exact sameV_ptr _|exact sameV_int _ _|exact sameV_bool _|exact sameV_str _)|((with_reducible apply Tr.xCellsB);·exact⟨Nat.le_of_ble_eq_true rfl,rfl⟩)|((with_reducible apply Tr.asBytes);·exact bytesN1_byteCells _)|(refine Tr.some fun _=>?_;exact⟨rfl,rfl⟩)|fail)
      refine Tr.xCall (ct_kTick k S 0 ok x) ?_; rintro _ h ⟨rfl, o⟩ <;> (refine (?_ : Tr _ _ _ _) o; (try simp only[nrm,nrmL,aSome_some,Nat.reduceAdd,Nat.reduceMul,Int.reduceToNat]); (repeat' first|(with_reducible first|refine Ga ?_|refine Gn fun b h=>?_|refine Tr.xFits ?_|rintro px rfl|refine fun(h:H)=>?_|intro hb)|((with_reducible first|apply Gb|apply Gc|apply Gd|apply Ge|apply Gf|apply Gg|apply Gh|apply Gi);·rfl)|((with_reducible first|apply Gj|apply Gk|apply Gl|apply Gm);·first|assumption|rfl)|((with_reducible apply Tr.xV);·exact⟨Nat.le_of_ble_eq_true rfl,rfl,rfl⟩)|((with_reducible apply Tr.xAgg);·exact⟨Nat.le_of_ble_eq_true rfl,rfl⟩)|((with_reducible apply Tr.xPAgg);·exact⟨Nat.le_of_ble_eq_true rfl,rfl,rfl⟩)|((with_reducible first|refine Tr.ck ?_ ?_|apply Tr.xSome|apply Tr.xCells);·first|rfl|omega|(simp only[gnd] at hb;omega))|((with_reducible refine Tr.same ?_ ?_);·first|exact sameV_sl _ _ _|exact sameV_ptr _|exact sameV_int _ _|exact sameV_bool _|exact sameV_str _)|((with_reducible apply Tr.xCellsB);·exact⟨Nat.le_of_ble_eq_true rfl,rfl⟩)|((with_reducible apply Tr.asBytes);·exact bytesN1_byteCells _)|(refine Tr.some fun _=>?_;exact⟨rfl,rfl⟩)|fail))
      rw [hW]
      simp only [bne_self_eq_false]
      refine Tr.bnd (Tr.dx ?_)
      refine Tr.pcall (ct_kNow k (kTick S x)) ?_; (try simp only[nrm,nrmL,aSome_some,Nat.reduceAdd,Nat.reduceMul,Int.reduceToNat]); (repeat' first|(with_reducible first|refine Ga ?_|refine Gn fun b h=>?_|refine Tr.xFits ?_|rintro px rfl|refine fun(h:H)=>?_|intro hb)|((with_reducible first|apply Gb|apply Gc|apply Gd|apply Ge|apply Gf|apply Gg|apply Gh|apply Gi);·rfl)|((with_reducible first|apply Gj|apply Gk|apply Gl|apply Gm);·first|assumption|rfl)|((with_reducible apply Tr.xV);·exact⟨Nat.le_of_ble_eq_true rfl,rfl,rfl⟩)|((with_reducible apply Tr.xAgg);·exact⟨Nat.le_of_ble_eq_true rfl,rfl⟩)|((with_reducible apply Tr.xPAgg);·exact⟨Nat.le_of_ble_eq_true rfl,rfl,rfl⟩)|((with_reducible first|refine Tr.ck ?_ ?_|apply Tr.xSome|apply Tr.xCells);·first|rfl|omega|(simp only[gnd] at hb;omega))|((with_reducible refine Tr.same ?_ ?_);·first|exact sameV_sl _ _ _|exact sameV_ptr _|exact sameV_int _ _|exact sameV_bool _|exact sameV_str _)|((with_reducible apply Tr.xCellsB);·exact⟨Nat.le_of_ble_eq_true rfl,rfl⟩)|((with_reducible apply Tr.asBytes);·exact bytesN1_byteCells _)|(refine Tr.some fun _=>?_;exact⟨rfl,rfl⟩)|fail)
      refine Tr.some fun o => (?_ : Tr _ _ _ _) o; (try simp only[nrm,nrmL,aSome_some,Nat.reduceAdd,Nat.reduceMul,Int.reduceToNat])
      simp only [bne_self_eq_false]
      refine Tr.bnd (Tr.dx ?_)
      refine Tr.xCall (ct_kDo0 k (kTick S x) 0 ok2 (by omega) 0 10 0 0 0 0 0 (by decide)) ?_; rintro _ h ⟨x2, d2, rfl, o⟩ <;> (refine (?_ : Tr _ _ _ _) o; (try simp only[nrm,nrmL,aSome_some,Nat.reduceAdd,Nat.reduceMul,Int.reduceToNat]); (repeat' first|(with_reducible first|refine Ga ?_|refine Gn fun b h=>?_|refine Tr.xFits ?_|rintro px rfl|refine fun(h:H)=>?_|intro hb)|((with_reducible first|apply Gb|apply Gc|apply Gd|apply Ge|apply Gf|apply Gg|apply Gh|apply Gi);·rfl)|((with_reducible first|apply Gj|apply Gk|apply Gl|apply Gm);·first|assumption|rfl)|((with_reducible apply Tr.xV);·exact⟨Nat.le_of_ble_eq_true rfl,rfl,rfl⟩)|((with_reducible apply Tr.xAgg);·exact⟨Nat.le_of_ble_eq_true rfl,rfl⟩)|((with_reducible apply Tr.xPAgg);·exact⟨Nat.le_of_ble_eq_true rfl,rfl,rfl⟩)|((with_reducible first|refine Tr.ck ?_ ?_|apply Tr.xSome|apply Tr.xCells);·first|rfl|omega|(simp only[gnd] at hb;omega))|((with_reducible refine Tr.same ?_ ?_);·first|exact sameV_sl _ _ _|exact sameV_ptr _|exact sameV_int _ _|exact sameV_bool _|exact sameV_str _)|((with_reducible apply Tr.xCellsB);·exact⟨Nat.le_of_ble_eq_true rfl,rfl⟩)|((with_reducible apply Tr.asBytes);·exact bytesN1_byteCells _)|(refine Tr.some fun _=>?_;exact⟨rfl,rfl⟩)|fail))
      rw [n0]
      (repeat' first|(with_reducible first|refine Ga ?_|refine Gn fun b h=>?_|refine Tr.xFits ?_|rintro px rfl|refine fun(h:H)=>?_|intro hb)|((with_reducible first|apply Gb|apply Gc|apply Gd|apply Ge|apply Gf|apply Gg|apply Gh|apply Gi);·rfl)|((with_reducible first|apply Gj|apply Gk|apply Gl|apply Gm);·first|assumption|rfl)|((with_reducible apply Tr.xV);·exact⟨Nat.le_of_ble_eq_true rfl,rfl,rfl⟩)|((with_reducible apply Tr.xAgg);·exact⟨Nat.le_of_ble_eq_true rfl,rfl⟩)|((with_reducible apply Tr.xPAgg);·exact⟨Nat.le_of_ble_eq_true rfl,rfl,rfl⟩)|((with_reducible first|refine Tr.ck ?_ ?_|apply Tr.xSome|apply Tr.xCells);·first|rfl|omega|(simp only[gnd] at hb;omega))|((with_reducible refine Tr.same ?_ ?_);·first|exact sameV_sl _ _ _|exact sameV_ptr _|exact sameV_int _ _|exact sameV_bool _|exact sameV_str _)|((with_reducible apply Tr.xCellsB);·exact⟨Nat.le_of_ble_eq_true rfl,rfl⟩)|((with_reducible apply Tr.asBytes);·exact bytesN1_byteCells _)|(refine Tr.some fun _=>?_;exact⟨rfl,rfl⟩)|fail)
      refine Tr.some fun o => (?_ : Tr _ _ _ _) o; (try simp only[nrm,nrmL,aSome_some,Nat.reduceAdd,Nat.reduceMul,Int.reduceToNat])
      simp only [bne_self_eq_false]
      refine Tr.bnd (Tr.dx ?_)
      refine Tr.xCall (ct_kDo0 k (kTick S x) 0 ok2 (by omega) 1 10 0 0 0 0 0 (by decide)) ?_; rintro _ h ⟨x3, d3, rfl, o⟩ <;> (refine (?_ : Tr _ _ _ _) o; (try simp only[nrm,nrmL,aSome_some,Nat.reduceAdd,Nat.reduceMul,Int.reduceToNat]); (repeat' first|(with_reducible first|refine Ga ?_|refine Gn fun b h=>?_|refine Tr.xFits ?_|rintro px rfl|refine fun(h:H)=>?_|intro hb)|((with_reducible first|apply Gb|apply Gc|apply Gd|apply Ge|apply Gf|apply Gg|apply Gh|apply Gi);·rfl)|((with_reducible first|apply Gj|apply Gk|apply Gl|apply Gm);·first|assumption|rfl)|((with_reducible apply Tr.xV);·exact⟨Nat.le_of_ble_eq_true rfl,rfl,rfl⟩)|((with_reducible apply Tr.xAgg);·exact⟨Nat.le_of_ble_eq_true rfl,rfl⟩)|((with_reducible apply Tr.xPAgg);·exact⟨Nat.le_of_ble_eq_true rfl,rfl,rfl⟩)|((with_reducible first|refine Tr.ck ?_ ?_|apply Tr.xSome|apply Tr.xCells);·first|rfl|omega|(simp only[gnd] at hb;omega))|((with_reducible refine Tr.same ?_ ?_);·first|exact sameV_sl _ _ _|exact sameV_ptr _|exact sameV_int _ _|exact sameV_bool _|exact sameV_str _)|((with_reducible apply Tr.xCellsB);·exact⟨Nat.le_of_ble_eq_true rfl,rfl⟩)|((with_reducible apply Tr.asBytes);·exact bytesN1_byteCells _)|(refine Tr.some fun _=>?_;exact⟨rfl,rfl⟩)|fail))
      rw [n1]
      (repeat' first|(with_reducible first|refine Ga ?_|refine Gn fun b h=>?_|refine Tr.xFits ?_|rintro px rfl|refine fun(h:H)=>?_|intro hb)|((with_reducible first|apply Gb|apply Gc|apply Gd|apply Ge|apply Gf|apply Gg|apply Gh|apply Gi);·rfl)|((with_reducible first|apply Gj|apply Gk|apply Gl|apply Gm);·first|assumption|rfl)|((with_reducible apply Tr.xV);·exact⟨Nat.le_of_ble_eq_true rfl,rfl,rfl⟩)|((with_reducible apply Tr.xAgg);·exact⟨Nat.le_of_ble_eq_true rfl,rfl⟩)|((with_reducible apply Tr.xPAgg);·exact⟨Nat.le_of_ble_eq_true rfl,rfl,rfl⟩)|((with_reducible first|refine Tr.ck ?_ ?_|apply Tr.xSome|apply Tr.xCells);·first|rfl|omega|(simp only[gnd] at hb;omega))|((with_reducible refine Tr.same ?_ ?_);·first|exact sameV_sl _ _ _|exact sameV_ptr _|exact sameV_int _ _|exact sameV_bool _|exact sameV_str _)|((with_reducible apply Tr.xCellsB);·exact⟨Nat.le_of_ble_eq_true rfl,rfl⟩)|((with_reducible apply Tr.asBytes);·exact bytesN1_byteCells _)|(refine Tr.some fun _=>?_;exact⟨rfl,rfl⟩)|fail)
      refine Tr.some fun o => (?_ : Tr _ _ _ _) o; (try simp only[nrm,nrmL,aSome_some,Nat.reduceAdd,Nat.reduceMul,Int.reduceToNat])
      simp only [bne_self_eq_false]
      refine Tr.condF rfl ?_
      rw [e1]
      refine Tr.xRun (ih (60 - (i + 1)) (by omega) (i + 1) (kTick S x) rfl (by omega) ok2 he2 hn2) ?_; rintro _ h ⟨rfl, o⟩
      exact ⟨by first | rfl | trivial, o.sub⟩
    · have n2 := kAns_arg S 2 ⟨10, 0, 0, 0, 0, 0, []⟩ (by omega)
      have n3 := kAns_arg S (-1) ⟨10, 0, 0, 0, 0, 0, []⟩ (by omega)
      have n4 := kAns_11 S 0 (by omega)
      have n5 := kAns_0 S 0 (by omega)
      refine CtJ.of k_law8_KernClock fun h r => Tr.eq (e_law8_KernClock_L1 ..) ?_; (try simp only[nrm,nrmL,aSome_some,Nat.reduceAdd,Nat.reduceMul,Int.reduceToNat])
      refine Tr.andG (c := decide ((i : Int) < 60)) (fun hb => ?_) ?_
      · (repeat' first|(with_reducible first|refine Ga ?_|refine Gn fun b h=>?_|apply Tr.andG|apply Tr.orG|refine Tr.xFits ?_|rintro px rfl|refine fun(h:H)=>?_|intro hb)|((with_reducible first|apply Gb|apply Gc|apply Gd|apply Ge|apply Gf|apply Gg|apply Gh|apply Gi);·rfl)|((with_reducible first|apply Gj|apply Gk|apply Gl|apply Gm);·first|assumption|rfl)|((with_reducible apply Tr.xV);·exact⟨Nat.le_of_ble_eq_true rfl,rfl,rfl⟩)|((with_reducible apply Tr.xAgg);·exact⟨Nat.le_of_ble_eq_true rfl,rfl⟩)|((with_reducible apply Tr.xPAgg);·exact⟨Nat.le_of_ble_eq_true rfl,rfl,rfl⟩)|((with_reducible first|refine Tr.ck ?_ ?_|apply Tr.xSome|apply Tr.xCells);·first|rfl|omega|(simp only[gnd] at hb;omega))|((with_reducible refine Tr.same ?_ ?_);·first|exact sameV_sl _ _ _|exact sameV_ptr _|exact sameV_int _ _|exact sameV_bool _|exact sameV_str _)|((with_reducible apply Tr.xCellsB);·exact⟨Nat.le_of_ble_eq_true rfl,rfl⟩)|((with_reducible apply Tr.asBytes);·exact bytesN1_byteCells _)|(refine Tr.some fun _=>?_;exact⟨rfl,rfl⟩)|fail)
      refine Tr.condF (by simp; omega) ?_
      refine Tr.xCall (ct_kDo0 k S 0 ok (by omega) 2 10 0 0 0 0 0 (by decide)) ?_; rintro _ h ⟨x2, d2, rfl, o⟩ <;> (refine (?_ : Tr _ _ _ _) o; (try simp only[nrm,nrmL,aSome_some,Nat.reduceAdd,Nat.reduceMul,Int.reduceToNat]); (repeat' first|(with_reducible first|refine Ga ?_|refine Gn fun b h=>?_|refine Tr.xFits ?_|rintro px rfl|refine fun(h:H)=>?_|intro hb)|((with_reducible first|apply Gb|apply Gc|apply Gd|apply Ge|apply Gf|apply Gg|apply Gh|apply Gi);·rfl)|((with_reducible first|apply Gj|apply Gk|apply Gl|apply Gm);·first|assumption|rfl)|((with_reducible apply Tr.xV);·exact⟨Nat.le_of_ble_eq_true rfl,rfl,rfl⟩)|((with_reducible apply Tr.xAgg);·exact⟨Nat.le_of_ble_eq_true rfl,rfl⟩)|((with_reducible apply Tr.xPAgg);·exact⟨Nat.le_of_ble_eq_true rfl,rfl,rfl⟩)|((with_reducible first|refine Tr.ck ?_ ?_|apply Tr.xSome|apply Tr.xCells);·first|rfl|omega|(simp only[gnd] at hb;omega))|((with_reducible refine Tr.same ?_ ?_);·first|exact sameV_sl _ _ _|exact sameV_ptr _|exact sameV_int _ _|exact sameV_bool _|exact sameV_str _)|((with_reducible apply Tr.xCellsB);·exact⟨Nat.le_of_ble_eq_true rfl,rfl⟩)|((with_reducible apply Tr.asBytes);·exact bytesN1_byteCells _)|(refine Tr.some fun _=>?_;exact⟨rfl,rfl⟩)|fail))
      rw [n2]
      (repeat' first|(with_reducible first|refine Ga ?_|refine Gn fun b h=>?_|refine Tr.xFits ?_|rintro px rfl|refine fun(h:H)=>?_|intro hb)|((with_reducible first|apply Gb|apply Gc|apply Gd|apply Ge|apply Gf|apply Gg|apply Gh|apply Gi);·rfl)|((with_reducible first|apply Gj|apply Gk|apply Gl|apply Gm);·first|assumption|rfl)|((with_reducible apply Tr.xV);·exact⟨Nat.le_of_ble_eq_true rfl,rfl,rfl⟩)|((with_reducible apply Tr.xAgg);·exact⟨Nat.le_of_ble_eq_true rfl,rfl⟩)|((with_reducible apply Tr.xPAgg);·exact⟨Nat.le_of_ble_eq_true rfl,rfl,rfl⟩)|((with_reducible first|refine Tr.ck ?_ ?_|apply Tr.xSome|apply Tr.xCells);·first|rfl|omega|(simp only[gnd] at hb;omega))|((with_reducible refine Tr.same ?_ ?_);·first|exact sameV_sl _ _ _|exact sameV_ptr _|exact sameV_int _ _|exact sameV_bool _|exact sameV_str _)|((with_reducible apply Tr.xCellsB);·exact⟨Nat.le_of_ble_eq_true rfl,rfl⟩)|((with_reducible apply Tr.asBytes);·exact bytesN1_byteCells _)|(refine Tr.some fun _=>?_;exact⟨rfl,rfl⟩)|fail)
      refine Tr.bnd (Tr.condT (by rfl) ?_)
      refine Tr.xCall (ct_kDo0 k S 0 ok (by omega) (-1) 10 0 0 0 0 0 (by decide)) ?_; rintro _ h ⟨x3, d3, rfl, o⟩ <;> (refine (?_ : Tr _ _ _ _) o; (try simp only[nrm,nrmL,aSome_some,Nat.reduceAdd,Nat.reduceMul,Int.reduceToNat]); (repeat' first|(with_reducible first|refine Ga ?_|refine Gn fun b h=>?_|refine Tr.xFits ?_|rintro px rfl|refine fun(h:H)=>?_|intro hb)|((with_reducible first|apply Gb|apply Gc|apply Gd|apply Ge|apply Gf|apply Gg|apply Gh|apply Gi);·rfl)|((with_reducible first|apply Gj|apply Gk|apply Gl|apply Gm);·first|assumption|rfl)|((with_reducible apply Tr.xV);·exact⟨Nat.le_of_ble_eq_true rfl,rfl,rfl⟩)|((with_reducible apply Tr.xAgg);·exact⟨Nat.le_of_ble_eq_true rfl,rfl⟩)|((with_reducible apply Tr.xPAgg);·exact⟨Nat.le_of_ble_eq_true rfl,rfl,rfl⟩)|((with_reducible first|refine Tr.ck ?_ ?_|apply Tr.xSome|apply Tr.xCells);·first|rfl|omega|(simp only[gnd] at hb;omega))|((with_reducible refine Tr.same ?_ ?_);·first|exact sameV_sl _ _ _|exact sameV_ptr _|exact sameV_int _ _|exact sameV_bool _|exact sameV_str _)|((with_reducible apply Tr.xCellsB);·exact⟨Nat.le_of_ble_eq_true rfl,rfl⟩)|((with_reducible apply Tr.asBytes);·exact bytesN1_byteCells _)|(refine Tr.some fun _=>?_;exact⟨rfl,rfl⟩)|fail))
      rw [n3]
      (repeat' first|(with_reducible first|refine Ga ?_|refine Gn fun b h=>?_|refine Tr.xFits ?_|rintro px rfl|refine fun(h:H)=>?_|intro hb)|((with_reducible first|apply Gb|apply Gc|apply Gd|apply Ge|apply Gf|apply Gg|apply Gh|apply Gi);·rfl)|((with_reducible first|apply Gj|apply Gk|apply Gl|apply Gm);·first|assumption|rfl)|((with_reducible apply Tr.xV);·exact⟨Nat.le_of_ble_eq_true rfl,rfl,rfl⟩)|((with_reducible apply Tr.xAgg);·exact⟨Nat.le_of_ble_eq_true rfl,rfl⟩)|((with_reducible apply Tr.xPAgg);·exact⟨Nat.le_of_ble_eq_true rfl,rfl,rfl⟩)|((with_reducible first|refine Tr.ck ?_ ?_|apply Tr.xSome|apply Tr.xCells);·first|rfl|omega|(simp only[gnd] at hb;omega))|((with_reducible refine Tr.same ?_ ?_);·first|exact sameV_sl _ _ _|exact sameV_ptr _|exact sameV_int _ _|exact sameV_bool _|exact sameV_str _)|((with_reducible apply Tr.xCellsB);·exact⟨Nat.le_of_ble_eq_true rfl,rfl⟩)|((with_reducible apply Tr.asBytes);·exact bytesN1_byteCells _)|(refine Tr.some fun _=>?_;exact⟨rfl,rfl⟩)|fail)
      refine Tr.some fun o => (?_ : Tr _ _ _ _) o; (try simp only[nrm,nrmL,aSome_some,Nat.reduceAdd,Nat.reduceMul,Int.reduceToNat])
      refine Tr.bnd (Tr.condT (by rfl) ?_)
      refine Tr.xCall (ct_kDo0 k S 0 ok (by omega) 0 11 0 0 0 0 0 (by decide)) ?_; rintro _ h ⟨x4, d4, rfl, o⟩ <;> (refine (?_ : Tr _ _ _ _) o; (try simp only[nrm,nrmL,aSome_some,Nat.reduceAdd,Nat.reduceMul,Int.reduceToNat]); (repeat' first|(with_reducible first|refine Ga ?_|refine Gn fun b h=>?_|refine Tr.xFits ?_|rintro px rfl|refine fun(h:H)=>?_|intro hb)|((with_reducible first|apply Gb|apply Gc|apply Gd|apply Ge|apply Gf|apply Gg|apply Gh|apply Gi);·rfl)|((with_reducible first|apply Gj|apply Gk|apply Gl|apply Gm);·first|assumption|rfl)|((with_reducible apply Tr.xV);·exact⟨Nat.le_of_ble_eq_true rfl,rfl,rfl⟩)|((with_reducible apply Tr.xAgg);·exact⟨Nat.le_of_ble_eq_true rfl,rfl⟩)|((with_reducible apply Tr.xPAgg);·exact⟨Nat.le_of_ble_eq_true rfl,rfl,rfl⟩)|((with_reducible first|refine Tr.ck ?_ ?_|apply Tr.xSome|apply Tr.xCells);·first|rfl|omega|(simp only[gnd] at hb;omega))|((with_reducible refine Tr.same ?_ ?_);·first|exact sameV_sl _ _ _|exact sameV_ptr _|exact sameV_int _ _|exact sameV_bool _|exact sameV_str _)|((with_reducible apply Tr.xCellsB);·exact⟨Nat.le_of_ble_eq_true rfl,rfl⟩)|((with_reducible apply Tr.asBytes);·exact bytesN1_byteCells _)|(refine Tr.some fun _=>?_;exact⟨rfl,rfl⟩)|fail))
      rw [n4]
      (repeat' first|(with_reducible first|refine Ga ?_|refine Gn fun b h=>?_|refine Tr.xFits ?_|rintro px rfl|refine fun(h:H)=>?_|intro hb)|((with_reducible first|apply Gb|apply Gc|apply Gd|apply Ge|apply Gf|apply Gg|apply Gh|apply Gi);·rfl)|((with_reducible first|apply Gj|apply Gk|apply Gl|apply Gm);·first|assumption|rfl)|((with_reducible apply Tr.xV);·exact⟨Nat.le_of_ble_eq_true rfl,rfl,rfl⟩)|((with_reducible apply Tr.xAgg);·exact⟨Nat.le_of_ble_eq_true rfl,rfl⟩)|((with_reducible apply Tr.xPAgg);·exact⟨Nat.le_of_ble_eq_true rfl,rfl,rfl⟩)|((with_reducible first|refine Tr.ck ?_ ?_|apply Tr.xSome|apply Tr.xCells);·first|rfl|omega|(simp only[gnd] at hb;omega))|((with_reducible refine Tr.same ?_ ?_);·first|exact sameV_sl _ _ _|exact sameV_ptr _|exact sameV_int _ _|exact sameV_bool _|exact sameV_str _)|((with_reducible apply Tr.xCellsB);·exact⟨Nat.le_of_ble_eq_true rfl,rfl⟩)|((with_reducible apply Tr.asBytes);·exact bytesN1_byteCells _)|(refine Tr.some fun _=>?_;exact⟨rfl,rfl⟩)|fail)
      refine Tr.some fun o => (?_ : Tr _ _ _ _) o; (try simp only[nrm,nrmL,aSome_some,Nat.reduceAdd,Nat.reduceMul,Int.reduceToNat])
      refine Tr.bnd (Tr.condT (by rfl) ?_)
      refine Tr.xCall (ct_kDo0 k S 0 ok (by omega) 0 0 0 0 0 0 0 (by decide)) ?_; rintro _ h ⟨x5, d5, rfl, o⟩ <;> (refine (?_ : Tr _ _ _ _) o; (try simp only[nrm,nrmL,aSome_some,Nat.reduceAdd,Nat.reduceMul,Int.reduceToNat]); (repeat' first|(with_reducible first|refine Ga ?_|refine Gn fun b h=>?_|refine Tr.xFits ?_|rintro px rfl|refine fun(h:H)=>?_|intro hb)|((with_reducible first|apply Gb|apply Gc|apply Gd|apply Ge|apply Gf|apply Gg|apply Gh|apply Gi);·rfl)|((with_reducible first|apply Gj|apply Gk|apply Gl|apply Gm);·first|assumption|rfl)|((with_reducible apply Tr.xV);·exact⟨Nat.le_of_ble_eq_true rfl,rfl,rfl⟩)|((with_reducible apply Tr.xAgg);·exact⟨Nat.le_of_ble_eq_true rfl,rfl⟩)|((with_reducible apply Tr.xPAgg);·exact⟨Nat.le_of_ble_eq_true rfl,rfl,rfl⟩)|((with_reducible first|refine Tr.ck ?_ ?_|apply Tr.xSome|apply Tr.xCells);·first|rfl|omega|(simp only[gnd] at hb;omega))|((with_reducible refine Tr.same ?_ ?_);·first|exact sameV_sl _ _ _|exact sameV_ptr _|exact sameV_int _ _|exact sameV_bool _|exact sameV_str _)|((with_reducible apply Tr.xCellsB);·exact⟨Nat.le_of_ble_eq_true rfl,rfl⟩)|((with_reducible apply Tr.asBytes);·exact bytesN1_byteCells _)|(refine Tr.some fun _=>?_;exact⟨rfl,rfl⟩)|fail))
      rw [n5]
      (repeat' first|(with_reducible first|refine Ga ?_|refine Gn fun b h=>?_|refine Tr.xFits ?_|rintro px rfl|refine fun(h:H)=>?_|intro hb)|((with_reducible first|apply Gb|apply Gc|apply Gd|apply Ge|apply Gf|apply Gg|apply Gh|apply Gi);·rfl)|((with_reducible first|apply Gj|apply Gk|apply Gl|apply Gm);·first|assumption|rfl)|((with_reducible apply Tr.xV);·exact⟨Nat.le_of_ble_eq_true rfl,rfl,rfl⟩)|((with_reducible apply Tr.xAgg);·exact⟨Nat.le_of_ble_eq_true rfl,rfl⟩)|((with_reducible apply Tr.xPAgg);·exact⟨Nat.le_of_ble_eq_true rfl,rfl,rfl⟩)|((with_reducible first|refine Tr.ck ?_ ?_|apply Tr.xSome|apply Tr.xCells);·first|rfl|omega|(simp only[gnd] at hb;omega))|((with_reducible refine Tr.same ?_ ?_);·first|exact sameV_sl _ _ _|exact sameV_ptr _|exact sameV_int _ _|exact sameV_bool _|exact sameV_str _)|((with_reducible apply Tr.xCellsB);·exact⟨Nat.le_of_ble_eq_true rfl,rfl⟩)|((with_reducible apply Tr.asBytes);·exact bytesN1_byteCells _)|(refine Tr.some fun _=>?_;exact⟨rfl,rfl⟩)|fail)
      refine Tr.some fun o => (?_ : Tr _ _ _ _) o; (try simp only[nrm,nrmL,aSome_some,Nat.reduceAdd,Nat.reduceMul,Int.reduceToNat])
      refine Tr.bnd (Tr.condT (by rfl) ?_)
      refine Tr.xCall (ct_awake8) ?_; rintro _ h ⟨rfl, o⟩ <;> (refine (?_ : Tr _ _ _ _) o; (try simp only[nrm,nrmL,aSome_some,Nat.reduceAdd,Nat.reduceMul,Int.reduceToNat]); (repeat' first|(with_reducible first|refine Ga ?_|refine Gn fun b h=>?_|refine Tr.xFits ?_|rintro px rfl|refine fun(h:H)=>?_|intro hb)|((with_reducible first|apply Gb|apply Gc|apply Gd|apply Ge|apply Gf|apply Gg|apply Gh|apply Gi);·rfl)|((with_reducible first|apply Gj|apply Gk|apply Gl|apply Gm);·first|assumption|rfl)|((with_reducible apply Tr.xV);·exact⟨Nat.le_of_ble_eq_true rfl,rfl,rfl⟩)|((with_reducible apply Tr.xAgg);·exact⟨Nat.le_of_ble_eq_true rfl,rfl⟩)|((with_reducible apply Tr.xPAgg);·exact⟨Nat.le_of_ble_eq_true rfl,rfl,rfl⟩)|((with_reducible first|refine Tr.ck ?_ ?_|apply Tr.xSome|apply Tr.xCells);·first|rfl|omega|(simp only[gnd] at hb;omega))|((with_reducible refine Tr.same ?_ ?_);·first|exact sameV_sl _ _ _|exact sameV_ptr _|exact sameV_int _ _|exact sameV_bool _|exact sameV_str _)|((with_reducible apply Tr.xCellsB);·exact⟨Nat.le_of_ble_eq_true rfl,rfl⟩)|((with_reducible apply Tr.asBytes);·exact bytesN1_byteCells _)|(refine Tr.some fun _=>?_;exact⟨rfl,rfl⟩)|fail))
      refine Tr.some fun o => (?_ : Tr _ _ _ _) o; (try simp only[nrm,nrmL,aSome_some,Nat.reduceAdd,Nat.reduceMul,Int.reduceToNat])
      refine Tr.some fun o => ?_
      exact ⟨by first | rfl | trivial, o.sub⟩
theorem ct_KernClock (p : HP) (ro : Bool) (a : Option Addr) (c : Nat) (l : List Int) [ks : IsSl p a ro Y_int 1 l.length c (l.map int)] (hl : l.length ≤ 9223372036854775807) :
    Ct CALL F_law8_KernClock [.slice a l.length c] [p] fun v own => v = .bool true ∧ own [p] := by
  refine Ct.of k_law8_KernClock rfl fun h r => Tr.eq (e_law8_KernClock ..) ?_; (try simp only[nrm,nrmL,aSome_some,Nat.reduceAdd,Nat.reduceMul,Int.reduceToNat])
  refine Tr.nw fun b1 h1 => ?_
  refine Tr.nw fun b2 h2 => ?_
  refine tr_asSl 0 rfl 1 2 rfl (by omega) ?_; (try simp only[nrm,nrmL,aSome_some,Nat.reduceAdd,Nat.reduceMul,Int.reduceToNat])
  refine tr_asSl 1 rfl 1 1 rfl (by omega) ?_; (try simp only[nrm,nrmL,aSome_some,Nat.reduceAdd,Nat.reduceMul,Int.reduceToNat])
  refine tr_nilSl false Y_s_int 1 (by omega) ?_
  refine tr_nilSl false Y_api_Share 5 (by omega) ?_
  refine tr_nil2 (rsC false) ?_
  refine tr_nil2 (toC false) ?_
  refine tr_callI (ct_New false bootC1 ⟨some ⟨b1, 0, none⟩, 1, some ⟨b2, 0, none⟩, 2, none, 0, [], none, 0, []⟩ ⟨rfl, rfl⟩ bootC1_small) [5, 4, 3, 1, 1, 0] rfl ?_
  intro v h hv
  rw [if_pos bootC1_ok] at hv
  obtain ⟨k, rfl, o⟩ := hv
  refine (?_ : Tr _ _ _ _) o
  (try simp only[nrm,nrmL,aSome_some,Nat.reduceAdd,Nat.reduceMul,Int.reduceToNat])
  (repeat' first|(with_reducible first|refine Ga ?_|refine Gn fun b h=>?_|apply Tr.andG|apply Tr.orG|refine Tr.xFits ?_|rintro px rfl|refine fun(h:H)=>?_|intro hb)|((with_reducible first|apply Gb|apply Gc|apply Gd|apply Ge|apply Gf|apply Gg|apply Gh|apply Gi);·rfl)|((with_reducible first|apply Gj|apply Gk|apply Gl|apply Gm);·first|assumption|rfl)|((with_reducible apply Tr.xV);·exact⟨Nat.le_of_ble_eq_true rfl,rfl,rfl⟩)|((with_reducible apply Tr.xAgg);·exact⟨Nat.le_of_ble_eq_true rfl,rfl⟩)|((with_reducible apply Tr.xPAgg);·exact⟨Nat.le_of_ble_eq_true rfl,rfl,rfl⟩)|((with_reducible first|refine Tr.ck ?_ ?_|apply Tr.xSome|apply Tr.xCells);·first|rfl|omega|(simp only[gnd] at hb;omega))|((with_reducible refine Tr.same ?_ ?_);·first|exact sameV_sl _ _ _|exact sameV_ptr _|exact sameV_int _ _|exact sameV_bool _|exact sameV_str _)|((with_reducible apply Tr.xCellsB);·exact⟨Nat.le_of_ble_eq_true rfl,rfl⟩)|((with_reducible apply Tr.asBytes);·exact bytesN1_byteCells _)|(refine Tr.some fun _=>?_;exact⟨rfl,rfl⟩)|fail)
  refine Tr.condF rfl ?_
  refine Tr.xRun (ct_Clock_L1 p ro a c l hl k 60 0 (kNew bootC1) rfl (by omega) (kNew_ok bootC1_ok bootC1_small) rfl (by decide)) ?_; rintro _ h ⟨rfl, o⟩
  exact ⟨by first | rfl | trivial, o.sub⟩
end Go.EQ

set_option maxRecDepth 100000
namespace Go.EQ
open Go Go.NN Go.Proofs Go.ChangeShapes Go.WideShapes Go.RowKit
theorem globsOk : ∀ f, (cutsOf f).globs ≤ PR.globals.size := by
  intro f; unfold cutsOf; split <;> exact Nat.zero_le _
theorem mixedOk : PR.follows .mixedOrders = true := by kernel_rfl
theorem laidOk : laidOutB PR = true := by kernel_rfl
theorem ownOk : ownKnob Try.prog.godebug = none := by kernel_rfl
/-- A slice of whole numbers among the arguments. -/
theorem impInts {H : Type} {enc : TypeId × Value → H} {W : World} {t e : TypeId} (ht : PR.underlying t = some (.slice e)) (he : PR.underlying e = some (.int .i64)) (hc : PR.cellsOf e = 1) {v : Value} {d : DataW H} {ps : List MemPlace} {base : Nat} {b0 : Nat}
    (hval : Value.okWide PR W .any b0 t v) (h : DataW.Trod enc PR W base (fun _ => true) true t v d ps) :
    Imp PR W [v] fun vs qs => ∃ (a : Option Addr) (c : Nat) (l : List Int), l.length ≤ 9223372036854775807 ∧ (∀ x ∈ l, IntKind.i64.has x) ∧ vs = [.slice a l.length c] ∧ qs = [slC true Y_int 1 a l.length c (l.map int)] := by
  obtain ⟨a0, len, cap, rfl⟩ := okWide_slice ht hval
  obtain ⟨fuel, hf⟩ := h
  rcases open_ints ht he hc hf with ⟨hcs, hx⟩ | ⟨a, len', cap', zs, hcs, _, hl, hm, hz, hx, hcell, hw⟩
  · simp [Value.cells] at hcs
    obtain ⟨rfl, rfl, rfl⟩ := hcs
    exact (Imp.nilSl 1 Y_int (by omega)).mono fun vs qs ⟨h1, h2⟩ => ⟨none, 0, [], by simp, by simp, h1, h2⟩
  · simp [Value.cells] at hcs
    obtain ⟨rfl, rfl, rfl⟩ := hcs
    simp only [if_true] at hz
    refine (Imp.slice (us := zs.map int) (φ := fun vs ps => vs = zs.map int ∧ ps = []) 1 Y_int (by omega) hl (by simp [hz]) (fun i v hi => ?_) (Imp.flat (by simp [flat1]))).mono fun vs qs ⟨a', ws, q, ⟨hw1, hq⟩, hlw, hv, hps⟩ => ?_
    · rw [List.getElem?_map] at hi
      cases hzi : zs[i]? with
      | none => rw [hzi] at hi; cases hi
      | some n =>
        rw [hzi] at hi; cases hi
        have hlt := (List.getElem?_eq_some_iff.1 hzi).1
        rw [hcell i hlt, List.getD_eq_getElem?_getD, hzi]; rfl
    · subst hw1; subst hq
      have hlen : (zs.take len).length = len := by rw [List.length_take, hz]; omega
      refine ⟨some a', cap, zs.take len, ?_, fun x hx => ?_, ?_, ?_⟩
      · rw [hlen]; unfold maxLen at hm; omega
      · have := hw x (List.mem_of_mem_take hx)
        simpa [Lit.wf, IntKind.has] using this
      · rw [hlen]; exact hv
      · rw [hlen, hps]; simp [List.map_take]
end Go.EQ

set_option maxRecDepth 100000
namespace Go.EQ
open Go Go.NN Go.Proofs Go.Proofs.Ytkoigngajoefkaa Go.ChangeShapes Go.WideShapes Go.RowKit
theorem clockCalls {H : Type} {enc : TypeId × Value → H} {W : World} {v : Value} {d : DataW H} {ps : List MemPlace} {b0 : Nat} (hval : Value.okWide PR W .any b0 23 v) (h : DataW.Trod enc PR W 0 (fun _ => true) true 23 v d ps) :
    Calls PR F_law8_KernClock #[v] W fun e W' => e = .returned (.bool true) ∧ Below W.heap.size W W' := by
  refine (impInts Try.underlying23 Try.underlying3 (by kernel_rfl) hval h).run mixedOk globsOk fun vs ps ⟨a, c, l, hl, _, hv, hp⟩ hh r o => ?_
  subst hv; subst hp
  obtain ⟨v, h', e, rfl, _⟩ := ct_KernClock (slC true Y_int 1 a l.length c (l.map int)) true a c l (by omega) hh r o
  exact ⟨h', e⟩
theorem clockLifted (os : Os) (started : os.Started) (H : Type) (enc : TypeId × Value → H) :
    ReturnsInHanded {} Try.checked os 5 .any (Rows.kernClockSpec.pre6 enc Try.prog Try.f5 Rows.kernClockRow.domain false) (Rows.kernClockSpec.post enc Try.prog Try.f5 false true false false) := by
  refine returnsInHanded_of_change (C := Try.checked) ownOk started (by kernel_rfl) Try.func5
    (ChangeSpec.witness6 (enc := enc) (C := Try.checked) false ⟨#[], #[.slice none 0 0], []⟩ 8 (by kernel_rfl) (by kernel_rfl) (by kernel_rfl) (by kernel_rfl)) ?_
  intro W base args ds gs before hval hW hcnd _
  have hW' := hW
  obtain ⟨p, q, hA, hV, rfl, hfz, hnd⟩ := hW
  rw [Try.params5] at hA hval
  obtain ⟨v0, d0, rfl, rfl, h0⟩ := trodAll_one hA
  refine (clockCalls (hval 0 23 v0 rfl rfl) h0).mono fun e W' ⟨he, hb⟩ => ?_
  subst he
  refine ⟨_, rfl, post_true laidOk ?_ rfl Try.underlying4 rfl (fun ds gs hl => ?_) hW' hb⟩
  · rw [Try.params5]; intro t ht; simp at ht; subst ht; exact ⟨by kernel_rfl, of_decide_eq_true (by kernel_rfl)⟩
  · replace hl : ds.length = 1 := hl
    cases gs with
    | cons _ _ => exact .inr (by simp)
    | nil => match ds, hl with | [d], _ => exact .inl rfl
theorem KernClock_holds : Rows.KernClockSaid :=
  OpenClaim.holds_of_wide 5 Try.f5 rfl rfl rfl rfl rfl rfl rfl ⟨rfl, rfl, rfl, rfl, rfl⟩ rfl rfl rfl rfl rfl (by kernel_rfl) Try.func5 (by kernel_rfl)
    (of_decide_eq_true (by kernel_rfl)) (by unfold Func.isWrapper; first | (rw [if_pos (by decide +kernel)]; kernel_rfl) | (rw [if_neg (by decide +kernel)]; exact ⟨rfl, rfl⟩))
    (fun os started H enc _ => clockLifted os started H enc)
end Go.EQ
