/- For every list of numbers and all numbers the law KernCaps of layer 8 returns true and leaves its arguments as they were. No condition. -/
import Derived.Test.YtkoigngajoefkaaMf
import Derived.KernelRfl
import Derived.Test.YtkoigngajoefkaaRows
set_option linter.unusedVariables false
set_option linter.unusedSimpArgs false
set_option linter.unusedSectionVars false
set_option linter.unusedSimpArgs false
set_option linter.unusedVariables false
set_option maxRecDepth 100000
namespace Go.EQ
open Go Go.NN
def bootA : BootS := ⟨[2, 2], [0, 1], [[0]], 5, [⟨0, 0, 0, 10, [0]⟩]⟩
abbrev callA1 : CallS := ⟨2, 256, 0, 0, 0, 0, [7]⟩
abbrev callA2 : CallS := ⟨1, 256, 0, 1, 0, 0, []⟩
abbrev callA3 : CallS := ⟨8, 0, 0, 0, 0, 0, []⟩
theorem bootA_ok : bootOk bootA = true := by kernel_rfl
theorem bootA_small : Small bootA := ⟨by simp [bootA, most], by simp [bootA, most], by simp [bootA, most]⟩
def SA0 : KS := kNew bootA
abbrev SA1 : KS := (kAns SA0 0 callA1).2
abbrev SA2 : KS := (kAns SA1 0 callA2).2
abbrev SA3 : KS := (kAns SA2 1 callA2).2
abbrev SA4 : KS := (kAns SA3 1 callA3).2
theorem a1 : (kAns SA0 0 callA1).1.1 = 0 := by kernel_rfl
theorem a2 : (kAns SA1 0 callA2).1.2.2 = [7] := by kernel_rfl
theorem a3 : (kAns SA2 1 callA2).1.1 = 2 := by kernel_rfl
theorem a4 : (kAns SA3 1 callA3).1.1 = 8 := by kernel_rfl
theorem ct_awake8 : Ct CALL F_law8_awake [] [] fun v own => v = .bool true ∧ own [] := by
  refine Ct.of k_law8_awake rfl fun h r => Tr.eq (e_law8_awake ..) ?_; (try simp only[nrm,nrmL,aSome_some,Nat.reduceAdd,Nat.reduceMul,Int.reduceToNat])
  refine Tr.nw fun b1 h1 => ?_
  refine Tr.nw fun b2 h2 => ?_
  refine Tr.nw fun b3 h3 => ?_
  refine Tr.nw fun b4 h4 => ?_
  refine Tr.nw fun b5 h5 => ?_
  refine Tr.nw fun b6 h6 => ?_
  refine tr_asSl 0 rfl 5 1 rfl (by omega) ?_; (try simp only[nrm,nrmL,aSome_some,Nat.reduceAdd,Nat.reduceMul,Int.reduceToNat])
  refine tr_asSl 1 rfl 1 1 rfl (by omega) ?_; (try simp only[nrm,nrmL,aSome_some,Nat.reduceAdd,Nat.reduceMul,Int.reduceToNat])
  refine tr_asSl 2 rfl 1 1 rfl (by omega) ?_; (try simp only[nrm,nrmL,aSome_some,Nat.reduceAdd,Nat.reduceMul,Int.reduceToNat])
  refine tr_asSl 3 rfl 1 1 rfl (by omega) ?_; (try simp only[nrm,nrmL,aSome_some,Nat.reduceAdd,Nat.reduceMul,Int.reduceToNat])
  refine tr_asSl 4 rfl 1 2 rfl (by omega) ?_; (try simp only[nrm,nrmL,aSome_some,Nat.reduceAdd,Nat.reduceMul,Int.reduceToNat])
  refine tr_asSl 5 rfl 1 2 rfl (by omega) ?_; (try simp only[nrm,nrmL,aSome_some,Nat.reduceAdd,Nat.reduceMul,Int.reduceToNat])
  refine tr_one2 (toC false) (some ⟨b5, 0, none⟩, 1) (⟨0, 0, 0, 10, [0]⟩ : ShareS) (r := []) 1 rfl ?_; (try simp only[nrm,nrmL,aSome_some,Nat.reduceAdd,Nat.reduceMul,Int.reduceToNat])
  refine tr_one2 (rsC false) (some ⟨b3, 0, none⟩, 1) ([0] : List Int) (r := []) 3 rfl ?_; (try simp only[nrm,nrmL,aSome_some,Nat.reduceAdd,Nat.reduceMul,Int.reduceToNat])
  refine tr_callI (ct_New false bootA ⟨some ⟨b1, 0, none⟩, 2, some ⟨b2, 0, none⟩, 2, some ⟨b4, 0, none⟩, 1, [(some ⟨b3, 0, none⟩, 1)], some ⟨b6, 0, none⟩, 1, [(some ⟨b5, 0, none⟩, 1)]⟩ ⟨rfl, rfl⟩ bootA_small) [5, 4, 3, 0, 1, 0] rfl ?_
  intro v h hv
  rw [if_pos bootA_ok] at hv
  obtain ⟨k, rfl, o⟩ := hv
  refine (?_ : Tr _ _ _ _) o
  (try simp only[nrm,nrmL,aSome_some,Nat.reduceAdd,Nat.reduceMul,Int.reduceToNat])
  (repeat' first|(with_reducible first|refine Ga ?_|refine Gn fun b h=>?_|apply Tr.andG|apply Tr.orG|refine Tr.xFits ?_|rintro px rfl|refine fun(h:H)=>?_|intro hb)|((with_reducible first|apply Gb|apply Gc|apply Gd|apply Ge|apply Gf|apply Gg|apply Gh|apply Gi);·rfl)|((with_reducible first|apply Gj|apply Gk|apply Gl|apply Gm);·first|assumption|rfl)|((with_reducible apply Tr.xV);·exact⟨Nat.le_of_ble_eq_true rfl,rfl,rfl⟩)|((with_reducible apply Tr.xAgg);·exact⟨Nat.le_of_ble_eq_true rfl,rfl⟩)|((with_reducible apply Tr.xPAgg);·exact⟨Nat.le_of_ble_eq_true rfl,rfl,rfl⟩)|((with_reducible first|refine Tr.ck ?_ ?_|apply Tr.xSome|apply Tr.xCells);·first|rfl|omega|(simp only[gnd] at hb;omega))|((with_reducible refine Tr.same ?_ ?_);·first|exact sameV_sl _ _ _|exact sameV_ptr _|exact sameV_int _ _|exact sameV_bool _|exact sameV_str _)|((with_reducible apply Tr.xCellsB);·exact⟨Nat.le_of_ble_eq_true rfl,rfl⟩)|((with_reducible apply Tr.asBytes);·exact bytesN1_byteCells _)|(refine Tr.some fun _=>?_;exact⟨rfl,rfl⟩)|fail)
  refine Tr.condF rfl ?_
  refine Tr.nw fun c1 g1 => ?_
  refine tr_view 0 rfl [] (byteCells [7]) [] rfl 1 0 1 1 (by simp [byteCells]) ?_; (try simp only[nrm,nrmL,aSome_some,Nat.reduceAdd,Nat.reduceMul,Int.reduceToNat])
  refine tr_callI (ct_kDo k SA0 0 (kNew_ok bootA_ok bootA_small) (by omega) 0 callA1 (some ⟨c1, 0, none⟩) 1 false ([], []) (by decide)) [1, 0] rfl ?_
  rintro _ h ⟨x1, d1, rfl, o⟩
  refine (?_ : Tr _ _ _ _) o
  (try simp only[nrm,nrmL,aSome_some,Nat.reduceAdd,Nat.reduceMul,Int.reduceToNat])
  have k1 : KOk 2 SA1 := kAns_ok (kNew_ok bootA_ok bootA_small) (by omega) 0 callA1
  have k2 : KOk 4 SA2 := kAns_ok k1 (by omega) 0 callA2
  have k3 : KOk 6 SA3 := kAns_ok k2 (by omega) 1 callA2
  refine Tr.dx ?_
  refine Tr.nw fun c2 g2 => ?_
  (repeat' first|(with_reducible first|refine Ga ?_|refine Gn fun b h=>?_|apply Tr.andG|apply Tr.orG|refine Tr.xFits ?_|rintro px rfl|refine fun(h:H)=>?_|intro hb)|((with_reducible first|apply Gb|apply Gc|apply Gd|apply Ge|apply Gf|apply Gg|apply Gh|apply Gi);·rfl)|((with_reducible first|apply Gj|apply Gk|apply Gl|apply Gm);·first|assumption|rfl)|((with_reducible apply Tr.xV);·exact⟨Nat.le_of_ble_eq_true rfl,rfl,rfl⟩)|((with_reducible apply Tr.xAgg);·exact⟨Nat.le_of_ble_eq_true rfl,rfl⟩)|((with_reducible apply Tr.xPAgg);·exact⟨Nat.le_of_ble_eq_true rfl,rfl,rfl⟩)|((with_reducible first|refine Tr.ck ?_ ?_|apply Tr.xSome|apply Tr.xCells);·first|rfl|omega|(simp only[gnd] at hb;omega))|((with_reducible refine Tr.same ?_ ?_);·first|exact sameV_sl _ _ _|exact sameV_ptr _|exact sameV_int _ _|exact sameV_bool _|exact sameV_str _)|((with_reducible apply Tr.xCellsB);·exact⟨Nat.le_of_ble_eq_true rfl,rfl⟩)|((with_reducible apply Tr.asBytes);·exact bytesN1_byteCells _)|(refine Tr.some fun _=>?_;exact⟨rfl,rfl⟩)|fail)
  refine Tr.xCall (ct_kDo0 k SA1 2 k1 (by omega) 0 1 256 0 1 0 0 (by decide)) ?_; rintro _ h ⟨x2, d2, rfl, o⟩ <;> (refine (?_ : Tr _ _ _ _) o; (try simp only[nrm,nrmL,aSome_some,Nat.reduceAdd,Nat.reduceMul,Int.reduceToNat]); (repeat' first|(with_reducible first|refine Ga ?_|refine Gn fun b h=>?_|apply Tr.andG|apply Tr.orG|refine Tr.xFits ?_|rintro px rfl|refine fun(h:H)=>?_|intro hb)|((with_reducible first|apply Gb|apply Gc|apply Gd|apply Ge|apply Gf|apply Gg|apply Gh|apply Gi);·rfl)|((with_reducible first|apply Gj|apply Gk|apply Gl|apply Gm);·first|assumption|rfl)|((with_reducible apply Tr.xV);·exact⟨Nat.le_of_ble_eq_true rfl,rfl,rfl⟩)|((with_reducible apply Tr.xAgg);·exact⟨Nat.le_of_ble_eq_true rfl,rfl⟩)|((with_reducible apply Tr.xPAgg);·exact⟨Nat.le_of_ble_eq_true rfl,rfl,rfl⟩)|((with_reducible first|refine Tr.ck ?_ ?_|apply Tr.xSome|apply Tr.xCells);·first|rfl|omega|(simp only[gnd] at hb;omega))|((with_reducible refine Tr.same ?_ ?_);·first|exact sameV_sl _ _ _|exact sameV_ptr _|exact sameV_int _ _|exact sameV_bool _|exact sameV_str _)|((with_reducible apply Tr.xCellsB);·exact⟨Nat.le_of_ble_eq_true rfl,rfl⟩)|((with_reducible apply Tr.asBytes);·exact bytesN1_byteCells _)|(refine Tr.some fun _=>?_;exact⟨rfl,rfl⟩)|fail))
  refine Tr.xCall (ct_kDo0 k SA2 4 k2 (by omega) 1 1 256 0 1 0 0 (by decide)) ?_; rintro _ h ⟨x3, d3, rfl, o⟩ <;> (refine (?_ : Tr _ _ _ _) o; (try simp only[nrm,nrmL,aSome_some,Nat.reduceAdd,Nat.reduceMul,Int.reduceToNat]); (repeat' first|(with_reducible first|refine Ga ?_|refine Gn fun b h=>?_|apply Tr.andG|apply Tr.orG|refine Tr.xFits ?_|rintro px rfl|refine fun(h:H)=>?_|intro hb)|((with_reducible first|apply Gb|apply Gc|apply Gd|apply Ge|apply Gf|apply Gg|apply Gh|apply Gi);·rfl)|((with_reducible first|apply Gj|apply Gk|apply Gl|apply Gm);·first|assumption|rfl)|((with_reducible apply Tr.xV);·exact⟨Nat.le_of_ble_eq_true rfl,rfl,rfl⟩)|((with_reducible apply Tr.xAgg);·exact⟨Nat.le_of_ble_eq_true rfl,rfl⟩)|((with_reducible apply Tr.xPAgg);·exact⟨Nat.le_of_ble_eq_true rfl,rfl,rfl⟩)|((with_reducible first|refine Tr.ck ?_ ?_|apply Tr.xSome|apply Tr.xCells);·first|rfl|omega|(simp only[gnd] at hb;omega))|((with_reducible refine Tr.same ?_ ?_);·first|exact sameV_sl _ _ _|exact sameV_ptr _|exact sameV_int _ _|exact sameV_bool _|exact sameV_str _)|((with_reducible apply Tr.xCellsB);·exact⟨Nat.le_of_ble_eq_true rfl,rfl⟩)|((with_reducible apply Tr.asBytes);·exact bytesN1_byteCells _)|(refine Tr.some fun _=>?_;exact⟨rfl,rfl⟩)|fail))
  refine Tr.xCall (ct_kDo0 k SA3 6 k3 (by omega) 1 8 0 0 0 0 0 (by decide)) ?_; rintro _ h ⟨x4, d4, rfl, o⟩ <;> (refine (?_ : Tr _ _ _ _) o; (try simp only[nrm,nrmL,aSome_some,Nat.reduceAdd,Nat.reduceMul,Int.reduceToNat]); (repeat' first|(with_reducible first|refine Ga ?_|refine Gn fun b h=>?_|apply Tr.andG|apply Tr.orG|refine Tr.xFits ?_|rintro px rfl|refine fun(h:H)=>?_|intro hb)|((with_reducible first|apply Gb|apply Gc|apply Gd|apply Ge|apply Gf|apply Gg|apply Gh|apply Gi);·rfl)|((with_reducible first|apply Gj|apply Gk|apply Gl|apply Gm);·first|assumption|rfl)|((with_reducible apply Tr.xV);·exact⟨Nat.le_of_ble_eq_true rfl,rfl,rfl⟩)|((with_reducible apply Tr.xAgg);·exact⟨Nat.le_of_ble_eq_true rfl,rfl⟩)|((with_reducible apply Tr.xPAgg);·exact⟨Nat.le_of_ble_eq_true rfl,rfl,rfl⟩)|((with_reducible first|refine Tr.ck ?_ ?_|apply Tr.xSome|apply Tr.xCells);·first|rfl|omega|(simp only[gnd] at hb;omega))|((with_reducible refine Tr.same ?_ ?_);·first|exact sameV_sl _ _ _|exact sameV_ptr _|exact sameV_int _ _|exact sameV_bool _|exact sameV_str _)|((with_reducible apply Tr.xCellsB);·exact⟨Nat.le_of_ble_eq_true rfl,rfl⟩)|((with_reducible apply Tr.asBytes);·exact bytesN1_byteCells _)|(refine Tr.some fun _=>?_;exact⟨rfl,rfl⟩)|fail))
  · refine Tr.pcall (ct_kNow k SA4) ?_; (try simp only[nrm,nrmL,aSome_some,Nat.reduceAdd,Nat.reduceMul,Int.reduceToNat]); (repeat' first|(with_reducible first|refine Ga ?_|refine Gn fun b h=>?_|apply Tr.andG|apply Tr.orG|refine Tr.xFits ?_|rintro px rfl|refine fun(h:H)=>?_|intro hb)|((with_reducible first|apply Gb|apply Gc|apply Gd|apply Ge|apply Gf|apply Gg|apply Gh|apply Gi);·rfl)|((with_reducible first|apply Gj|apply Gk|apply Gl|apply Gm);·first|assumption|rfl)|((with_reducible apply Tr.xV);·exact⟨Nat.le_of_ble_eq_true rfl,rfl,rfl⟩)|((with_reducible apply Tr.xAgg);·exact⟨Nat.le_of_ble_eq_true rfl,rfl⟩)|((with_reducible apply Tr.xPAgg);·exact⟨Nat.le_of_ble_eq_true rfl,rfl,rfl⟩)|((with_reducible first|refine Tr.ck ?_ ?_|apply Tr.xSome|apply Tr.xCells);·first|rfl|omega|(simp only[gnd] at hb;omega))|((with_reducible refine Tr.same ?_ ?_);·first|exact sameV_sl _ _ _|exact sameV_ptr _|exact sameV_int _ _|exact sameV_bool _|exact sameV_str _)|((with_reducible apply Tr.xCellsB);·exact⟨Nat.le_of_ble_eq_true rfl,rfl⟩)|((with_reducible apply Tr.asBytes);·exact bytesN1_byteCells _)|(refine Tr.some fun _=>?_;exact⟨rfl,rfl⟩)|fail)
  refine Tr.some fun o => ?_
  exact ⟨congrArg Value.bool (by kernel_rfl), o.sub⟩
end Go.EQ

set_option linter.unusedSimpArgs false
set_option linter.unusedVariables false
set_option maxRecDepth 100000
namespace Go.EQ
open Go Go.NN
end Go.EQ

set_option linter.unusedSimpArgs false
set_option linter.unusedVariables false
set_option maxRecDepth 100000
namespace Go.EQ
open Go Go.NN
structure OpS where
  env : Int
  c : CallS
structure FrOk (fs : List Int) (S : KS) : Prop where
  envs : S.envs = [0, 1, 0, 1]
  used : S.used.map (fun u => (u.length : Int)) = fs
  two : S.used.length = 2
  len : ∀ u ∈ S.used, u.length ≤ 7
  bits : ∀ u ∈ S.used, ∀ x ∈ u, x = 0 ∨ x = 1
theorem FrOk.put {fs : List Int} {S : KS} (k : FrOk fs S) {s : Nat} {u u' : List Int} (hu : S.used[s]? = some u) (hl : u'.length = u.length) (hb : ∀ x ∈ u', x = 0 ∨ x = 1) : FrOk fs (putUsed S (S.used.set s u')) where
  envs := k.envs
  used := by
    show (S.used.set s u').map _ = fs
    rw [List.map_set, hl, lset_same (by rw [List.getElem?_map, hu]; rfl)]; exact k.used
  two := by show (S.used.set s u').length = 2; rw [List.length_set]; exact k.two
  len v hv := by
    rcases List.mem_or_eq_of_mem_set hv with h | rfl
    · exact k.len v h
    · rw [hl]; exact k.len u (List.mem_of_getElem? hu)
  bits v hv := by
    rcases List.mem_or_eq_of_mem_set hv with h | rfl
    · exact k.bits v h
    · exact hb
section
variable (gs : List (Option Addr × Nat)) (ops : List OpS) (a : Option Addr) (c : Nat) (fs : List Int) (f1 : Addr) (b3 k : Nat)
end
end Go.EQ

set_option linter.unusedSimpArgs false
set_option linter.unusedVariables false
set_option maxRecDepth 100000
namespace Go.EQ
open Go Go.NN
structure SeOk (S : KS) (st : List Int) : Prop where
  envs : S.envs = [0, 0, 1, 1]
  may : S.may = [[0], [1]]
  two : S.sects.length = 2
  four : st.length = 4
  held : ∀ (s : Nat) (T : SectS), S.sects[s]? = some T → T.held = true → 0 ≤ T.who ∧ T.who < 4 ∧ T.who / 2 = s ∧ st[T.who.toNat]? = some T.stamp
theorem SeOk.put {S : KS} {st st' : List Int} (k : SeOk S st) {n : Int} (hn : 0 ≤ n ∧ n < 2) {T' : SectS} (h4 : st'.length = 4) (h1 : T'.held = true → 0 ≤ T'.who ∧ T'.who < 4 ∧ T'.who / 2 = n ∧ st'[T'.who.toNat]? = some T'.stamp)
    (h2 : ∀ w : Nat, ((w : Int) / 2 ≠ n) → st'[w]? = st[w]?) : SeOk (putSect S n T') st' where
  envs := k.envs
  may := k.may
  two := by show (S.sects.set n.toNat T').length = 2; rw [List.length_set]; exact k.two
  four := h4
  held s T hs hh := by
    have hs2 : (S.sects.set n.toNat T')[s]? = some T := hs
    rw [List.getElem?_set] at hs2
    split at hs2
    · rename_i hsn
      rw [k.two, if_pos (by omega)] at hs2
      cases hs2
      obtain ⟨a, b, c, d⟩ := h1 hh
      exact ⟨a, b, by omega, d⟩
    · obtain ⟨a, b, c, d⟩ := k.held s T hs2 hh
      refine ⟨a, b, c, ?_⟩
      rw [h2 T.who.toNat (by omega)]; exact d
section
variable (gs : List (Option Addr × Nat)) (ops : List OpS) (a : Option Addr) (c : Nat) (b5 k : Nat)
end
end Go.EQ

set_option linter.unusedSimpArgs false
set_option linter.unusedVariables false
set_option maxRecDepth 100000
namespace Go.EQ
open Go Go.NN
theorem tr_app2 {l : List HP} {h : H} {α : Type} {Q : α → H → Prop} {τ β : Type} (F : τ → β → HP) (ts : List τ) (xs : List β) (ts' : List τ) (xs' : List β) {r : List HP} {z : Option (α × H)} [tk : Takes [all2 F ts xs, all2 F ts' xs'] l r] (hl : ts.length = xs.length)
    (k : Tr (all2 F (ts ++ ts') (xs ++ xs') :: r) h z Q) : Tr l h z Q := fun o => k (Own.all2_app hl (o.perm tk.pm))
end Go.EQ

set_option linter.unusedSimpArgs false
set_option linter.unusedVariables false
set_option maxRecDepth 100000
namespace Go.EQ
open Go Go.NN
def nextC (b : Nat) (N : Nat) : HP := hex fun a : Int => sl [pt b (.cells Y_int false [int a]), pu (0 ≤ a ∧ a ≤ N)]
instance {b N : Nat} : Chk (nextC b N) (fun a : Int => [pt b (.cells Y_int false [int a]), pu (0 ≤ a ∧ a ≤ N)]) := ⟨rfl⟩
theorem tmod_in {x n : Int} (hx : 0 ≤ x) (hn : 0 < n) : 0 ≤ Int.tmod x n ∧ Int.tmod x n < n := by
  rw [Int.tmod_eq_emod_of_nonneg hx]
  exact ⟨Int.emod_nonneg _ (by omega), Int.emod_lt_of_pos _ hn⟩
section
variable (p : HP) (ro : Bool) (a : Option Addr) (c : Nat) (l : List Int) [ks : IsSl p a ro Y_int 1 l.length c (l.map int)] (b2 bl : Nat)
include ks
theorem ct_next (N : Nat) (hN : N < 1000000000) (n : Int) (hn : 0 < n) : Ct CALL F_law8_Boot_1 [int n, P0 b2, P0 bl] [nextC b2 N, pt bl (.cells Y_s_int false [.slice a l.length c]), p] fun v own =>
    ∃ z, v = int z ∧ 0 ≤ z ∧ z < n ∧ own [nextC b2 (N + 1), pt bl (.cells Y_s_int false [.slice a l.length c]), p] := by
  refine Ct.of k_law8_Boot_1 rfl fun h r => Tr.eq (e_law8_Boot_1 ..) ?_; (try simp only[nrm,nrmL,aSome_some,Nat.reduceAdd,Nat.reduceMul,Int.reduceToNat])
  refine tr_open (nextC b2 N) fun q => ?_; (try simp only[nrm,nrmL,aSome_some,Nat.reduceAdd,Nat.reduceMul,Int.reduceToNat])
  refine tr_pureAt 1 rfl fun hq => ?_
  have e1 : IntKind.wrap .i64 (q + 1) = q + 1 := by rw [wrap_eq]; omega
  have e2 : IntKind.wrap .i64 (q + 1 - 1) = q := by rw [wrap_eq]; omega
  (repeat' first|(with_reducible first|refine Ga ?_|refine Gn fun b h=>?_|apply Tr.andG|apply Tr.orG|refine Tr.xFits ?_|rintro px rfl|refine fun(h:H)=>?_|intro hb)|((with_reducible first|apply Gb|apply Gc|apply Gd|apply Ge|apply Gf|apply Gg|apply Gh|apply Gi);·first|rfl|assumption)|((with_reducible first|apply Gj|apply Gk|apply Gl|apply Gm);·first|assumption|rfl)|((with_reducible apply Tr.xV);·exact⟨Nat.le_of_ble_eq_true rfl,rfl,rfl⟩)|((with_reducible apply Tr.xAgg);·exact⟨Nat.le_of_ble_eq_true rfl,rfl⟩)|((with_reducible apply Tr.xPAgg);·exact⟨Nat.le_of_ble_eq_true rfl,rfl,rfl⟩)|((with_reducible first|refine Tr.ck ?_ ?_|apply Tr.xSome|apply Tr.xCells);·first|rfl|omega|(simp only[gnd] at hb;omega))|((with_reducible refine Tr.same ?_ ?_);·first|exact sameV_sl _ _ _|exact sameV_ptr _|exact sameV_int _ _|exact sameV_bool _|exact sameV_str _)|((with_reducible apply Tr.xCellsB);·exact⟨Nat.le_of_ble_eq_true rfl,rfl⟩)|((with_reducible apply Tr.asBytes);·exact bytesN1_byteCells _)|(refine Tr.some fun _=>?_;exact⟨rfl,rfl⟩)|fail)
  rw [e1]
  by_cases hlt : q + 1 > l.length
  · refine Tr.condT (decide_eq_true hlt) ?_
    (repeat' first|(with_reducible first|refine Ga ?_|refine Gn fun b h=>?_|apply Tr.andG|apply Tr.orG|refine Tr.xFits ?_|rintro px rfl|refine fun(h:H)=>?_|intro hb)|((with_reducible first|apply Gb|apply Gc|apply Gd|apply Ge|apply Gf|apply Gg|apply Gh|apply Gi);·first|rfl|assumption)|((with_reducible first|apply Gj|apply Gk|apply Gl|apply Gm);·first|assumption|rfl)|((with_reducible apply Tr.xV);·exact⟨Nat.le_of_ble_eq_true rfl,rfl,rfl⟩)|((with_reducible apply Tr.xAgg);·exact⟨Nat.le_of_ble_eq_true rfl,rfl⟩)|((with_reducible apply Tr.xPAgg);·exact⟨Nat.le_of_ble_eq_true rfl,rfl,rfl⟩)|((with_reducible first|refine Tr.ck ?_ ?_|apply Tr.xSome|apply Tr.xCells);·first|rfl|omega|(simp only[gnd] at hb;omega))|((with_reducible refine Tr.same ?_ ?_);·first|exact sameV_sl _ _ _|exact sameV_ptr _|exact sameV_int _ _|exact sameV_bool _|exact sameV_str _)|((with_reducible apply Tr.xCellsB);·exact⟨Nat.le_of_ble_eq_true rfl,rfl⟩)|((with_reducible apply Tr.asBytes);·exact bytesN1_byteCells _)|(refine Tr.some fun _=>?_;exact⟨rfl,rfl⟩)|fail)
    obtain ⟨h1, h2⟩ := tmod_in (show 0 ≤ q + 1 by omega) hn
    refine Tr.some fun o => ?_
    refine ⟨_, rfl, h1, h2, ?_⟩
    have o2 : Own h (pu (0 ≤ q + 1 ∧ q + 1 ≤ ((N + 1 : Nat) : Int)) :: pt b2 (.cells Y_int false [int (q + 1)]) :: _) := Own.inpure (by omega) o
    exact (Own.foldI (nextC b2 (N + 1)) (q + 1) [1, 0] o2 rfl).fin [0, 1, 1] 1 rfl rfl
  · refine Tr.condF (decide_eq_false hlt) ?_
    have hx : l[q.toNat]? = some l[q.toNat] := List.getElem?_eq_getElem (by omega)
    generalize l[q.toNat]'(by omega) = w at hx
    have hg : (l.map int)[q.toNat]? = some (.int .i64 w) := by rw [List.getElem?_map, hx]; rfl
    (repeat' first|(with_reducible first|refine Ga ?_|refine Gn fun b h=>?_|apply Tr.andG|apply Tr.orG|refine Tr.xFits ?_|rintro px rfl|refine fun(h:H)=>?_|intro hb)|((with_reducible first|apply Gb|apply Gc|apply Gd|apply Ge|apply Gf|apply Gg|apply Gh|apply Gi);·first|rfl|assumption)|((with_reducible first|apply Gj|apply Gk|apply Gl|apply Gm);·first|assumption|rfl)|((with_reducible apply Tr.xV);·exact⟨Nat.le_of_ble_eq_true rfl,rfl,rfl⟩)|((with_reducible apply Tr.xAgg);·exact⟨Nat.le_of_ble_eq_true rfl,rfl⟩)|((with_reducible apply Tr.xPAgg);·exact⟨Nat.le_of_ble_eq_true rfl,rfl,rfl⟩)|((with_reducible first|refine Tr.ck ?_ ?_|apply Tr.xSome|apply Tr.xCells);·first|rfl|omega|(simp only[gnd] at hb;omega))|((with_reducible refine Tr.same ?_ ?_);·first|exact sameV_sl _ _ _|exact sameV_ptr _|exact sameV_int _ _|exact sameV_bool _|exact sameV_str _)|((with_reducible apply Tr.xCellsB);·exact⟨Nat.le_of_ble_eq_true rfl,rfl⟩)|((with_reducible apply Tr.asBytes);·exact bytesN1_byteCells _)|(refine Tr.some fun _=>?_;exact⟨rfl,rfl⟩)|fail)
    rw [e2]
    (repeat' first|(with_reducible first|refine Ga ?_|refine Gn fun b h=>?_|apply Tr.andG|apply Tr.orG|refine Tr.xFits ?_|rintro px rfl|refine fun(h:H)=>?_|intro hb)|((with_reducible first|apply Gb|apply Gc|apply Gd|apply Ge|apply Gf|apply Gg|apply Gh|apply Gi);·first|rfl|assumption)|((with_reducible first|apply Gj|apply Gk|apply Gl|apply Gm);·first|assumption|rfl)|((with_reducible apply Tr.xV);·exact⟨Nat.le_of_ble_eq_true rfl,rfl,rfl⟩)|((with_reducible apply Tr.xAgg);·exact⟨Nat.le_of_ble_eq_true rfl,rfl⟩)|((with_reducible apply Tr.xPAgg);·exact⟨Nat.le_of_ble_eq_true rfl,rfl,rfl⟩)|((with_reducible first|refine Tr.ck ?_ ?_|apply Tr.xSome|apply Tr.xCells);·first|rfl|omega|(simp only[gnd] at hb;omega))|((with_reducible refine Tr.same ?_ ?_);·first|exact sameV_sl _ _ _|exact sameV_ptr _|exact sameV_int _ _|exact sameV_bool _|exact sameV_str _)|((with_reducible apply Tr.xCellsB);·exact⟨Nat.le_of_ble_eq_true rfl,rfl⟩)|((with_reducible apply Tr.asBytes);·exact bytesN1_byteCells _)|(refine Tr.some fun _=>?_;exact⟨rfl,rfl⟩)|fail)
    have hb : 0 ≤ bitA .i64 w 65535 := by rw [bitA_ffff]; omega
    obtain ⟨h1, h2⟩ := tmod_in hb hn
    refine Tr.some fun o => ?_
    refine ⟨_, rfl, h1, h2, ?_⟩
    have o2 : Own h (pu (0 ≤ q + 1 ∧ q + 1 ≤ ((N + 1 : Nat) : Int)) :: pt b2 (.cells Y_int false [int (q + 1)]) :: _) := Own.inpure (by omega) o
    exact (Own.foldI (nextC b2 (N + 1)) (q + 1) [1, 0] o2 rfl).fin [0, 1, 1] 1 rfl rfl
structure RB (B : BootS) : Prop where
  frames : 1 ≤ B.frames.length ∧ B.frames.length ≤ 3
  frame : ∀ f ∈ B.frames, 1 ≤ f ∧ f ≤ 4
  env : ∀ s ∈ B.envs, 0 ≤ s ∧ s < B.frames.length
  sect : ∀ q ∈ B.sects, q.length = 2 ∧ ∀ s ∈ q, 0 ≤ s ∧ s < B.frames.length
  lease : 1 ≤ B.lease ∧ B.lease ≤ 6
  share : ∀ q ∈ B.shared, 0 ≤ q.session ∧ q.session < B.frames.length ∧ q.to.length = 2 ∧ (∀ s ∈ q.to, 0 ≤ s ∧ s < B.frames.length) ∧ 0 ≤ q.frame ∧ 0 ≤ q.lo ∧ 0 ≤ q.n ∧ ∃ f, B.frames[q.session.toNat]? = some f ∧ q.frame < f ∧ q.lo + q.n ≤ 64 * (f - q.frame)
abbrev z5 : List Value := [.slice none 0 0, .slice none 0 0, .slice none 0 0, int 0, .slice none 0 0]
abbrev btF (b3 x2 N : Nat) (B : BootS) (A : BA) : List HP := pt b3 (.cells Y_api_Boot false (bootL B A)) :: (bootF false B A ++ [nextC b2 N, pt bl (.cells Y_s_int false [.slice a l.length c]), p, pt x2 (.cells Y_api_Boot false z5)])
def btΦ (v : Value) (own : List HP → Prop) : Prop := ∃ (B : BootS) (A : BA), RB B ∧ B.envs.length = 5 ∧ B.sects.length = 2 ∧ B.shared.length = 3 ∧ BaOk B A ∧ v = .agg ⟨bootL B A⟩ ∧ own (bootF false B A ++ [p])
theorem bt_L4 (b3 x2 : Nat) : ∀ (m i N : Nat) (B : BootS) (A : BA), 3 - i = m → i ≤ 3 → N ≤ 1000 + 6 * i → RB B → B.envs.length = 5 → B.sects.length = 2 → B.shared.length = i → BaOk B A →
    CtJ JUMP F_law8_Boot T_law8_Boot_L4 [(2, P0 x2), (4, .func (.func F_law8_Boot_1) ⟨[]⟩ ⟨[P0 b2, P0 bl]⟩), (5, P0 b3), (6, int B.frames.length), (10, int i)] (btF p a c l b2 bl b3 x2 N B A) (btΦ p) := by
  intro m
  induction m with
  | zero =>
    intro i N B A hm hi hN rb h5 h2 h3 ba
    obtain rfl : i = 3 := by omega
    refine CtJ.of k_law8_Boot fun h r => Tr.eq (e_law8_Boot_L4 ..) ?_; (try simp only[nrm,nrmL,aSome_some,Nat.reduceAdd,Nat.reduceMul,Int.reduceToNat])
    refine Tr.condF (by simp) ?_
    (repeat' first|(with_reducible first|refine Ga ?_|refine Gn fun b h=>?_|refine Tr.xFits ?_|rintro px rfl|refine fun(h:H)=>?_|intro hb)|((with_reducible first|apply Gb|apply Gc|apply Gd|apply Ge|apply Gf|apply Gg|apply Gh|apply Gi);·first|rfl|assumption)|((with_reducible first|apply Gj|apply Gk|apply Gl|apply Gm);·first|assumption|rfl)|((with_reducible apply Tr.xV);·exact⟨Nat.le_of_ble_eq_true rfl,rfl,rfl⟩)|((with_reducible apply Tr.xAgg);·exact⟨Nat.le_of_ble_eq_true rfl,rfl⟩)|((with_reducible apply Tr.xPAgg);·exact⟨Nat.le_of_ble_eq_true rfl,rfl,rfl⟩)|((with_reducible first|refine Tr.ck ?_ ?_|apply Tr.xSome|apply Tr.xCells);·first|rfl|omega|(simp only[gnd] at hb;omega))|((with_reducible refine Tr.same ?_ ?_);·first|exact sameV_sl _ _ _|exact sameV_ptr _|exact sameV_int _ _|exact sameV_bool _|exact sameV_str _)|((with_reducible apply Tr.xCellsB);·exact⟨Nat.le_of_ble_eq_true rfl,rfl⟩)|((with_reducible apply Tr.asBytes);·exact bytesN1_byteCells _)|(refine Tr.some fun _=>?_;exact⟨rfl,rfl⟩)|fail)
    refine Tr.some fun o => ?_
    exact ⟨B, A, rb, h5, h2, h3, ba, rfl, o.fin [1, 1, 1, 1, 1, 1, 3] 4 rfl rfl⟩
  | succ m ih =>
    intro i N B A hm hi hN rb h5 h2 h3 ba
    obtain ⟨F, E, Sx, le, Hs⟩ := B
    obtain ⟨fa, fc, ea, ec, sa, sc, ss, ha, hc, hs⟩ := A
    have khs := ba.hs
    have hf := rb.frames
    simp only at h5 h2 h3 khs hf
    have e1 : IntKind.wrap .i64 ((i : Int) + 1) = ((i + 1 : Nat) : Int) := by rw [wrap_eq]; omega
    refine CtJ.of k_law8_Boot fun h r => Tr.eq (e_law8_Boot_L4 ..) ?_; (try simp only[nrm,nrmL,aSome_some,Nat.reduceAdd,Nat.reduceMul,Int.reduceToNat])
    refine Tr.condT (by simp; omega) ?_
    refine Tr.xCall (ct_next p ro a c l b2 bl N (by omega) (F.length : Int) (by omega)) ?_; rintro _ h ⟨z1, rfl, hz1, hz1', o⟩ <;> (refine (?_ : Tr _ _ _ _) o; (try simp only[nrm,nrmL,aSome_some,Nat.reduceAdd,Nat.reduceMul,Int.reduceToNat]); (repeat' first|(with_reducible first|refine Ga ?_|refine Gn fun b h=>?_|refine Tr.xFits ?_|rintro px rfl|refine fun(h:H)=>?_|intro hb)|((with_reducible first|apply Gb|apply Gc|apply Gd|apply Ge|apply Gf|apply Gg|apply Gh|apply Gi);·first|rfl|assumption)|((with_reducible first|apply Gj|apply Gk|apply Gl|apply Gm);·first|assumption|rfl)|((with_reducible apply Tr.xV);·exact⟨Nat.le_of_ble_eq_true rfl,rfl,rfl⟩)|((with_reducible apply Tr.xAgg);·exact⟨Nat.le_of_ble_eq_true rfl,rfl⟩)|((with_reducible apply Tr.xPAgg);·exact⟨Nat.le_of_ble_eq_true rfl,rfl,rfl⟩)|((with_reducible first|refine Tr.ck ?_ ?_|apply Tr.xSome|apply Tr.xCells);·first|rfl|omega|(simp only[gnd] at hb;omega))|((with_reducible refine Tr.same ?_ ?_);·first|exact sameV_sl _ _ _|exact sameV_ptr _|exact sameV_int _ _|exact sameV_bool _|exact sameV_str _)|((with_reducible apply Tr.xCellsB);·exact⟨Nat.le_of_ble_eq_true rfl,rfl⟩)|((with_reducible apply Tr.asBytes);·exact bytesN1_byteCells _)|(refine Tr.some fun _=>?_;exact⟨rfl,rfl⟩)|fail))
    refine Tr.xCall (ct_next p ro a c l b2 bl (N + 1) (by omega) (F.length : Int) (by omega)) ?_; rintro _ h ⟨z2, rfl, hz2, hz2', o⟩ <;> (refine (?_ : Tr _ _ _ _) o; (try simp only[nrm,nrmL,aSome_some,Nat.reduceAdd,Nat.reduceMul,Int.reduceToNat]); (repeat' first|(with_reducible first|refine Ga ?_|refine Gn fun b h=>?_|refine Tr.xFits ?_|rintro px rfl|refine fun(h:H)=>?_|intro hb)|((with_reducible first|apply Gb|apply Gc|apply Gd|apply Ge|apply Gf|apply Gg|apply Gh|apply Gi);·first|rfl|assumption)|((with_reducible first|apply Gj|apply Gk|apply Gl|apply Gm);·first|assumption|rfl)|((with_reducible apply Tr.xV);·exact⟨Nat.le_of_ble_eq_true rfl,rfl,rfl⟩)|((with_reducible apply Tr.xAgg);·exact⟨Nat.le_of_ble_eq_true rfl,rfl⟩)|((with_reducible apply Tr.xPAgg);·exact⟨Nat.le_of_ble_eq_true rfl,rfl,rfl⟩)|((with_reducible first|refine Tr.ck ?_ ?_|apply Tr.xSome|apply Tr.xCells);·first|rfl|omega|(simp only[gnd] at hb;omega))|((with_reducible refine Tr.same ?_ ?_);·first|exact sameV_sl _ _ _|exact sameV_ptr _|exact sameV_int _ _|exact sameV_bool _|exact sameV_str _)|((with_reducible apply Tr.xCellsB);·exact⟨Nat.le_of_ble_eq_true rfl,rfl⟩)|((with_reducible apply Tr.asBytes);·exact bytesN1_byteCells _)|(refine Tr.some fun _=>?_;exact⟨rfl,rfl⟩)|fail))
    refine Tr.xCall (ct_next p ro a c l b2 bl (N + 1 + 1) (by omega) (F.length : Int) (by omega)) ?_; rintro _ h ⟨z3, rfl, hz3, hz3', o⟩ <;> (refine (?_ : Tr _ _ _ _) o; (try simp only[nrm,nrmL,aSome_some,Nat.reduceAdd,Nat.reduceMul,Int.reduceToNat]))
    refine Ga ?_
    refine Tr.nw fun b4 h4 => ?_
    (repeat' first|(with_reducible first|refine Ga ?_|refine Gn fun b h=>?_|refine Tr.xFits ?_|rintro px rfl|refine fun(h:H)=>?_|intro hb)|((with_reducible first|apply Gb|apply Gc|apply Gd|apply Ge|apply Gf|apply Gg|apply Gh|apply Gi);·first|rfl|assumption)|((with_reducible first|apply Gj|apply Gk|apply Gl|apply Gm);·first|assumption|rfl)|((with_reducible apply Tr.xV);·exact⟨Nat.le_of_ble_eq_true rfl,rfl,rfl⟩)|((with_reducible apply Tr.xAgg);·exact⟨Nat.le_of_ble_eq_true rfl,rfl⟩)|((with_reducible apply Tr.xPAgg);·exact⟨Nat.le_of_ble_eq_true rfl,rfl,rfl⟩)|((with_reducible first|refine Tr.ck ?_ ?_|apply Tr.xSome|apply Tr.xCells);·first|rfl|omega|(simp only[gnd] at hb;omega))|((with_reducible refine Tr.same ?_ ?_);·first|exact sameV_sl _ _ _|exact sameV_ptr _|exact sameV_int _ _|exact sameV_bool _|exact sameV_str _)|((with_reducible apply Tr.xCellsB);·exact⟨Nat.le_of_ble_eq_true rfl,rfl⟩)|((with_reducible apply Tr.asBytes);·exact bytesN1_byteCells _)|(refine Tr.some fun _=>?_;exact⟨rfl,rfl⟩)|fail)
    have hlt : z1.toNat < F.length := by omega
    have hx : F[z1.toNat]? = some F[z1.toNat] := List.getElem?_eq_getElem hlt
    have hfz := rb.frame F[z1.toNat] (List.getElem_mem hlt)
    generalize F[z1.toNat] = f at hx hfz
    have hg : (F.map int)[z1.toNat]? = some (.int .i64 f) := by rw [List.getElem?_map, hx]; rfl
    simp only [List.length_cons, List.length_nil]
    (try simp only[nrm,nrmL,aSome_some,Nat.reduceAdd,Nat.reduceMul,Int.reduceToNat])
    (repeat' first|(with_reducible first|refine Ga ?_|refine Gn fun b h=>?_|refine Tr.xFits ?_|rintro px rfl|refine fun(h:H)=>?_|intro hb)|((with_reducible first|apply Gb|apply Gc|apply Gd|apply Ge|apply Gf|apply Gg|apply Gh|apply Gi);·first|rfl|assumption)|((with_reducible first|apply Gj|apply Gk|apply Gl|apply Gm);·first|assumption|rfl)|((with_reducible apply Tr.xV);·exact⟨Nat.le_of_ble_eq_true rfl,rfl,rfl⟩)|((with_reducible apply Tr.xAgg);·exact⟨Nat.le_of_ble_eq_true rfl,rfl⟩)|((with_reducible apply Tr.xPAgg);·exact⟨Nat.le_of_ble_eq_true rfl,rfl,rfl⟩)|((with_reducible first|refine Tr.ck ?_ ?_|apply Tr.xSome|apply Tr.xCells);·first|rfl|omega|(simp only[gnd] at hb;omega))|((with_reducible refine Tr.same ?_ ?_);·first|exact sameV_sl _ _ _|exact sameV_ptr _|exact sameV_int _ _|exact sameV_bool _|exact sameV_str _)|((with_reducible apply Tr.xCellsB);·exact⟨Nat.le_of_ble_eq_true rfl,rfl⟩)|((with_reducible apply Tr.asBytes);·exact bytesN1_byteCells _)|(refine Tr.some fun _=>?_;exact⟨rfl,rfl⟩)|fail)
    refine Tr.xCall (ct_next p ro a c l b2 bl (N + 1 + 1 + 1) (by omega) f (by omega)) ?_; rintro _ h ⟨z4, rfl, hz4, hz4', o⟩ <;> (refine (?_ : Tr _ _ _ _) o; (try simp only[nrm,nrmL,aSome_some,Nat.reduceAdd,Nat.reduceMul,Int.reduceToNat]); (repeat' first|(with_reducible first|refine Ga ?_|refine Gn fun b h=>?_|refine Tr.xFits ?_|rintro px rfl|refine fun(h:H)=>?_|intro hb)|((with_reducible first|apply Gb|apply Gc|apply Gd|apply Ge|apply Gf|apply Gg|apply Gh|apply Gi);·first|rfl|assumption)|((with_reducible first|apply Gj|apply Gk|apply Gl|apply Gm);·first|assumption|rfl)|((with_reducible apply Tr.xV);·exact⟨Nat.le_of_ble_eq_true rfl,rfl,rfl⟩)|((with_reducible apply Tr.xAgg);·exact⟨Nat.le_of_ble_eq_true rfl,rfl⟩)|((with_reducible apply Tr.xPAgg);·exact⟨Nat.le_of_ble_eq_true rfl,rfl,rfl⟩)|((with_reducible first|refine Tr.ck ?_ ?_|apply Tr.xSome|apply Tr.xCells);·first|rfl|omega|(simp only[gnd] at hb;omega))|((with_reducible refine Tr.same ?_ ?_);·first|exact sameV_sl _ _ _|exact sameV_ptr _|exact sameV_int _ _|exact sameV_bool _|exact sameV_str _)|((with_reducible apply Tr.xCellsB);·exact⟨Nat.le_of_ble_eq_true rfl,rfl⟩)|((with_reducible apply Tr.asBytes);·exact bytesN1_byteCells _)|(refine Tr.some fun _=>?_;exact⟨rfl,rfl⟩)|fail))
    refine Tr.xCall (ct_next p ro a c l b2 bl (N + 1 + 1 + 1 + 1) (by omega) 30 (by omega)) ?_; rintro _ h ⟨z5, rfl, hz5, hz5', o⟩ <;> (refine (?_ : Tr _ _ _ _) o; (try simp only[nrm,nrmL,aSome_some,Nat.reduceAdd,Nat.reduceMul,Int.reduceToNat]); (repeat' first|(with_reducible first|refine Ga ?_|refine Gn fun b h=>?_|refine Tr.xFits ?_|rintro px rfl|refine fun(h:H)=>?_|intro hb)|((with_reducible first|apply Gb|apply Gc|apply Gd|apply Ge|apply Gf|apply Gg|apply Gh|apply Gi);·first|rfl|assumption)|((with_reducible first|apply Gj|apply Gk|apply Gl|apply Gm);·first|assumption|rfl)|((with_reducible apply Tr.xV);·exact⟨Nat.le_of_ble_eq_true rfl,rfl,rfl⟩)|((with_reducible apply Tr.xAgg);·exact⟨Nat.le_of_ble_eq_true rfl,rfl⟩)|((with_reducible apply Tr.xPAgg);·exact⟨Nat.le_of_ble_eq_true rfl,rfl,rfl⟩)|((with_reducible first|refine Tr.ck ?_ ?_|apply Tr.xSome|apply Tr.xCells);·first|rfl|omega|(simp only[gnd] at hb;omega))|((with_reducible refine Tr.same ?_ ?_);·first|exact sameV_sl _ _ _|exact sameV_ptr _|exact sameV_int _ _|exact sameV_bool _|exact sameV_str _)|((with_reducible apply Tr.xCellsB);·exact⟨Nat.le_of_ble_eq_true rfl,rfl⟩)|((with_reducible apply Tr.asBytes);·exact bytesN1_byteCells _)|(refine Tr.some fun _=>?_;exact⟨rfl,rfl⟩)|fail))
    dsimp only
    (repeat' first|(with_reducible first|refine Ga ?_|refine Gn fun b h=>?_|refine Tr.xFits ?_|rintro px rfl|refine fun(h:H)=>?_|intro hb)|((with_reducible first|apply Gb|apply Gc|apply Gd|apply Ge|apply Gf|apply Gg|apply Gh|apply Gi);·first|rfl|assumption)|((with_reducible first|apply Gj|apply Gk|apply Gl|apply Gm);·first|assumption|rfl)|((with_reducible apply Tr.xV);·exact⟨Nat.le_of_ble_eq_true rfl,rfl,rfl⟩)|((with_reducible apply Tr.xAgg);·exact⟨Nat.le_of_ble_eq_true rfl,rfl⟩)|((with_reducible apply Tr.xPAgg);·exact⟨Nat.le_of_ble_eq_true rfl,rfl,rfl⟩)|((with_reducible first|refine Tr.ck ?_ ?_|apply Tr.xSome|apply Tr.xCells);·first|rfl|omega|(simp only[gnd] at hb;omega))|((with_reducible refine Tr.same ?_ ?_);·first|exact sameV_sl _ _ _|exact sameV_ptr _|exact sameV_int _ _|exact sameV_bool _|exact sameV_str _)|((with_reducible apply Tr.xCellsB);·exact⟨Nat.le_of_ble_eq_true rfl,rfl⟩)|((with_reducible apply Tr.asBytes);·exact bytesN1_byteCells _)|(refine Tr.some fun _=>?_;exact⟨rfl,rfl⟩)|fail)
    have ew : IntKind.wrap .i64 (IntKind.wrap .i64 (IntKind.wrap .i64 (64 * IntKind.wrap .i64 (f - z4)) - z5) + 1) = 64 * (f - z4) - z5 + 1 := by
      rw [wrap_eq, wrap_eq, wrap_eq, wrap_eq]; omega
    rw [ew]
    refine Tr.xCall (ct_next p ro a c l b2 bl (N + 1 + 1 + 1 + 1 + 1) (by omega) (64 * (f - z4) - z5 + 1) (by omega)) ?_; rintro _ h ⟨z6, rfl, hz6, hz6', o⟩ <;> (refine (?_ : Tr _ _ _ _) o; (try simp only[nrm,nrmL,aSome_some,Nat.reduceAdd,Nat.reduceMul,Int.reduceToNat]); (repeat' first|(with_reducible first|refine Ga ?_|refine Gn fun b h=>?_|refine Tr.xFits ?_|rintro px rfl|refine fun(h:H)=>?_|intro hb)|((with_reducible first|apply Gb|apply Gc|apply Gd|apply Ge|apply Gf|apply Gg|apply Gh|apply Gi);·first|rfl|assumption)|((with_reducible first|apply Gj|apply Gk|apply Gl|apply Gm);·first|assumption|rfl)|((with_reducible apply Tr.xV);·exact⟨Nat.le_of_ble_eq_true rfl,rfl,rfl⟩)|((with_reducible apply Tr.xAgg);·exact⟨Nat.le_of_ble_eq_true rfl,rfl⟩)|((with_reducible apply Tr.xPAgg);·exact⟨Nat.le_of_ble_eq_true rfl,rfl,rfl⟩)|((with_reducible first|refine Tr.ck ?_ ?_|apply Tr.xSome|apply Tr.xCells);·first|rfl|omega|(simp only[gnd] at hb;omega))|((with_reducible refine Tr.same ?_ ?_);·first|exact sameV_sl _ _ _|exact sameV_ptr _|exact sameV_int _ _|exact sameV_bool _|exact sameV_str _)|((with_reducible apply Tr.xCellsB);·exact⟨Nat.le_of_ble_eq_true rfl,rfl⟩)|((with_reducible apply Tr.asBytes);·exact bytesN1_byteCells _)|(refine Tr.some fun _=>?_;exact⟨rfl,rfl⟩)|fail))
    refine Tr.xApd ?_ (fun a' c' h => ?_)
    · exact ⟨by first | rfl | simp, by first | rfl | simp, by simp only [most]; omega⟩
    (try simp only[nrm,nrmL,aSome_some,Nat.reduceAdd,Nat.reduceMul,Int.reduceToNat])
    (repeat' first|(with_reducible first|refine Ga ?_|refine Gn fun b h=>?_|refine Tr.xFits ?_|rintro px rfl|refine fun(h:H)=>?_|intro hb)|((with_reducible first|apply Gb|apply Gc|apply Gd|apply Ge|apply Gf|apply Gg|apply Gh|apply Gi);·first|rfl|assumption)|((with_reducible first|apply Gj|apply Gk|apply Gl|apply Gm);·first|assumption|rfl)|((with_reducible apply Tr.xV);·exact⟨Nat.le_of_ble_eq_true rfl,rfl,rfl⟩)|((with_reducible apply Tr.xAgg);·exact⟨Nat.le_of_ble_eq_true rfl,rfl⟩)|((with_reducible apply Tr.xPAgg);·exact⟨Nat.le_of_ble_eq_true rfl,rfl,rfl⟩)|((with_reducible first|refine Tr.ck ?_ ?_|apply Tr.xSome|apply Tr.xCells);·first|rfl|omega|(simp only[gnd] at hb;omega))|((with_reducible refine Tr.same ?_ ?_);·first|exact sameV_sl _ _ _|exact sameV_ptr _|exact sameV_int _ _|exact sameV_bool _|exact sameV_str _)|((with_reducible apply Tr.xCellsB);·exact⟨Nat.le_of_ble_eq_true rfl,rfl⟩)|((with_reducible apply Tr.asBytes);·exact bytesN1_byteCells _)|(refine Tr.some fun _=>?_;exact⟨rfl,rfl⟩)|fail)
    have hxl : (List.zip (hs ++ [((some ⟨b4, 0, none⟩, 2) : Option Addr × Nat)]) (Hs ++ [(⟨z1, z4, z5, z6, [z2, z3]⟩ : ShareS)])).flatMap shareL = (List.zip hs Hs).flatMap shareL ++ [int z1, int z4, int z5, int z6, .slice (some ⟨b4, 0, none⟩) 2 2] := by
      rw [List.zip_append khs, List.flatMap_append]; rfl
    have rb2 : RB ⟨F, E, Sx, le, Hs ++ [⟨z1, z4, z5, z6, [z2, z3]⟩]⟩ := ⟨rb.frames, rb.frame, rb.env, rb.sect, rb.lease, fun q hq => by
      rcases List.mem_append.1 hq with hq | hq
      · exact rb.share q hq
      · simp only [List.mem_singleton] at hq
        subst hq
        refine ⟨hz1, hz1', rfl, fun s hs => ?_, hz4, hz5, hz6, f, hx, hz4', by dsimp only; omega⟩
        simp only [List.mem_cons, List.not_mem_nil, or_false] at hs
        rcases hs with rfl | rfl
        · exact ⟨hz2, hz2'⟩
        · exact ⟨hz3, hz3'⟩⟩
    have ih1 := ih (i + 1) (N + 1 + 1 + 1 + 1 + 1 + 1) ⟨F, E, Sx, le, Hs ++ [⟨z1, z4, z5, z6, [z2, z3]⟩]⟩ ⟨some px, fc, ea, ec, sa, sc, ss, a', c', hs ++ [(some ⟨b4, 0, none⟩, 2)]⟩ (by omega) (by omega) (by omega) rb2 h5 h2 (by simp [h3]) ⟨ba.ss, by simp [khs]⟩
    unfold btF bootF bootL at ih1
    simp only [hxl, List.length_append, List.length_cons, List.length_nil] at ih1
    refine tr_asSl 5 rfl 1 2 rfl (by omega) ?_; (try simp only[nrm,nrmL,aSome_some,Nat.reduceAdd,Nat.reduceMul,Int.reduceToNat])
    refine tr_one2 (toC false) (some ⟨b4, 0, none⟩, 2) (⟨z1, z4, z5, z6, [z2, z3]⟩ : ShareS) (r := []) 5 rfl ?_; (try simp only[nrm,nrmL,aSome_some,Nat.reduceAdd,Nat.reduceMul,Int.reduceToNat])
    refine tr_app2 (toC false) hs Hs [(some ⟨b4, 0, none⟩, 2)] [(⟨z1, z4, z5, z6, [z2, z3]⟩ : ShareS)] khs ?_; (try simp only[nrm,nrmL,aSome_some,Nat.reduceAdd,Nat.reduceMul,Int.reduceToNat])
    rw [e1]
    refine tr_runI ih1 [6, 6, 6, 6, 6, 6, 0, 1, 1, 1, 2] rfl ?_
    rintro v h ⟨B, A, k1, k2, k3, k4, k5, rfl, o⟩
    exact ⟨B, A, k1, k2, k3, k4, k5, rfl, (show Own h (bootF false B A ++ [p] ++ (_ :: _ :: r)) from o).sub⟩
theorem bt_L3 (b3 x2 : Nat) : ∀ (m i N : Nat) (B : BootS) (A : BA), 2 - i = m → i ≤ 2 → N ≤ 900 + 2 * i → RB B → B.envs.length = 5 → B.sects.length = i → B.shared = [] → BaOk B A →
    CtJ JUMP F_law8_Boot T_law8_Boot_L3 [(2, P0 x2), (4, .func (.func F_law8_Boot_1) ⟨[]⟩ ⟨[P0 b2, P0 bl]⟩), (5, P0 b3), (6, int B.frames.length), (9, int i)] (btF p a c l b2 bl b3 x2 N B A) (btΦ p) := by
  intro m
  induction m with
  | zero =>
    intro i N B A hm hi hN rb h5 h2 h3 ba
    obtain rfl : i = 2 := by omega
    refine CtJ.of k_law8_Boot fun h r => Tr.eq (e_law8_Boot_L3 ..) ?_; (try simp only[nrm,nrmL,aSome_some,Nat.reduceAdd,Nat.reduceMul,Int.reduceToNat])
    refine Tr.condF (by simp) ?_
    refine Tr.xRun (bt_L4 p ro a c l b2 bl b3 x2 3 0 N B A rfl (by omega) (by omega) rb h5 h2 (by rw [h3]; rfl) ba) ?_; rintro _ h ⟨B, A, k1, k2, k3, k4, k5, rfl, o⟩
    exact ⟨B, A, k1, k2, k3, k4, k5, rfl, o.sub⟩
  | succ m ih =>
    intro i N B A hm hi hN rb h5 h2 h3 ba
    obtain ⟨F, E, Sx, le, Hs⟩ := B
    obtain ⟨fa, fc, ea, ec, sa, sc, ss, ha, hc, hs⟩ := A
    have khs := ba.ss
    have hf := rb.frames
    simp only at h5 h2 h3 khs hf
    have e1 : IntKind.wrap .i64 ((i : Int) + 1) = ((i + 1 : Nat) : Int) := by rw [wrap_eq]; omega
    refine CtJ.of k_law8_Boot fun h r => Tr.eq (e_law8_Boot_L3 ..) ?_; (try simp only[nrm,nrmL,aSome_some,Nat.reduceAdd,Nat.reduceMul,Int.reduceToNat])
    refine Tr.condT (by simp; omega) ?_
    (repeat' first|(with_reducible first|refine Ga ?_|refine Gn fun b h=>?_|refine Tr.xFits ?_|rintro px rfl|refine fun(h:H)=>?_|intro hb)|((with_reducible first|apply Gb|apply Gc|apply Gd|apply Ge|apply Gf|apply Gg|apply Gh|apply Gi);·first|rfl|assumption)|((with_reducible first|apply Gj|apply Gk|apply Gl|apply Gm);·first|assumption|rfl)|((with_reducible apply Tr.xV);·exact⟨Nat.le_of_ble_eq_true rfl,rfl,rfl⟩)|((with_reducible apply Tr.xAgg);·exact⟨Nat.le_of_ble_eq_true rfl,rfl⟩)|((with_reducible apply Tr.xPAgg);·exact⟨Nat.le_of_ble_eq_true rfl,rfl,rfl⟩)|((with_reducible first|refine Tr.ck ?_ ?_|apply Tr.xSome|apply Tr.xCells);·first|rfl|omega|(simp only[gnd] at hb;omega))|((with_reducible refine Tr.same ?_ ?_);·first|exact sameV_sl _ _ _|exact sameV_ptr _|exact sameV_int _ _|exact sameV_bool _|exact sameV_str _)|((with_reducible apply Tr.xCellsB);·exact⟨Nat.le_of_ble_eq_true rfl,rfl⟩)|((with_reducible apply Tr.asBytes);·exact bytesN1_byteCells _)|(refine Tr.some fun _=>?_;exact⟨rfl,rfl⟩)|fail)
    refine Tr.xCall (ct_next p ro a c l b2 bl N (by omega) (F.length : Int) (by omega)) ?_; rintro _ h ⟨z1, rfl, hz1, hz1', o⟩ <;> (refine (?_ : Tr _ _ _ _) o; (try simp only[nrm,nrmL,aSome_some,Nat.reduceAdd,Nat.reduceMul,Int.reduceToNat]); (repeat' first|(with_reducible first|refine Ga ?_|refine Gn fun b h=>?_|refine Tr.xFits ?_|rintro px rfl|refine fun(h:H)=>?_|intro hb)|((with_reducible first|apply Gb|apply Gc|apply Gd|apply Ge|apply Gf|apply Gg|apply Gh|apply Gi);·first|rfl|assumption)|((with_reducible first|apply Gj|apply Gk|apply Gl|apply Gm);·first|assumption|rfl)|((with_reducible apply Tr.xV);·exact⟨Nat.le_of_ble_eq_true rfl,rfl,rfl⟩)|((with_reducible apply Tr.xAgg);·exact⟨Nat.le_of_ble_eq_true rfl,rfl⟩)|((with_reducible apply Tr.xPAgg);·exact⟨Nat.le_of_ble_eq_true rfl,rfl,rfl⟩)|((with_reducible first|refine Tr.ck ?_ ?_|apply Tr.xSome|apply Tr.xCells);·first|rfl|omega|(simp only[gnd] at hb;omega))|((with_reducible refine Tr.same ?_ ?_);·first|exact sameV_sl _ _ _|exact sameV_ptr _|exact sameV_int _ _|exact sameV_bool _|exact sameV_str _)|((with_reducible apply Tr.xCellsB);·exact⟨Nat.le_of_ble_eq_true rfl,rfl⟩)|((with_reducible apply Tr.asBytes);·exact bytesN1_byteCells _)|(refine Tr.some fun _=>?_;exact⟨rfl,rfl⟩)|fail))
    refine Tr.xCall (ct_next p ro a c l b2 bl (N + 1) (by omega) (F.length : Int) (by omega)) ?_; rintro _ h ⟨z2, rfl, hz2, hz2', o⟩ <;> (refine (?_ : Tr _ _ _ _) o; (try simp only[nrm,nrmL,aSome_some,Nat.reduceAdd,Nat.reduceMul,Int.reduceToNat]))
    refine Ga ?_
    refine Tr.xSl rfl ?_
    refine Tr.same (sameV_sl _ _ _) ?_
    refine Tr.nw fun b4 g4 => ?_
    refine Tr.nw fun b5 g5 => ?_
    (repeat' first|(with_reducible first|refine Ga ?_|refine Gn fun b h=>?_|refine Tr.xFits ?_|rintro px rfl|refine fun(h:H)=>?_|intro hb)|((with_reducible first|apply Gb|apply Gc|apply Gd|apply Ge|apply Gf|apply Gg|apply Gh|apply Gi);·first|rfl|assumption)|((with_reducible first|apply Gj|apply Gk|apply Gl|apply Gm);·first|assumption|rfl)|((with_reducible apply Tr.xV);·exact⟨Nat.le_of_ble_eq_true rfl,rfl,rfl⟩)|((with_reducible apply Tr.xAgg);·exact⟨Nat.le_of_ble_eq_true rfl,rfl⟩)|((with_reducible apply Tr.xPAgg);·exact⟨Nat.le_of_ble_eq_true rfl,rfl,rfl⟩)|((with_reducible first|refine Tr.ck ?_ ?_|apply Tr.xSome|apply Tr.xCells);·first|rfl|omega|(simp only[gnd] at hb;omega))|((with_reducible refine Tr.same ?_ ?_);·first|exact sameV_sl _ _ _|exact sameV_ptr _|exact sameV_int _ _|exact sameV_bool _|exact sameV_str _)|((with_reducible apply Tr.xCellsB);·exact⟨Nat.le_of_ble_eq_true rfl,rfl⟩)|((with_reducible apply Tr.asBytes);·exact bytesN1_byteCells _)|(refine Tr.some fun _=>?_;exact⟨rfl,rfl⟩)|fail)
    refine Tr.xApd ?_ (fun a' c' h => ?_)
    · exact ⟨by first | rfl | simp, by first | rfl | simp, by simp only [most]; omega⟩
    (try simp only[nrm,nrmL,aSome_some,Nat.reduceAdd,Nat.reduceMul,Int.reduceToNat])
    (repeat' first|(with_reducible first|refine Ga ?_|refine Gn fun b h=>?_|refine Tr.xFits ?_|rintro px rfl|refine fun(h:H)=>?_|intro hb)|((with_reducible first|apply Gb|apply Gc|apply Gd|apply Ge|apply Gf|apply Gg|apply Gh|apply Gi);·first|rfl|assumption)|((with_reducible first|apply Gj|apply Gk|apply Gl|apply Gm);·first|assumption|rfl)|((with_reducible apply Tr.xV);·exact⟨Nat.le_of_ble_eq_true rfl,rfl,rfl⟩)|((with_reducible apply Tr.xAgg);·exact⟨Nat.le_of_ble_eq_true rfl,rfl⟩)|((with_reducible apply Tr.xPAgg);·exact⟨Nat.le_of_ble_eq_true rfl,rfl,rfl⟩)|((with_reducible first|refine Tr.ck ?_ ?_|apply Tr.xSome|apply Tr.xCells);·first|rfl|omega|(simp only[gnd] at hb;omega))|((with_reducible refine Tr.same ?_ ?_);·first|exact sameV_sl _ _ _|exact sameV_ptr _|exact sameV_int _ _|exact sameV_bool _|exact sameV_str _)|((with_reducible apply Tr.xCellsB);·exact⟨Nat.le_of_ble_eq_true rfl,rfl⟩)|((with_reducible apply Tr.asBytes);·exact bytesN1_byteCells _)|(refine Tr.some fun _=>?_;exact⟨rfl,rfl⟩)|fail)
    have hxl : intsV (ss ++ [((some ⟨b4, 0, none⟩, 2) : Option Addr × Nat)]) (Sx ++ [([z1, z2] : List Int)]) = intsV ss Sx ++ [.slice (some ⟨b4, 0, none⟩) 2 2] := by
      unfold intsV; rw [List.zipWith_append khs]; rfl
    have rb2 : RB ⟨F, E, Sx ++ [[z1, z2]], le, Hs⟩ := ⟨rb.frames, rb.frame, rb.env, fun q hq => by
      rcases List.mem_append.1 hq with hq | hq
      · exact rb.sect q hq
      · simp only [List.mem_singleton] at hq
        subst hq
        refine ⟨rfl, fun s hs => ?_⟩
        simp only [List.mem_cons, List.not_mem_nil, or_false] at hs
        rcases hs with rfl | rfl
        · exact ⟨hz1, hz1'⟩
        · exact ⟨hz2, hz2'⟩, rb.lease, rb.share⟩
    have ih1 := ih (i + 1) (N + 1 + 1) ⟨F, E, Sx ++ [[z1, z2]], le, Hs⟩ ⟨fa, fc, ea, ec, a', c', ss ++ [(some ⟨b4, 0, none⟩, 2)], ha, hc, hs⟩ (by omega) (by omega) (by omega) rb2 h5 (by simp [h2]) h3 ⟨by simp [khs], ba.hs⟩
    unfold btF bootF bootL at ih1
    simp only [hxl, List.length_append, List.length_cons, List.length_nil] at ih1
    refine tr_asSl 1 rfl 1 2 rfl (by omega) ?_; (try simp only[nrm,nrmL,aSome_some,Nat.reduceAdd,Nat.reduceMul,Int.reduceToNat])
    refine tr_one2 (rsC false) (some ⟨b4, 0, none⟩, 2) ([z1, z2] : List Int) (r := []) 1 rfl ?_; (try simp only[nrm,nrmL,aSome_some,Nat.reduceAdd,Nat.reduceMul,Int.reduceToNat])
    refine tr_app2 (rsC false) ss Sx [(some ⟨b4, 0, none⟩, 2)] [([z1, z2] : List Int)] khs ?_; (try simp only[nrm,nrmL,aSome_some,Nat.reduceAdd,Nat.reduceMul,Int.reduceToNat])
    rw [e1]
    refine tr_runI ih1 [5, 5, 5, 5, 0, 4, 4, 1, 1, 1, 1] rfl ?_
    rintro v h ⟨B, A, k1, k2, k3, k4, k5, rfl, o⟩
    exact ⟨B, A, k1, k2, k3, k4, k5, rfl, (show Own h (bootF false B A ++ [p] ++ (_ :: r)) from o).sub⟩
theorem bt_L2 (b3 x2 : Nat) : ∀ (m i N : Nat) (B : BootS) (A : BA), 5 - i = m → i ≤ 5 → N ≤ 800 + i → RB B → B.envs.length = i → B.sects = [] → B.shared = [] → BaOk B A →
    CtJ JUMP F_law8_Boot T_law8_Boot_L2 [(2, P0 x2), (4, .func (.func F_law8_Boot_1) ⟨[]⟩ ⟨[P0 b2, P0 bl]⟩), (5, P0 b3), (6, int B.frames.length), (8, int i)] (btF p a c l b2 bl b3 x2 N B A) (btΦ p) := by
  intro m
  induction m with
  | zero =>
    intro i N B A hm hi hN rb h5 h2 h3 ba
    obtain rfl : i = 5 := by omega
    refine CtJ.of k_law8_Boot fun h r => Tr.eq (e_law8_Boot_L2 ..) ?_; (try simp only[nrm,nrmL,aSome_some,Nat.reduceAdd,Nat.reduceMul,Int.reduceToNat])
    refine Tr.condF (by simp) ?_
    refine Tr.xRun (bt_L3 p ro a c l b2 bl b3 x2 2 0 N B A rfl (by omega) (by omega) rb h5 (by rw [h2]; rfl) h3 ba) ?_; rintro _ h ⟨B, A, k1, k2, k3, k4, k5, rfl, o⟩
    exact ⟨B, A, k1, k2, k3, k4, k5, rfl, o.sub⟩
  | succ m ih =>
    intro i N B A hm hi hN rb h5 h2 h3 ba
    obtain ⟨F, E, Sx, le, Hs⟩ := B
    obtain ⟨fa, fc, ea, ec, sa, sc, ss, ha, hc, hs⟩ := A
    have hf := rb.frames
    simp only at h5 h2 h3 hf
    have e1 : IntKind.wrap .i64 ((i : Int) + 1) = ((i + 1 : Nat) : Int) := by rw [wrap_eq]; omega
    refine CtJ.of k_law8_Boot fun h r => Tr.eq (e_law8_Boot_L2 ..) ?_; (try simp only[nrm,nrmL,aSome_some,Nat.reduceAdd,Nat.reduceMul,Int.reduceToNat])
    refine Tr.condT (by simp; omega) ?_
    (repeat' first|(with_reducible first|refine Ga ?_|refine Gn fun b h=>?_|refine Tr.xFits ?_|rintro px rfl|refine fun(h:H)=>?_|intro hb)|((with_reducible first|apply Gb|apply Gc|apply Gd|apply Ge|apply Gf|apply Gg|apply Gh|apply Gi);·first|rfl|assumption)|((with_reducible first|apply Gj|apply Gk|apply Gl|apply Gm);·first|assumption|rfl)|((with_reducible apply Tr.xV);·exact⟨Nat.le_of_ble_eq_true rfl,rfl,rfl⟩)|((with_reducible apply Tr.xAgg);·exact⟨Nat.le_of_ble_eq_true rfl,rfl⟩)|((with_reducible apply Tr.xPAgg);·exact⟨Nat.le_of_ble_eq_true rfl,rfl,rfl⟩)|((with_reducible first|refine Tr.ck ?_ ?_|apply Tr.xSome|apply Tr.xCells);·first|rfl|omega|(simp only[gnd] at hb;omega))|((with_reducible refine Tr.same ?_ ?_);·first|exact sameV_sl _ _ _|exact sameV_ptr _|exact sameV_int _ _|exact sameV_bool _|exact sameV_str _)|((with_reducible apply Tr.xCellsB);·exact⟨Nat.le_of_ble_eq_true rfl,rfl⟩)|((with_reducible apply Tr.asBytes);·exact bytesN1_byteCells _)|(refine Tr.some fun _=>?_;exact⟨rfl,rfl⟩)|fail)
    refine Tr.xCall (ct_next p ro a c l b2 bl N (by omega) (F.length : Int) (by omega)) ?_; rintro _ h ⟨z1, rfl, hz1, hz1', o⟩ <;> (refine (?_ : Tr _ _ _ _) o; (try simp only[nrm,nrmL,aSome_some,Nat.reduceAdd,Nat.reduceMul,Int.reduceToNat]); (repeat' first|(with_reducible first|refine Ga ?_|refine Gn fun b h=>?_|refine Tr.xFits ?_|rintro px rfl|refine fun(h:H)=>?_|intro hb)|((with_reducible first|apply Gb|apply Gc|apply Gd|apply Ge|apply Gf|apply Gg|apply Gh|apply Gi);·first|rfl|assumption)|((with_reducible first|apply Gj|apply Gk|apply Gl|apply Gm);·first|assumption|rfl)|((with_reducible apply Tr.xV);·exact⟨Nat.le_of_ble_eq_true rfl,rfl,rfl⟩)|((with_reducible apply Tr.xAgg);·exact⟨Nat.le_of_ble_eq_true rfl,rfl⟩)|((with_reducible apply Tr.xPAgg);·exact⟨Nat.le_of_ble_eq_true rfl,rfl,rfl⟩)|((with_reducible first|refine Tr.ck ?_ ?_|apply Tr.xSome|apply Tr.xCells);·first|rfl|omega|(simp only[gnd] at hb;omega))|((with_reducible refine Tr.same ?_ ?_);·first|exact sameV_sl _ _ _|exact sameV_ptr _|exact sameV_int _ _|exact sameV_bool _|exact sameV_str _)|((with_reducible apply Tr.xCellsB);·exact⟨Nat.le_of_ble_eq_true rfl,rfl⟩)|((with_reducible apply Tr.asBytes);·exact bytesN1_byteCells _)|(refine Tr.some fun _=>?_;exact⟨rfl,rfl⟩)|fail))
    refine Tr.xApd ?_ (fun a' c' h => ?_)
    · exact ⟨by first | rfl | simp, by first | rfl | simp, by simp only [most]; omega⟩
    (try simp only[nrm,nrmL,aSome_some,Nat.reduceAdd,Nat.reduceMul,Int.reduceToNat])
    (repeat' first|(with_reducible first|refine Ga ?_|refine Gn fun b h=>?_|refine Tr.xFits ?_|rintro px rfl|refine fun(h:H)=>?_|intro hb)|((with_reducible first|apply Gb|apply Gc|apply Gd|apply Ge|apply Gf|apply Gg|apply Gh|apply Gi);·first|rfl|assumption)|((with_reducible first|apply Gj|apply Gk|apply Gl|apply Gm);·first|assumption|rfl)|((with_reducible apply Tr.xV);·exact⟨Nat.le_of_ble_eq_true rfl,rfl,rfl⟩)|((with_reducible apply Tr.xAgg);·exact⟨Nat.le_of_ble_eq_true rfl,rfl⟩)|((with_reducible apply Tr.xPAgg);·exact⟨Nat.le_of_ble_eq_true rfl,rfl,rfl⟩)|((with_reducible first|refine Tr.ck ?_ ?_|apply Tr.xSome|apply Tr.xCells);·first|rfl|omega|(simp only[gnd] at hb;omega))|((with_reducible refine Tr.same ?_ ?_);·first|exact sameV_sl _ _ _|exact sameV_ptr _|exact sameV_int _ _|exact sameV_bool _|exact sameV_str _)|((with_reducible apply Tr.xCellsB);·exact⟨Nat.le_of_ble_eq_true rfl,rfl⟩)|((with_reducible apply Tr.asBytes);·exact bytesN1_byteCells _)|(refine Tr.some fun _=>?_;exact⟨rfl,rfl⟩)|fail)
    have rb2 : RB ⟨F, E ++ [z1], Sx, le, Hs⟩ := ⟨rb.frames, rb.frame, fun q hq => by
      rcases List.mem_append.1 hq with hq | hq
      · exact rb.env q hq
      · simp only [List.mem_singleton] at hq
        subst hq
        exact ⟨hz1, hz1'⟩, rb.sect, rb.lease, rb.share⟩
    have ih1 := ih (i + 1) (N + 1) ⟨F, E ++ [z1], Sx, le, Hs⟩ ⟨fa, fc, a', c', sa, sc, ss, ha, hc, hs⟩ (by omega) (by omega) (by omega) rb2 (by simp [h5]) h2 h3 ⟨ba.ss, ba.hs⟩
    unfold btF bootF bootL at ih1
    simp only [List.map_append, List.map_cons, List.map_nil, List.length_append, List.length_cons, List.length_nil] at ih1
    rw [e1]
    refine tr_runI ih1 [4, 4, 4, 4, 4, 4, 4, 1, 1, 1, 1] rfl ?_
    rintro v h ⟨B, A, k1, k2, k3, k4, k5, rfl, o⟩
    exact ⟨B, A, k1, k2, k3, k4, k5, rfl, (show Own h (bootF false B A ++ [p] ++ (_ :: r)) from o).sub⟩
theorem bt_L1 (b3 x2 n : Nat) (hn : 1 ≤ n ∧ n ≤ 3) (le : Int) (hle : 1 ≤ le ∧ le ≤ 6) : ∀ (m i N : Nat) (F : List Int) (fa : Option Addr) (fc : Nat), n - i = m → i ≤ n → N ≤ 700 + i → F.length = i → (∀ f ∈ F, 1 ≤ f ∧ f ≤ 4) →
    CtJ JUMP F_law8_Boot T_law8_Boot_L1 [(2, P0 x2), (4, .func (.func F_law8_Boot_1) ⟨[]⟩ ⟨[P0 b2, P0 bl]⟩), (5, P0 b3), (6, int n), (7, int i)] (btF p a c l b2 bl b3 x2 N ⟨F, [], [], le, []⟩ ⟨fa, fc, none, 0, none, 0, [], none, 0, []⟩) (btΦ p) := by
  intro m
  induction m with
  | zero =>
    intro i N F fa fc hm hi hN h5 h6
    obtain rfl : i = n := by omega
    subst h5
    refine CtJ.of k_law8_Boot fun h r => Tr.eq (e_law8_Boot_L1 ..) ?_; (try simp only[nrm,nrmL,aSome_some,Nat.reduceAdd,Nat.reduceMul,Int.reduceToNat])
    refine Tr.condF (by simp) ?_
    refine Tr.xRun (bt_L2 p ro a c l b2 bl b3 x2 5 0 N ⟨F, [], [], le, []⟩ ⟨fa, fc, none, 0, none, 0, [], none, 0, []⟩ rfl (by omega) (by omega) ⟨hn, h6, by simp, by simp, hle, by simp⟩ rfl rfl rfl ⟨rfl, rfl⟩) ?_; rintro _ h ⟨B, A, k1, k2, k3, k4, k5, rfl, o⟩
    exact ⟨B, A, k1, k2, k3, k4, k5, rfl, o.sub⟩
  | succ m ih =>
    intro i N F fa fc hm hi hN h5 h6
    have e1 : IntKind.wrap .i64 ((i : Int) + 1) = ((i + 1 : Nat) : Int) := by rw [wrap_eq]; omega
    refine CtJ.of k_law8_Boot fun h r => Tr.eq (e_law8_Boot_L1 ..) ?_; (try simp only[nrm,nrmL,aSome_some,Nat.reduceAdd,Nat.reduceMul,Int.reduceToNat])
    refine Tr.condT (by simp; omega) ?_
    (repeat' first|(with_reducible first|refine Ga ?_|refine Gn fun b h=>?_|refine Tr.xFits ?_|rintro px rfl|refine fun(h:H)=>?_|intro hb)|((with_reducible first|apply Gb|apply Gc|apply Gd|apply Ge|apply Gf|apply Gg|apply Gh|apply Gi);·first|rfl|assumption)|((with_reducible first|apply Gj|apply Gk|apply Gl|apply Gm);·first|assumption|rfl)|((with_reducible apply Tr.xV);·exact⟨Nat.le_of_ble_eq_true rfl,rfl,rfl⟩)|((with_reducible apply Tr.xAgg);·exact⟨Nat.le_of_ble_eq_true rfl,rfl⟩)|((with_reducible apply Tr.xPAgg);·exact⟨Nat.le_of_ble_eq_true rfl,rfl,rfl⟩)|((with_reducible first|refine Tr.ck ?_ ?_|apply Tr.xSome|apply Tr.xCells);·first|rfl|omega|(simp only[gnd] at hb;omega))|((with_reducible refine Tr.same ?_ ?_);·first|exact sameV_sl _ _ _|exact sameV_ptr _|exact sameV_int _ _|exact sameV_bool _|exact sameV_str _)|((with_reducible apply Tr.xCellsB);·exact⟨Nat.le_of_ble_eq_true rfl,rfl⟩)|((with_reducible apply Tr.asBytes);·exact bytesN1_byteCells _)|(refine Tr.some fun _=>?_;exact⟨rfl,rfl⟩)|fail)
    refine Tr.xCall (ct_next p ro a c l b2 bl N (by omega) 4 (by omega)) ?_; rintro _ h ⟨z1, rfl, hz1, hz1', o⟩ <;> (refine (?_ : Tr _ _ _ _) o; (try simp only[nrm,nrmL,aSome_some,Nat.reduceAdd,Nat.reduceMul,Int.reduceToNat]); (repeat' first|(with_reducible first|refine Ga ?_|refine Gn fun b h=>?_|refine Tr.xFits ?_|rintro px rfl|refine fun(h:H)=>?_|intro hb)|((with_reducible first|apply Gb|apply Gc|apply Gd|apply Ge|apply Gf|apply Gg|apply Gh|apply Gi);·first|rfl|assumption)|((with_reducible first|apply Gj|apply Gk|apply Gl|apply Gm);·first|assumption|rfl)|((with_reducible apply Tr.xV);·exact⟨Nat.le_of_ble_eq_true rfl,rfl,rfl⟩)|((with_reducible apply Tr.xAgg);·exact⟨Nat.le_of_ble_eq_true rfl,rfl⟩)|((with_reducible apply Tr.xPAgg);·exact⟨Nat.le_of_ble_eq_true rfl,rfl,rfl⟩)|((with_reducible first|refine Tr.ck ?_ ?_|apply Tr.xSome|apply Tr.xCells);·first|rfl|omega|(simp only[gnd] at hb;omega))|((with_reducible refine Tr.same ?_ ?_);·first|exact sameV_sl _ _ _|exact sameV_ptr _|exact sameV_int _ _|exact sameV_bool _|exact sameV_str _)|((with_reducible apply Tr.xCellsB);·exact⟨Nat.le_of_ble_eq_true rfl,rfl⟩)|((with_reducible apply Tr.asBytes);·exact bytesN1_byteCells _)|(refine Tr.some fun _=>?_;exact⟨rfl,rfl⟩)|fail))
    have e2 : IntKind.wrap .i64 (1 + z1) = 1 + z1 := by rw [wrap_eq]; omega
    rw [e2]
    refine Tr.xApd ?_ (fun a' c' h => ?_)
    · exact ⟨by first | rfl | simp, by first | rfl | simp, by simp only [most]; omega⟩
    (try simp only[nrm,nrmL,aSome_some,Nat.reduceAdd,Nat.reduceMul,Int.reduceToNat])
    (repeat' first|(with_reducible first|refine Ga ?_|refine Gn fun b h=>?_|refine Tr.xFits ?_|rintro px rfl|refine fun(h:H)=>?_|intro hb)|((with_reducible first|apply Gb|apply Gc|apply Gd|apply Ge|apply Gf|apply Gg|apply Gh|apply Gi);·first|rfl|assumption)|((with_reducible first|apply Gj|apply Gk|apply Gl|apply Gm);·first|assumption|rfl)|((with_reducible apply Tr.xV);·exact⟨Nat.le_of_ble_eq_true rfl,rfl,rfl⟩)|((with_reducible apply Tr.xAgg);·exact⟨Nat.le_of_ble_eq_true rfl,rfl⟩)|((with_reducible apply Tr.xPAgg);·exact⟨Nat.le_of_ble_eq_true rfl,rfl,rfl⟩)|((with_reducible first|refine Tr.ck ?_ ?_|apply Tr.xSome|apply Tr.xCells);·first|rfl|omega|(simp only[gnd] at hb;omega))|((with_reducible refine Tr.same ?_ ?_);·first|exact sameV_sl _ _ _|exact sameV_ptr _|exact sameV_int _ _|exact sameV_bool _|exact sameV_str _)|((with_reducible apply Tr.xCellsB);·exact⟨Nat.le_of_ble_eq_true rfl,rfl⟩)|((with_reducible apply Tr.asBytes);·exact bytesN1_byteCells _)|(refine Tr.some fun _=>?_;exact⟨rfl,rfl⟩)|fail)
    have ih1 := ih (i + 1) (N + 1) (F ++ [1 + z1]) a' c' (by omega) (by omega) (by omega) (by simp [h5]) (fun f hf => by
      rcases List.mem_append.1 hf with hf | hf
      · exact h6 f hf
      · simp only [List.mem_singleton] at hf; omega)
    unfold btF bootF bootL at ih1
    simp only [List.map_append, List.map_cons, List.map_nil, List.length_append, List.length_cons, List.length_nil] at ih1
    rw [e1]
    refine tr_runI ih1 [4, 4, 4, 4, 4, 4, 4, 1, 1, 1, 1] rfl ?_
    rintro v h ⟨B, A, k1, k2, k3, k4, k5, rfl, o⟩
    exact ⟨B, A, k1, k2, k3, k4, k5, rfl, (show Own h (bootF false B A ++ [p] ++ (_ :: r)) from o).sub⟩
theorem ct_Boot : Ct CALL F_law8_Boot [.slice a l.length c] [p] (btΦ p) := by
  refine Ct.of k_law8_Boot rfl fun h r => Tr.eq (e_law8_Boot ..) ?_; (try simp only[nrm,nrmL,aSome_some,Nat.reduceAdd,Nat.reduceMul,Int.reduceToNat])
  refine Tr.nw fun bl g1 => ?_
  refine Tr.nw fun x2 g2 => ?_
  refine Tr.nw fun b2 g3 => ?_
  (repeat' first|(with_reducible first|refine Ga ?_|refine Gn fun b h=>?_|refine Tr.xFits ?_|rintro px rfl|refine fun(h:H)=>?_|intro hb)|((with_reducible first|apply Gb|apply Gc|apply Gd|apply Ge|apply Gf|apply Gg|apply Gh|apply Gi);·first|rfl|assumption)|((with_reducible first|apply Gj|apply Gk|apply Gl|apply Gm);·first|assumption|rfl)|((with_reducible apply Tr.xV);·exact⟨Nat.le_of_ble_eq_true rfl,rfl,rfl⟩)|((with_reducible apply Tr.xAgg);·exact⟨Nat.le_of_ble_eq_true rfl,rfl⟩)|((with_reducible apply Tr.xPAgg);·exact⟨Nat.le_of_ble_eq_true rfl,rfl,rfl⟩)|((with_reducible first|refine Tr.ck ?_ ?_|apply Tr.xSome|apply Tr.xCells);·first|rfl|omega|(simp only[gnd] at hb;omega))|((with_reducible refine Tr.same ?_ ?_);·first|exact sameV_sl _ _ _|exact sameV_ptr _|exact sameV_int _ _|exact sameV_bool _|exact sameV_str _)|((with_reducible apply Tr.xCellsB);·exact⟨Nat.le_of_ble_eq_true rfl,rfl⟩)|((with_reducible apply Tr.asBytes);·exact bytesN1_byteCells _)|(refine Tr.some fun _=>?_;exact⟨rfl,rfl⟩)|fail)
  refine tr_addpure (φ := (0 : Int) ≤ 0 ∧ (0 : Int) ≤ ((0 : Nat) : Int)) (by omega) ?_
  refine tr_foldI (nextC b2 0) (0 : Int) [1, 0] rfl ?_; (try simp only[nrm,nrmL,aSome_some,Nat.reduceAdd,Nat.reduceMul,Int.reduceToNat])
  refine Tr.xCall (ct_next p ro a c l b2 bl 0 (by omega) 6 (by omega)) ?_; rintro _ h ⟨z1, rfl, hz1, hz1', o⟩ <;> (refine (?_ : Tr _ _ _ _) o; (try simp only[nrm,nrmL,aSome_some,Nat.reduceAdd,Nat.reduceMul,Int.reduceToNat]))
  have e2 : IntKind.wrap .i64 (1 + z1) = 1 + z1 := by rw [wrap_eq]; omega
  refine Ga ?_
  rw [e2]
  refine Tr.nw fun b3 g4 => ?_
  (repeat' first|(with_reducible first|refine Ga ?_|refine Gn fun b h=>?_|refine Tr.xFits ?_|rintro px rfl|refine fun(h:H)=>?_|intro hb)|((with_reducible first|apply Gb|apply Gc|apply Gd|apply Ge|apply Gf|apply Gg|apply Gh|apply Gi);·first|rfl|assumption)|((with_reducible first|apply Gj|apply Gk|apply Gl|apply Gm);·first|assumption|rfl)|((with_reducible apply Tr.xV);·exact⟨Nat.le_of_ble_eq_true rfl,rfl,rfl⟩)|((with_reducible apply Tr.xAgg);·exact⟨Nat.le_of_ble_eq_true rfl,rfl⟩)|((with_reducible apply Tr.xPAgg);·exact⟨Nat.le_of_ble_eq_true rfl,rfl,rfl⟩)|((with_reducible first|refine Tr.ck ?_ ?_|apply Tr.xSome|apply Tr.xCells);·first|rfl|omega|(simp only[gnd] at hb;omega))|((with_reducible refine Tr.same ?_ ?_);·first|exact sameV_sl _ _ _|exact sameV_ptr _|exact sameV_int _ _|exact sameV_bool _|exact sameV_str _)|((with_reducible apply Tr.xCellsB);·exact⟨Nat.le_of_ble_eq_true rfl,rfl⟩)|((with_reducible apply Tr.asBytes);·exact bytesN1_byteCells _)|(refine Tr.some fun _=>?_;exact⟨rfl,rfl⟩)|fail)
  refine Tr.xCall (ct_next p ro a c l b2 bl 1 (by omega) 3 (by omega)) ?_; rintro _ h ⟨z2, rfl, hz2, hz2', o⟩ <;> (refine (?_ : Tr _ _ _ _) o; (try simp only[nrm,nrmL,aSome_some,Nat.reduceAdd,Nat.reduceMul,Int.reduceToNat]); (repeat' first|(with_reducible first|refine Ga ?_|refine Gn fun b h=>?_|refine Tr.xFits ?_|rintro px rfl|refine fun(h:H)=>?_|intro hb)|((with_reducible first|apply Gb|apply Gc|apply Gd|apply Ge|apply Gf|apply Gg|apply Gh|apply Gi);·first|rfl|assumption)|((with_reducible first|apply Gj|apply Gk|apply Gl|apply Gm);·first|assumption|rfl)|((with_reducible apply Tr.xV);·exact⟨Nat.le_of_ble_eq_true rfl,rfl,rfl⟩)|((with_reducible apply Tr.xAgg);·exact⟨Nat.le_of_ble_eq_true rfl,rfl⟩)|((with_reducible apply Tr.xPAgg);·exact⟨Nat.le_of_ble_eq_true rfl,rfl,rfl⟩)|((with_reducible first|refine Tr.ck ?_ ?_|apply Tr.xSome|apply Tr.xCells);·first|rfl|omega|(simp only[gnd] at hb;omega))|((with_reducible refine Tr.same ?_ ?_);·first|exact sameV_sl _ _ _|exact sameV_ptr _|exact sameV_int _ _|exact sameV_bool _|exact sameV_str _)|((with_reducible apply Tr.xCellsB);·exact⟨Nat.le_of_ble_eq_true rfl,rfl⟩)|((with_reducible apply Tr.asBytes);·exact bytesN1_byteCells _)|(refine Tr.some fun _=>?_;exact⟨rfl,rfl⟩)|fail))
  have e3 : IntKind.wrap .i64 (1 + z2) = (((1 + z2).toNat : Nat) : Int) := by rw [wrap_eq]; omega
  rw [e3]
  refine tr_nilSl false Y_int 1 (by omega) ?_
  refine tr_nilSl false Y_int 1 (by omega) ?_
  refine tr_nilSl false Y_s_int 1 (by omega) ?_
  refine tr_nilSl false Y_api_Share 5 (by omega) ?_
  refine tr_nil2 (rsC false) ?_
  refine tr_nil2 (toC false) ?_
  have sp := bt_L1 p ro a c l b2 bl b3 x2 (1 + z2).toNat (by omega) (1 + z1) (by omega) (1 + z2).toNat 0 2 [] none 0 rfl (by omega) (by omega) rfl (by simp)
  refine tr_runI sp [9, 5, 4, 3, 1, 1, 0, 0, 0, 0, 0] rfl ?_
  rintro v h ⟨B, A, k1, k2, k3, k4, k5, rfl, o⟩
  exact ⟨B, A, k1, k2, k3, k4, k5, rfl, o⟩
end
end Go.EQ

set_option linter.unusedSimpArgs false
set_option linter.unusedVariables false
set_option maxRecDepth 100000
namespace Go.EQ
open Go Go.NN
def rowP (cs : List CapS) : List PlaceS := cs.map fun c => ⟨c, 1, true⟩
def row (cs : List CapS) : List PlaceS := rowP cs ++ List.replicate (32 - cs.length) place1
theorem freeFrom_row (cs : List CapS) (k : Nat) : ∀ i, freeFrom i (rowP cs ++ List.replicate (k + 1) place1) = some (i + cs.length) := by
  induction cs with
  | nil => intro i; show freeFrom i (place1 :: List.replicate k place1) = _; unfold freeFrom; rw [if_pos ⟨rfl, by simp [place1]⟩]; simp
  | cons c cs ih =>
    intro i
    show freeFrom i (⟨c, 1, true⟩ :: (rowP cs ++ List.replicate (k + 1) place1)) = _
    unfold freeFrom; rw [if_neg (by simp), ih]; simp; omega
theorem tabAdd_row {cs : List CapS} (h : cs.length < 32) (c : CapS) : tabAddL (row cs) c = row (cs ++ [c]) := by
  obtain ⟨k, hk⟩ : ∃ k, 32 - cs.length = k + 1 := ⟨31 - cs.length, by omega⟩
  have h1 := freeFrom_row cs k 0
  have hg : (row cs)[cs.length]? = some place1 := by
    unfold row; rw [List.getElem?_append_right (by simp [rowP]), hk]; simp [rowP]
  unfold tabAddL tabAdd
  unfold row at hg ⊢
  rw [hk] at hg ⊢
  rw [h1, Nat.zero_add]
  simp only [hg]
  rw [show 32 - (cs ++ [c]).length = k by simp; omega, List.set_append_right _ _ (by simp [rowP])]
  simp [rowP, place1, List.replicate_succ]
theorem names_row (cs : List CapS) (k : Nat) : ∀ i, namesFrom i (rowP cs ++ List.replicate k place1) = (List.range cs.length).map fun j => ((i + j : Nat) : Int) + 256 := by
  induction cs with
  | nil =>
    intro i
    have : ∀ (k i : Nat), namesFrom i (List.replicate k place1) = [] := by
      intro k; induction k with
      | zero => intro i; rfl
      | succ k ih => intro i; rw [List.replicate_succ]; unfold namesFrom; rw [if_neg (by simp [place1]), ih]
    show namesFrom i (List.replicate k place1) = []
    exact this k i
  | cons c cs ih =>
    intro i
    show namesFrom i (⟨c, 1, true⟩ :: (rowP cs ++ List.replicate k place1)) = _
    unfold namesFrom; rw [if_pos rfl, ih, List.length_cons, List.range_succ_eq_map, List.map_cons, List.map_map]
    refine List.cons_eq_cons.2 ⟨by simp [pname], List.map_congr_left fun j _ => ?_⟩
    simp only [Function.comp_apply]; omega
theorem tabNames_row (cs : List CapS) : tabNames (row cs) = (List.range cs.length).map fun j : Nat => (j : Int) + 256 := by
  have := names_row cs (32 - cs.length) 0
  simpa [tabNames, row] using this
theorem tabGet_row {cs : List CapS} {i : Nat} {c : CapS} (h : cs.length ≤ 32) (hc : cs[i]? = some c) : tabGet (row cs) ((i : Int) + 256) = some c := by
  have hlt := (List.getElem?_eq_some_iff.1 hc).1
  have hg : (row cs)[i]? = some ⟨c, 1, true⟩ := by
    unfold row; rw [List.getElem?_append_left (by simp [rowP]; omega)]; simp [rowP, hc]
  have e : (((i : Int) + 256) % 256).toNat = i := by omega
  unfold tabGet tabAt
  rw [if_pos (by omega), e, hg]
  simp only [pname]
  rw [if_pos ⟨trivial, by omega⟩]
  simp only [hg, Option.map_some]
def capsOf (s : Int) : Nat → List ShareS → List CapS
  | _, [] => []
  | i, x :: l => if s ∈ x.to then ⟨i, 3, 0, x.n, 0, 0⟩ :: capsOf s (i + 1) l else capsOf s (i + 1) l
theorem capsOf_len (s : Int) : ∀ (l : List ShareS) (i : Nat), (capsOf s i l).length ≤ l.length
  | [], i => by simp [capsOf]
  | x :: l, i => by have := capsOf_len s l (i + 1); unfold capsOf; split <;> simp <;> omega
theorem capsOf_app (s : Int) (x : ShareS) : ∀ (l : List ShareS) (i : Nat), capsOf s i (l ++ [x]) = capsOf s i l ++ (if s ∈ x.to then [⟨((i + l.length : Nat) : Int), 3, 0, x.n, 0, 0⟩] else [])
  | [], i => by simp [capsOf]
  | y :: l, i => by
    have e : i + 1 + l.length = i + (y :: l).length := by simp; omega
    rw [List.cons_append, capsOf, capsOf, capsOf_app s x l (i + 1), e]
    split <;> simp
theorem putFrom_get (obj n : Int) (to : List Int) (hn : 0 ≤ n ∧ n ≤ 65536) : ∀ (l : List Int) (j : Nat) (t : List (List PlaceS)), j + l.length ≤ t.length →
    (putFrom obj n to j l t).length = t.length ∧ ∀ e, (putFrom obj n to j l t)[e]? = if j ≤ e ∧ ((l[e - j]?).any (fun s => decide (s ∈ to)) = true) then (t[e]?).map (tabAddL · ⟨obj, 3, 0, n, 0, 0⟩) else t[e]?
  | [], j, t, _ => ⟨rfl, fun e => by simp [putFrom]⟩
  | s :: l, j, t, h => by
    simp only [List.length_cons] at h
    obtain ⟨u, hu⟩ : ∃ u, t[j]? = some u := ⟨t[j]'(by omega), List.getElem?_eq_getElem _⟩
    have hput : spPut t j ⟨obj, 3, 0, n, 0, 0⟩ = t.set j (tabAddL u ⟨obj, 3, 0, n, 0, 0⟩) := by
      have hok : putOk t j ⟨obj, 3, 0, n, 0, 0⟩ = true := by
        unfold putOk
        rw [decide_eq_true (by omega), decide_eq_true (by simp), decide_eq_true (by simpa using hn), show bitN .i64 (CapS.mk obj 3 0 n 0 0).rights 7 = 0 from (by decide : bitN .i64 3 7 = 0)]
        rfl
      unfold spPut spAdd idx
      rw [if_pos hok, if_pos (by omega), Int.toNat_natCast, hu]; rfl
    have step : ∀ t' : List (List PlaceS), t'.length = t.length → (putFrom obj n to (j + 1) l t').length = t'.length ∧ ∀ e, (putFrom obj n to (j + 1) l t')[e]? = if j + 1 ≤ e ∧ ((l[e - (j + 1)]?).any (fun s => decide (s ∈ to)) = true) then (t'[e]?).map (tabAddL · ⟨obj, 3, 0, n, 0, 0⟩) else t'[e]? :=
      fun t' ht => putFrom_get obj n to hn l (j + 1) t' (by omega)
    unfold putFrom
    by_cases hs : s ∈ to
    · rw [if_pos hs, hput]
      obtain ⟨h1, h2⟩ := step (t.set j (tabAddL u ⟨obj, 3, 0, n, 0, 0⟩)) (by simp)
      refine ⟨by rw [h1]; simp, fun e => ?_⟩
      rw [h2]
      rcases Nat.lt_trichotomy e j with he | he | he
      · rw [if_neg (by omega), if_neg (by omega), List.getElem?_set_ne (by omega)]
      · subst he
        rw [if_neg (by omega), if_pos ⟨Nat.le_refl _, by simpa using hs⟩, List.getElem?_set_self (by omega), hu]; rfl
      · rw [List.getElem?_set_ne (by omega)]
        have e1 : e - j = e - (j + 1) + 1 := by omega
        rw [e1, List.getElem?_cons_succ]
        by_cases hc : ((l[e - (j + 1)]?).any (fun s => decide (s ∈ to)) = true)
        · rw [if_pos ⟨by omega, hc⟩, if_pos ⟨by omega, hc⟩]
        · rw [if_neg (fun h => hc h.2), if_neg (fun h => hc h.2)]
    · rw [if_neg hs]
      obtain ⟨h1, h2⟩ := step t rfl
      refine ⟨h1, fun e => ?_⟩
      rw [h2]
      rcases Nat.lt_trichotomy e j with he | he | he
      · rw [if_neg (by omega), if_neg (by omega)]
      · subst he
        rw [if_neg (by omega), if_neg (fun h => hs (by simpa using h.2))]
      · have e1 : e - j = e - (j + 1) + 1 := by omega
        rw [e1, List.getElem?_cons_succ]
        by_cases hc : ((l[e - (j + 1)]?).any (fun s => decide (s ∈ to)) = true)
        · rw [if_pos ⟨by omega, hc⟩, if_pos ⟨by omega, hc⟩]
        · rw [if_neg (fun h => hc h.2), if_neg (fun h => hc h.2)]
structure TabsOk (B : BootS) (k : Nat) (S : KS) : Prop where
  envs : S.envs = B.envs
  used : S.used = newUsed B.frames
  mem : S.mem.length = 64 * allFrames B.frames
  regs : S.regs.length = k
  len : S.tabs.length = B.envs.length
  tabs : ∀ (e : Nat) (s : Int), B.envs[e]? = some s → S.tabs[e]? = some (row (capsOf s 0 (B.shared.take k)))
theorem frames_take (l : List Int) : ∀ (k : Nat), l.length ≤ 4 → sumLen ((newUsed l).take k) = ((l.take k).map fun n => (framesOf n).toNat).sum := by
  intro k hl
  unfold newUsed sumLen
  rw [List.take_of_length_le hl, ← List.map_take, List.map_map]
  congr 1
  refine List.map_congr_left fun n _ => ?_
  simp [framesOf]
theorem sum_take_le : ∀ (l : List Nat) (k : Nat) (x : Nat), l[k]? = some x → (l.take k).sum + x ≤ l.sum
  | [], k, x, h => by simp at h
  | y :: l, 0, x, h => by simp at h; subst h; simp
  | y :: l, k + 1, x, h => by
    have := sum_take_le l k x (by simpa using h)
    simp only [List.take_succ_cons, List.sum_cons]; omega
theorem shareOk_all {B : BootS} {x : ShareS} (h : shareOk B x = true) : 0 ≤ x.session ∧ x.session < B.frames.length ∧ 0 ≤ x.frame ∧ 0 ≤ x.lo ∧ 0 ≤ x.n ∧ x.frame ≤ framesOf (B.frames.getD x.session.toNat 0) ∧
    x.lo + x.n ≤ (framesOf (B.frames.getD x.session.toNat 0) - x.frame) * 64 := by
  unfold shareOk at h
  split at h
  · cases h
  · rename_i h1
    split at h
    · cases h
    · rename_i h2
      simp only [Bool.or_eq_true, decide_eq_true_eq, not_or, Int.not_lt] at h1
      simp only [decide_eq_true_eq, Int.not_lt] at h2
      simp only [Bool.and_eq_true, decide_eq_true_eq] at h
      omega
theorem tabs_step {B : BootS} (bo : BootOk B) {k : Nat} {S : KS} (t : TabsOk B k S) {x : ShareS} (hx : B.shared[k]? = some x) : TabsOk B (k + 1) (addShare S x) := by
  have hlt := (List.getElem?_eq_some_iff.1 hx).1
  have h16 := bo.shared
  have hf := bo.frames
  obtain ⟨s1, s2, s3, s4, s5, s6, s7⟩ := shareOk_all (bo.share x (List.mem_of_getElem? hx))
  have h64 : framesOf (B.frames.getD x.session.toNat 0) ≤ 64 := by unfold framesOf; omega
  have hfx : B.frames[x.session.toNat]? = some (B.frames.getD x.session.toNat 0) := getD_get 0 (by omega)
  have hsum := sum_take_le (B.frames.map fun n => (framesOf n).toNat) x.session.toNat (framesOf (B.frames.getD x.session.toNat 0)).toNat (by rw [List.getElem?_map, hfx]; rfl)
  have hq : qFirst S.used x.session = ((B.frames.map fun n => (framesOf n).toNat).take x.session.toNat).sum := by
    rw [qFirst, t.used]
    have hl : (newUsed B.frames).length = B.frames.length := by simp [newUsed]; omega
    rw [hl, show (min (max x.session 0) (B.frames.length : Int)).toNat = x.session.toNat by omega, frames_take _ _ hf.2, List.map_take]
  have hall : allFrames B.frames = (B.frames.map fun n => (framesOf n).toNat).sum := rfl
  have hle := allFrames_le B.frames
  have hreg : regOf S x = (((k : Int), 0), S.regs ++ [(regAt S x, x.n)]) := by
    have e1 : regAt S x = ((qFirst S.used x.session : Int) + x.frame) * 64 + x.lo := rfl
    have hsz : regAt S x + x.n ≤ (S.mem.length : Int) := by rw [e1, hq, t.mem, hall]; omega
    have h0 : 0 ≤ regAt S x := by rw [e1]; omega
    have hmem : (S.mem.length : Int) ≤ 65536 := by rw [t.mem]; omega
    unfold regOf regAdd
    rw [if_neg (by simp only [Bool.or_eq_true, decide_eq_true_eq, not_or, wrap_eq]; omega), if_neg (by rw [t.regs]; omega), t.regs]
  have hn : 0 ≤ x.n ∧ x.n ≤ 65536 := by omega
  have hpf := putFrom_get (k : Int) x.n x.to hn S.envs 0 S.tabs (by rw [t.len, t.envs]; omega)
  have htk : B.shared.take (k + 1) = B.shared.take k ++ [x] := by rw [List.take_succ_eq_append_getElem hlt, (List.getElem?_eq_some_iff.1 hx).2]
  unfold addShare
  rw [hreg]
  refine ⟨t.envs, t.used, t.mem, ?_, ?_, fun e s he => ?_⟩
  · show (S.regs ++ [(regAt S x, x.n)]).length = k + 1
    simp [t.regs]
  · show (putFrom (k : Int) x.n x.to 0 S.envs S.tabs).length = _
    rw [hpf.1, t.len]
  · show (putFrom (k : Int) x.n x.to 0 S.envs S.tabs)[e]? = _
    rw [hpf.2, t.tabs e s he, Nat.sub_zero, t.envs, he, htk, capsOf_app]
    have hcl := capsOf_len s (B.shared.take k) 0
    rw [List.length_take] at hcl
    have hlen : (B.shared.take k).length = k := by rw [List.length_take]; omega
    by_cases hs : s ∈ x.to
    · rw [if_pos ⟨Nat.zero_le _, by simpa using hs⟩, if_pos hs]
      simp only [Option.map_some, hlen, Nat.zero_add]
      rw [tabAdd_row (by omega)]
    · rw [if_neg (fun h => hs (by simpa using h.2)), if_neg hs, List.append_nil]
theorem tabs_all {B : BootS} (bo : BootOk B) : ∀ (m k : Nat) (S : KS), B.shared.length - k = m → k ≤ B.shared.length → TabsOk B k S → TabsOk B B.shared.length (addShares S (B.shared.drop k)) := by
  intro m
  induction m with
  | zero =>
    intro k S hm hk t
    obtain rfl : k = B.shared.length := by omega
    rw [List.drop_length]; exact t
  | succ m ih =>
    intro k S hm hk t
    have hlt : k < B.shared.length := by omega
    rw [List.drop_eq_getElem_cons hlt]
    exact ih (k + 1) _ (by omega) (by omega) (tabs_step bo t (List.getElem?_eq_getElem hlt))
theorem tabs_new {B : BootS} (bo : BootOk B) : TabsOk B B.shared.length (kNew B) := by
  have t0 : TabsOk B 0 (kBase B B.sects (List.replicate B.sects.length (newSect B.lease))) := by
    refine ⟨rfl, rfl, by simp, rfl, by simp [newSpace], fun e s he => ?_⟩
    have hlt := (List.getElem?_eq_some_iff.1 he).1
    show (newSpace B.envs.length)[e]? = _
    simp [newSpace, newTab, hlt, capsOf, row, rowP]
  exact tabs_all bo _ 0 _ rfl (Nat.zero_le _) t0
end Go.EQ

set_option linter.unusedSimpArgs false
set_option linter.unusedVariables false
set_option maxRecDepth 100000
namespace Go.EQ
open Go Go.NN
theorem rb_ok {B : BootS} (rb : RB B) (h5 : B.envs.length = 5) (h2 : B.sects.length = 2) (h3 : B.shared.length = 3) : bootOk B = true := by
  have hf := rb.frames; have hl := rb.lease
  have none : ∀ s : Int, 0 ≤ s ∧ s < B.frames.length → noneB B s = false := fun s hs => by
    unfold noneB; rw [decide_eq_false (by omega), decide_eq_false (by omega)]; rfl
  have nany : ∀ l : List Int, (∀ s ∈ l, 0 ≤ s ∧ s < B.frames.length) → l.any (noneB B) = false := fun l hl => by
    rw [List.any_eq_false]; intro s hs; rw [none s (hl s hs)]; simp
  unfold bootOk
  rw [Bool.and_eq_true, Bool.and_eq_true, Bool.and_eq_true]
  refine ⟨?_, ?_, ?_, ?_⟩
  · unfold sizesOk
    rw [decide_eq_false (by omega), decide_eq_false (by omega), decide_eq_false (by omega), decide_eq_false (by omega), decide_eq_false (by omega), decide_eq_false (by omega), decide_eq_false (by omega)]; rfl
  · rw [nany _ rb.env]; rfl
  · rw [List.all_eq_true]; intro q hq; rw [nany q (rb.sect q hq).2]; rfl
  · unfold sharesOk
    rw [List.all_eq_true]; intro q hq
    obtain ⟨s1, s2, s3, s4, s5, s6, s7, f, s8, s9, s10⟩ := rb.share q hq
    have hfx := rb.frame f (List.mem_of_getElem? s8)
    have hgd : B.frames.getD q.session.toNat 0 = f := by rw [List.getD_eq_getElem?_getD, s8]; rfl
    have hfo : framesOf f = f := by unfold framesOf; omega
    rw [nany q.to s4]
    unfold shareOk
    rw [if_neg (by simp only [Bool.or_eq_true, decide_eq_true_eq, not_or]; omega), hgd, hfo, if_neg (by simp only [decide_eq_true_eq]; omega)]
    rw [decide_eq_true (by omega), decide_eq_true (by omega)]; rfl
theorem rb_small {B : BootS} (rb : RB B) (h5 : B.envs.length = 5) : Small B := by
  refine ⟨by rw [h5]; simp [most], fun q hq => by rw [(rb.share q hq).2.2.1]; simp [most], fun q hq => by rw [(rb.sect q hq).1]; simp [most]⟩
theorem ct_kSpace (k : Nat) (S : KS) (A : KA) : CtP CALL F_kern_Kern_Space [P0 k] (kernF k S A) (P0 A.s) := by
  refine CtP.of k_kern_Kern_Space rfl fun h r => Tr.eq (e_kern_Kern_Space ..) ?_; (try simp only[nrm,nrmL,aSome_some,Nat.reduceAdd,Nat.reduceMul,Int.reduceToNat])
  (repeat' first|(with_reducible first|refine Ga ?_|refine Gn fun b h=>?_|apply Tr.andG|apply Tr.orG|refine Tr.xFits ?_|rintro px rfl|refine fun(h:H)=>?_|intro hb)|((with_reducible first|apply Gb|apply Gc|apply Gd|apply Ge|apply Gf|apply Gg|apply Gh|apply Gi);·first|rfl|assumption)|((with_reducible first|apply Gj|apply Gk|apply Gl|apply Gm);·first|assumption|rfl)|((with_reducible apply Tr.xV);·exact⟨Nat.le_of_ble_eq_true rfl,rfl,rfl⟩)|((with_reducible apply Tr.xAgg);·exact⟨Nat.le_of_ble_eq_true rfl,rfl⟩)|((with_reducible apply Tr.xPAgg);·exact⟨Nat.le_of_ble_eq_true rfl,rfl,rfl⟩)|((with_reducible first|refine Tr.ck ?_ ?_|apply Tr.xSome|apply Tr.xCells);·first|rfl|omega|(simp only[gnd] at hb;omega))|((with_reducible refine Tr.same ?_ ?_);·first|exact sameV_sl _ _ _|exact sameV_ptr _|exact sameV_int _ _|exact sameV_bool _|exact sameV_str _)|((with_reducible apply Tr.xCellsB);·exact⟨Nat.le_of_ble_eq_true rfl,rfl⟩)|((with_reducible apply Tr.asBytes);·exact bytesN1_byteCells _)|(refine Tr.some fun _=>?_;exact⟨rfl,rfl⟩)|fail)
theorem take_mem {l : List Int} {j : Nat} {x s : Int} (h : l[j]? = some x) : decide (s ∈ l.take (j + 1)) = (decide (s ∈ l.take j) || (x == s)) := by
  obtain ⟨hlt, rfl⟩ := List.getElem?_eq_some_iff.1 h
  have e : s ∈ l.take (j + 1) ↔ (s ∈ l.take j ∨ s = l[j]) := by rw [List.take_succ_eq_append_getElem hlt, List.mem_append, List.mem_singleton]
  rw [Bool.eq_iff_iff]
  simp only [decide_eq_true_eq, Bool.or_eq_true, beq_iff_eq, e]
  exact ⟨fun h => h.imp id Eq.symm, fun h => h.imp id Eq.symm⟩
section
variable (B : BootS) (A : BA) (b k to n : Nat) (s : Int)
def capNames (cs : List CapS) : List Int := (List.range cs.length).map fun j : Nat => (j : Int) + 256
abbrev cpF (na : Option Addr) (nc : Nat) (nm : List Int) : List HP := pt b (.cells Y_api_Boot false (bootL B A)) :: (bootF false B A ++ [kernC k (kNew B), slC false Y_int 1 na nm.length nc (nm.map int)])
end
theorem cp_get {B : BootS} (bo : BootOk B) {e : Nat} {s : Int} (he : B.envs[e]? = some s) {i : Nat} {x : ShareS} (hx : B.shared[i]? = some x) (hs : s ∈ x.to) :
    spGet (kNew B).tabs e (((capsOf s 0 (B.shared.take i)).length : Nat) + 256) = some ⟨i, 3, 0, x.n, 0, 0⟩ ∧ (capsOf s 0 (B.shared.take i)).length < (capsOf s 0 B.shared).length ∧ (capsOf s 0 (B.shared.take (i + 1))).length = (capsOf s 0 (B.shared.take i)).length + 1 := by
  have ht := tabs_new bo
  have h16 := bo.shared
  have hlt := (List.getElem?_eq_some_iff.1 hx).1
  have h1 := ht.tabs e s he
  rw [List.take_of_length_le (Nat.le_refl _)] at h1
  have hli : (B.shared.take i).length = i := by rw [List.length_take]; omega
  have key : ∀ (pre : List ShareS) (y : ShareS) (post : List ShareS) (i0 : Nat), s ∈ y.to → (capsOf s i0 (pre ++ y :: post))[(capsOf s i0 pre).length]? = some ⟨((i0 + pre.length : Nat) : Int), 3, 0, y.n, 0, 0⟩ := by
    intro pre
    induction pre with
    | nil => intro y post i0 hy; show (if s ∈ y.to then _ :: capsOf s (i0 + 1) post else capsOf s (i0 + 1) post)[0]? = _; rw [if_pos hy]; simp
    | cons z pre ih =>
      intro y post i0 hy
      have e : i0 + 1 + pre.length = i0 + (z :: pre).length := by simp; omega
      rw [List.cons_append, capsOf, capsOf]
      split
      · rw [List.length_cons, List.getElem?_cons_succ, ih y post (i0 + 1) hy, e]
      · rw [ih y post (i0 + 1) hy, e]
  have hsp : B.shared = B.shared.take i ++ x :: B.shared.drop (i + 1) := by
    rw [← (List.getElem?_eq_some_iff.1 hx).2, ← List.drop_eq_getElem_cons hlt, List.take_append_drop]
  have hk := key (B.shared.take i) x (B.shared.drop (i + 1)) 0 hs
  rw [← hsp, hli, Nat.zero_add] at hk
  have hcl := capsOf_len s B.shared 0
  refine ⟨?_, (List.getElem?_eq_some_iff.1 hk).1, ?_⟩
  · unfold spGet idx
    rw [if_pos (by omega), Int.toNat_natCast, h1]
    exact tabGet_row (by omega) hk
  · rw [List.take_succ_eq_append_getElem hlt, (List.getElem?_eq_some_iff.1 hx).2, capsOf_app, if_pos hs]; simp
theorem cp_skip {B : BootS} {s : Int} {i : Nat} {x : ShareS} (hx : B.shared[i]? = some x) (hs : s ∉ x.to) : capsOf s 0 (B.shared.take (i + 1)) = capsOf s 0 (B.shared.take i) := by
  have hlt := (List.getElem?_eq_some_iff.1 hx).1
  rw [List.take_succ_eq_append_getElem hlt, (List.getElem?_eq_some_iff.1 hx).2, capsOf_app, if_neg hs, List.append_nil]
theorem cp_names {B : BootS} (bo : BootOk B) {e : Nat} {s : Int} (he : B.envs[e]? = some s) : spNames (kNew B).tabs e = capNames (capsOf s 0 B.shared) := by
  have h1 := (tabs_new bo).tabs e s he
  rw [List.take_of_length_le (Nat.le_refl _)] at h1
  unfold spNames idx
  rw [if_pos (by omega), Int.toNat_natCast, h1]
  exact tabNames_row _
theorem cp_grant {B : BootS} {e name to n : Int} {i m : Int} (hk : 0 ≤ e ∧ e < (kNew B).envs.length) (hg : spGet (kNew B).tabs e name = some ⟨i, 3, 0, m, 0, 0⟩) : kAns (kNew B) e ⟨4, name, 0, n, to, 1, []⟩ = ((3, 0, []), kNew B) := by
  have he : grantE (kNew B).tabs e name to 1 0 n = (3, .zero) := by
    unfold grantE; rw [hg]
    dsimp only
    rw [if_pos (by rw [Bool.or_eq_true]; left; exact (by decide : (bitA .i64 3 4 == 0) = true))]
  unfold kAns
  rw [if_neg (by omega)]
  have : kDo (kNew B) e ⟨4, name, 0, n, to, 1, []⟩ = (((spGrantV (kNew B).tabs e name to 1 0 n).2, (spGrantV (kNew B).tabs e name to 1 0 n).1, []), putTabs (kNew B) (spGrant (kNew B).tabs e name to 1 0 n)) := rfl
  have h2 : spGrantV (kNew B).tabs e name to 1 0 n = (0, 3) := by unfold spGrantV; rw [he, if_neg (by simp)]
  have h3 : spGrant (kNew B).tabs e name to 1 0 n = (kNew B).tabs := by unfold spGrant; rw [he, if_neg (by simp)]
  rw [this, h2, h3]; rfl
end Go.EQ

set_option linter.unusedSimpArgs false
set_option linter.unusedVariables false
set_option maxRecDepth 100000
namespace Go.EQ
open Go Go.NN
theorem eqCap {α : Type} (a c d e f g : Int) (k : Bool → Option α) : NN.eqAgg PR Y_api_Cap [int a, int c, int d, int e, int f, int g] [int a, int c, int d, int e, int f, int g] k = k true := by
  have hl : NN.leafs PR 8 Y_api_Cap = some [.int .i64, .int .i64, .int .i64, .int .i64, .int .i64, .int .i64] := by kernel_rfl
  unfold NN.eqAgg
  rw [hl]
  simp [NN.fitL, NN.eqs, NN.eq1, NN.eqK, NN.ckB]
section
variable (B : BootS) (A : BA) (bo : BootOk B) (ka : BaOk B A) (ok : KOk 0 (kNew B)) (hto : ∀ x ∈ B.shared, x.to.length ≤ 100) (b k : Nat) (e : Nat) (s : Int) (hes : B.envs[e]? = some s) (to n : Int) (na : Option Addr) (nc : Nat)
def cpGoal (at_ i : Nat) : Prop :=
  CtJ JUMP F_law8_KernCaps T_law8_KernCaps_L1 [(1, int e), (2, int to), (3, int n), (9, P0 b), (10, P0 k), (12, .slice na (capNames (capsOf s 0 B.shared)).length nc), (13, int at_), (14, int i)] (cpF B A b k na nc (capNames (capsOf s 0 B.shared))) fun v own => v = .bool true
include bo ka ok hto hes
theorem cp_L2 (i : Nat) (x : ShareS) (hx : B.shared[i]? = some x) (next : cpGoal B A b k e s to n na nc (capsOf s 0 (B.shared.take (i + 1))).length (i + 1)) : ∀ (m j : Nat), x.to.length - j = m → j ≤ x.to.length →
    CtJ JUMP F_law8_KernCaps T_law8_KernCaps_L2 [(1, int e), (2, int to), (3, int n), (9, P0 b), (10, P0 k), (12, .slice na (capNames (capsOf s 0 B.shared)).length nc), (13, int ((capsOf s 0 (B.shared.take i)).length : Nat)), (14, int i), (15, .bool (decide (s ∈ x.to.take j))), (16, int j)]
      (cpF B A b k na nc (capNames (capsOf s 0 B.shared))) fun v own => v = .bool true := by
  obtain ⟨fa, fc, ea, ec, sa, sc, ss, ha, hc, hs⟩ := A
  have khs := ka.hs
  simp only at khs
  have hlt := (List.getElem?_eq_some_iff.1 hx).1
  have h16 := bo.shared
  obtain ⟨⟨ya, yc⟩, hy⟩ : ∃ y, hs[i]? = some y := ⟨hs[i]'(by omega), List.getElem?_eq_getElem _⟩
  have hz := getZip hy hx
  have c3 : ((List.zip hs B.shared).flatMap shareL)[i * 5 + 3]? = some (.int .i64 x.n) := flat_get shareL_len hz (by omega)
  have c4 : ((List.zip hs B.shared).flatMap shareL)[i * 5 + 4]? = some (.slice ya x.to.length yc) := flat_get shareL_len hz (by omega)
  have hev : (B.envs.map int)[e]? = some (.int .i64 s) := by rw [List.getElem?_map, hes]; rfl
  have helt := (List.getElem?_eq_some_iff.1 hes).1
  have e1 : IntKind.wrap .i64 ((i : Int) + 1) = ((i + 1 : Nat) : Int) := by rw [wrap_eq]; omega
  have htx := hto x (List.mem_of_getElem? hx)
  intro m
  induction m with
  | zero =>
    intro j hm hj
    obtain rfl : j = x.to.length := by omega
    refine CtJ.of k_law8_KernCaps fun h r => Tr.eq (e_law8_KernCaps_L2 ..) ?_; (try simp only[nrm,nrmL,aSome_some,Nat.reduceAdd,Nat.reduceMul,Int.reduceToNat])
    rw [Int.toNat_natCast]
    (repeat' first|(with_reducible first|refine Ga ?_|refine Gn fun b h=>?_|refine Tr.xFits ?_|rintro px rfl|refine fun(h:H)=>?_|intro hb)|((with_reducible first|apply Gb|apply Gc|apply Gd|apply Ge|apply Gf|apply Gg|apply Gh|apply Gi);·first|rfl|assumption)|((with_reducible first|apply Gj|apply Gk|apply Gl|apply Gm);·first|assumption|rfl)|((with_reducible apply Tr.xV);·exact⟨Nat.le_of_ble_eq_true rfl,rfl,rfl⟩)|((with_reducible apply Tr.xAgg);·exact⟨Nat.le_of_ble_eq_true rfl,rfl⟩)|((with_reducible apply Tr.xPAgg);·exact⟨Nat.le_of_ble_eq_true rfl,rfl,rfl⟩)|((with_reducible first|refine Tr.ck ?_ ?_|apply Tr.xSome|apply Tr.xCells);·first|rfl|omega|(simp only[gnd] at hb;omega))|((with_reducible refine Tr.same ?_ ?_);·first|exact sameV_sl _ _ _|exact sameV_ptr _|exact sameV_int _ _|exact sameV_bool _|exact sameV_str _)|((with_reducible apply Tr.xCellsB);·exact⟨Nat.le_of_ble_eq_true rfl,rfl⟩)|((with_reducible apply Tr.asBytes);·exact bytesN1_byteCells _)|(refine Tr.some fun _=>?_;exact⟨rfl,rfl⟩)|fail)
    refine Tr.condF (by simp) ?_
    rw [List.take_length]
    by_cases hin : s ∈ x.to
    · obtain ⟨hg, hl, hn⟩ := cp_get bo hes hx hin
      rw [hn] at next
      generalize (capsOf s 0 (B.shared.take i)).length = K at hg hl next
      have hcl : (capNames (capsOf s 0 B.shared)).length = (capsOf s 0 B.shared).length := by simp [capNames]
      have hnm : ((capNames (capsOf s 0 B.shared)).map int)[K]? = some (.int .i64 ((K : Int) + 256)) := by simp [capNames, hl]
      have hcl2 := capsOf_len s B.shared 0
      have e3 : IntKind.wrap .i64 ((K : Int) + 1) = ((K + 1 : Nat) : Int) := by rw [wrap_eq]; omega
      have hke : 0 ≤ (e : Int) ∧ (e : Int) < (kNew B).envs.length := by rw [(tabs_new bo).envs]; omega
      have hgr := cp_grant (to := to) (n := n) hke hg
      rw [decide_eq_true hin, hcl]
      refine Tr.condF rfl ?_
      refine Tr.condF (by simp; omega) ?_
      rw [Int.toNat_natCast]
      (repeat' first|(with_reducible first|refine Ga ?_|refine Gn fun b h=>?_|refine Tr.xFits ?_|rintro px rfl|refine fun(h:H)=>?_|intro hb)|((with_reducible first|apply Gb|apply Gc|apply Gd|apply Ge|apply Gf|apply Gg|apply Gh|apply Gi);·first|rfl|assumption)|((with_reducible first|apply Gj|apply Gk|apply Gl|apply Gm);·first|assumption|rfl)|((with_reducible apply Tr.xV);·exact⟨Nat.le_of_ble_eq_true rfl,rfl,rfl⟩)|((with_reducible apply Tr.xAgg);·exact⟨Nat.le_of_ble_eq_true rfl,rfl⟩)|((with_reducible apply Tr.xPAgg);·exact⟨Nat.le_of_ble_eq_true rfl,rfl,rfl⟩)|((with_reducible first|refine Tr.ck ?_ ?_|apply Tr.xSome|apply Tr.xCells);·first|rfl|omega|(simp only[gnd] at hb;omega))|((with_reducible refine Tr.same ?_ ?_);·first|exact sameV_sl _ _ _|exact sameV_ptr _|exact sameV_int _ _|exact sameV_bool _|exact sameV_str _)|((with_reducible apply Tr.xCellsB);·exact⟨Nat.le_of_ble_eq_true rfl,rfl⟩)|((with_reducible apply Tr.asBytes);·exact bytesN1_byteCells _)|(refine Tr.some fun _=>?_;exact⟨rfl,rfl⟩)|fail)
      refine tr_open (kernC k (kNew B)) fun KA => ?_; (try simp only[nrm,nrmL,aSome_some,Nat.reduceAdd,Nat.reduceMul,Int.reduceToNat])
      refine Tr.pcall (ct_kSpace k (kNew B) KA) ?_
      (repeat' first|(with_reducible first|refine Ga ?_|refine Gn fun b h=>?_|refine Tr.xFits ?_|rintro px rfl|refine fun(h:H)=>?_|intro hb)|((with_reducible first|apply Gb|apply Gc|apply Gd|apply Ge|apply Gf|apply Gg|apply Gh|apply Gi);·first|rfl|assumption)|((with_reducible first|apply Gj|apply Gk|apply Gl|apply Gm);·first|assumption|rfl)|((with_reducible apply Tr.xV);·exact⟨Nat.le_of_ble_eq_true rfl,rfl,rfl⟩)|((with_reducible apply Tr.xAgg);·exact⟨Nat.le_of_ble_eq_true rfl,rfl⟩)|((with_reducible apply Tr.xPAgg);·exact⟨Nat.le_of_ble_eq_true rfl,rfl,rfl⟩)|((with_reducible first|refine Tr.ck ?_ ?_|apply Tr.xSome|apply Tr.xCells);·first|rfl|omega|(simp only[gnd] at hb;omega))|((with_reducible refine Tr.same ?_ ?_);·first|exact sameV_sl _ _ _|exact sameV_ptr _|exact sameV_int _ _|exact sameV_bool _|exact sameV_str _)|((with_reducible apply Tr.xCellsB);·exact⟨Nat.le_of_ble_eq_true rfl,rfl⟩)|((with_reducible apply Tr.asBytes);·exact bytesN1_byteCells _)|(refine Tr.some fun _=>?_;exact⟨rfl,rfl⟩)|fail)
      refine Tr.xCall (ct_spGet KA.s (kNew B).tabs e ((K : Int) + 256) ok.space) ?_; rintro _ h ⟨rfl, o⟩ <;> (refine (?_ : Tr _ _ _ _) o; (try simp only[nrm,nrmL,aSome_some,Nat.reduceAdd,Nat.reduceMul,Int.reduceToNat]))
      rw [hg]
      simp only [spGetV, Option.getD_some, Option.isSome_some, if_true]
      (repeat' first|(with_reducible first|refine Ga ?_|refine Gn fun b h=>?_|refine Tr.xFits ?_|rintro px rfl|refine fun(h:H)=>?_|intro hb)|((with_reducible first|apply Gb|apply Gc|apply Gd|apply Ge|apply Gf|apply Gg|apply Gh|apply Gi);·first|rfl|assumption)|((with_reducible first|apply Gj|apply Gk|apply Gl|apply Gm);·first|assumption|rfl)|((with_reducible apply Tr.xV);·exact⟨Nat.le_of_ble_eq_true rfl,rfl,rfl⟩)|((with_reducible apply Tr.xAgg);·exact⟨Nat.le_of_ble_eq_true rfl,rfl⟩)|((with_reducible apply Tr.xPAgg);·exact⟨Nat.le_of_ble_eq_true rfl,rfl,rfl⟩)|((with_reducible first|refine Tr.ck ?_ ?_|apply Tr.xSome|apply Tr.xCells);·first|rfl|omega|(simp only[gnd] at hb;omega))|((with_reducible refine Tr.same ?_ ?_);·first|exact sameV_sl _ _ _|exact sameV_ptr _|exact sameV_int _ _|exact sameV_bool _|exact sameV_str _)|((with_reducible apply Tr.xCellsB);·exact⟨Nat.le_of_ble_eq_true rfl,rfl⟩)|((with_reducible apply Tr.asBytes);·exact bytesN1_byteCells _)|(refine Tr.some fun _=>?_;exact⟨rfl,rfl⟩)|fail)
      simp only [List.length_cons, List.length_nil]
      (try simp only[nrm,nrmL,aSome_some,Nat.reduceAdd,Nat.reduceMul,Int.reduceToNat])
      refine Tr.bnd (Tr.condF rfl ?_)
      (repeat' first|(with_reducible first|refine Ga ?_|refine Gn fun b h=>?_|refine Tr.xFits ?_|rintro px rfl|refine fun(h:H)=>?_|intro hb)|((with_reducible first|apply Gb|apply Gc|apply Gd|apply Ge|apply Gf|apply Gg|apply Gh|apply Gi);·first|rfl|assumption)|((with_reducible first|apply Gj|apply Gk|apply Gl|apply Gm);·first|assumption|rfl)|((with_reducible apply Tr.xV);·exact⟨Nat.le_of_ble_eq_true rfl,rfl,rfl⟩)|((with_reducible apply Tr.xAgg);·exact⟨Nat.le_of_ble_eq_true rfl,rfl⟩)|((with_reducible apply Tr.xPAgg);·exact⟨Nat.le_of_ble_eq_true rfl,rfl,rfl⟩)|((with_reducible first|refine Tr.ck ?_ ?_|apply Tr.xSome|apply Tr.xCells);·first|rfl|omega|(simp only[gnd] at hb;omega))|((with_reducible refine Tr.same ?_ ?_);·first|exact sameV_sl _ _ _|exact sameV_ptr _|exact sameV_int _ _|exact sameV_bool _|exact sameV_str _)|((with_reducible apply Tr.xCellsB);·exact⟨Nat.le_of_ble_eq_true rfl,rfl⟩)|((with_reducible apply Tr.asBytes);·exact bytesN1_byteCells _)|(refine Tr.some fun _=>?_;exact⟨rfl,rfl⟩)|fail)
      refine Tr.eq (eqCap (i : Int) 3 0 x.n 0 0 _) ?_
      refine Tr.some fun o => (?_ : Tr _ _ _ _) o; (try simp only[nrm,nrmL,aSome_some,Nat.reduceAdd,Nat.reduceMul,Int.reduceToNat])
      refine Tr.condF rfl ?_
      (repeat' first|(with_reducible first|refine Ga ?_|refine Gn fun b h=>?_|refine Tr.xFits ?_|rintro px rfl|refine fun(h:H)=>?_|intro hb)|((with_reducible first|apply Gb|apply Gc|apply Gd|apply Ge|apply Gf|apply Gg|apply Gh|apply Gi);·first|rfl|assumption)|((with_reducible first|apply Gj|apply Gk|apply Gl|apply Gm);·first|assumption|rfl)|((with_reducible apply Tr.xV);·exact⟨Nat.le_of_ble_eq_true rfl,rfl,rfl⟩)|((with_reducible apply Tr.xAgg);·exact⟨Nat.le_of_ble_eq_true rfl,rfl⟩)|((with_reducible apply Tr.xPAgg);·exact⟨Nat.le_of_ble_eq_true rfl,rfl,rfl⟩)|((with_reducible first|refine Tr.ck ?_ ?_|apply Tr.xSome|apply Tr.xCells);·first|rfl|omega|(simp only[gnd] at hb;omega))|((with_reducible refine Tr.same ?_ ?_);·first|exact sameV_sl _ _ _|exact sameV_ptr _|exact sameV_int _ _|exact sameV_bool _|exact sameV_str _)|((with_reducible apply Tr.xCellsB);·exact⟨Nat.le_of_ble_eq_true rfl,rfl⟩)|((with_reducible apply Tr.asBytes);·exact bytesN1_byteCells _)|(refine Tr.some fun _=>?_;exact⟨rfl,rfl⟩)|fail)
      refine tr_foldI (kernC k (kNew B)) KA [1, 1, 1, 1, 1, 0, 0, 0, 0, 0, 0] rfl ?_; (try simp only[nrm,nrmL,aSome_some,Nat.reduceAdd,Nat.reduceMul,Int.reduceToNat])
      refine Tr.xCall (ct_kDo0 k (kNew B) 0 ok (by omega) e 4 ((K : Int) + 256) 0 n to 1 (by decide)) ?_; rintro _ h ⟨x2, d2, rfl, o⟩ <;> (refine (?_ : Tr _ _ _ _) o; (try simp only[nrm,nrmL,aSome_some,Nat.reduceAdd,Nat.reduceMul,Int.reduceToNat]); (repeat' first|(with_reducible first|refine Ga ?_|refine Gn fun b h=>?_|refine Tr.xFits ?_|rintro px rfl|refine fun(h:H)=>?_|intro hb)|((with_reducible first|apply Gb|apply Gc|apply Gd|apply Ge|apply Gf|apply Gg|apply Gh|apply Gi);·first|rfl|assumption)|((with_reducible first|apply Gj|apply Gk|apply Gl|apply Gm);·first|assumption|rfl)|((with_reducible apply Tr.xV);·exact⟨Nat.le_of_ble_eq_true rfl,rfl,rfl⟩)|((with_reducible apply Tr.xAgg);·exact⟨Nat.le_of_ble_eq_true rfl,rfl⟩)|((with_reducible apply Tr.xPAgg);·exact⟨Nat.le_of_ble_eq_true rfl,rfl,rfl⟩)|((with_reducible first|refine Tr.ck ?_ ?_|apply Tr.xSome|apply Tr.xCells);·first|rfl|omega|(simp only[gnd] at hb;omega))|((with_reducible refine Tr.same ?_ ?_);·first|exact sameV_sl _ _ _|exact sameV_ptr _|exact sameV_int _ _|exact sameV_bool _|exact sameV_str _)|((with_reducible apply Tr.xCellsB);·exact⟨Nat.le_of_ble_eq_true rfl,rfl⟩)|((with_reducible apply Tr.asBytes);·exact bytesN1_byteCells _)|(refine Tr.some fun _=>?_;exact⟨rfl,rfl⟩)|fail))
      rw [hgr]
      (repeat' first|(with_reducible first|refine Ga ?_|refine Gn fun b h=>?_|refine Tr.xFits ?_|rintro px rfl|refine fun(h:H)=>?_|intro hb)|((with_reducible first|apply Gb|apply Gc|apply Gd|apply Ge|apply Gf|apply Gg|apply Gh|apply Gi);·first|rfl|assumption)|((with_reducible first|apply Gj|apply Gk|apply Gl|apply Gm);·first|assumption|rfl)|((with_reducible apply Tr.xV);·exact⟨Nat.le_of_ble_eq_true rfl,rfl,rfl⟩)|((with_reducible apply Tr.xAgg);·exact⟨Nat.le_of_ble_eq_true rfl,rfl⟩)|((with_reducible apply Tr.xPAgg);·exact⟨Nat.le_of_ble_eq_true rfl,rfl,rfl⟩)|((with_reducible first|refine Tr.ck ?_ ?_|apply Tr.xSome|apply Tr.xCells);·first|rfl|omega|(simp only[gnd] at hb;omega))|((with_reducible refine Tr.same ?_ ?_);·first|exact sameV_sl _ _ _|exact sameV_ptr _|exact sameV_int _ _|exact sameV_bool _|exact sameV_str _)|((with_reducible apply Tr.xCellsB);·exact⟨Nat.le_of_ble_eq_true rfl,rfl⟩)|((with_reducible apply Tr.asBytes);·exact bytesN1_byteCells _)|(refine Tr.some fun _=>?_;exact⟨rfl,rfl⟩)|fail)
      refine Tr.condF rfl ?_
      rw [e3, e1]
      unfold cpGoal cpF at next
      rw [hcl] at next
      refine Tr.xRun (next) ?_; rintro _ h rfl
      rfl
    · rw [decide_eq_false hin]
      refine Tr.condT rfl ?_
      rw [e1]
      rw [cp_skip hx hin] at next
      refine Tr.xRun (next) ?_; rintro _ h rfl
      rfl
  | succ m ih =>
    intro j hm hj
    have hjl : j < x.to.length := by omega
    have hxj : x.to[j]? = some x.to[j] := List.getElem?_eq_getElem hjl
    generalize x.to[j] = w at hxj
    have hwg : (x.to.map int)[j]? = some (.int .i64 w) := by rw [List.getElem?_map, hxj]; rfl
    have e2 : IntKind.wrap .i64 ((j : Int) + 1) = ((j + 1 : Nat) : Int) := by rw [wrap_eq]; omega
    refine CtJ.of k_law8_KernCaps fun h r => Tr.eq (e_law8_KernCaps_L2 ..) ?_; (try simp only[nrm,nrmL,aSome_some,Nat.reduceAdd,Nat.reduceMul,Int.reduceToNat])
    rw [Int.toNat_natCast]
    (repeat' first|(with_reducible first|refine Ga ?_|refine Gn fun b h=>?_|refine Tr.xFits ?_|rintro px rfl|refine fun(h:H)=>?_|intro hb)|((with_reducible first|apply Gb|apply Gc|apply Gd|apply Ge|apply Gf|apply Gg|apply Gh|apply Gi);·first|rfl|assumption)|((with_reducible first|apply Gj|apply Gk|apply Gl|apply Gm);·first|assumption|rfl)|((with_reducible apply Tr.xV);·exact⟨Nat.le_of_ble_eq_true rfl,rfl,rfl⟩)|((with_reducible apply Tr.xAgg);·exact⟨Nat.le_of_ble_eq_true rfl,rfl⟩)|((with_reducible apply Tr.xPAgg);·exact⟨Nat.le_of_ble_eq_true rfl,rfl,rfl⟩)|((with_reducible first|refine Tr.ck ?_ ?_|apply Tr.xSome|apply Tr.xCells);·first|rfl|omega|(simp only[gnd] at hb;omega))|((with_reducible refine Tr.same ?_ ?_);·first|exact sameV_sl _ _ _|exact sameV_ptr _|exact sameV_int _ _|exact sameV_bool _|exact sameV_str _)|((with_reducible apply Tr.xCellsB);·exact⟨Nat.le_of_ble_eq_true rfl,rfl⟩)|((with_reducible apply Tr.asBytes);·exact bytesN1_byteCells _)|(refine Tr.some fun _=>?_;exact⟨rfl,rfl⟩)|fail)
    refine Tr.condT (by simp; omega) ?_
    refine Tr.orG (c := (w == s)) (fun hb => ?_) ?_
    · refine tr_at2 (toC false) hs B.shared hy hx ?_
      refine (show Tr (slC false Y_int 1 ya x.to.length yc (x.to.map int) :: _) _ _ _ from ?_)
      (repeat' first|(with_reducible first|refine Ga ?_|refine Gn fun b h=>?_|refine Tr.xFits ?_|rintro px rfl|refine fun(h:H)=>?_|intro hb)|((with_reducible first|apply Gb|apply Gc|apply Gd|apply Ge|apply Gf|apply Gg|apply Gh|apply Gi);·first|rfl|assumption)|((with_reducible first|apply Gj|apply Gk|apply Gl|apply Gm);·first|assumption|rfl)|((with_reducible apply Tr.xV);·exact⟨Nat.le_of_ble_eq_true rfl,rfl,rfl⟩)|((with_reducible apply Tr.xAgg);·exact⟨Nat.le_of_ble_eq_true rfl,rfl⟩)|((with_reducible apply Tr.xPAgg);·exact⟨Nat.le_of_ble_eq_true rfl,rfl,rfl⟩)|((with_reducible first|refine Tr.ck ?_ ?_|apply Tr.xSome|apply Tr.xCells);·first|rfl|omega|(simp only[gnd] at hb;omega))|((with_reducible refine Tr.same ?_ ?_);·first|exact sameV_sl _ _ _|exact sameV_ptr _|exact sameV_int _ _|exact sameV_bool _|exact sameV_str _)|((with_reducible apply Tr.xCellsB);·exact⟨Nat.le_of_ble_eq_true rfl,rfl⟩)|((with_reducible apply Tr.asBytes);·exact bytesN1_byteCells _)|(refine Tr.some fun _=>?_;exact⟨rfl,rfl⟩)|fail)
    rw [← take_mem hxj, e2]
    refine Tr.xRun (ih (j + 1) (by omega) (by omega)) ?_; rintro _ h rfl
    rfl
theorem cp_L1 : ∀ (m i : Nat), B.shared.length - i = m → i ≤ B.shared.length → cpGoal B A b k e s to n na nc (capsOf s 0 (B.shared.take i)).length i := by
  intro m
  induction m with
  | zero =>
    intro i hm hi
    obtain rfl : i = B.shared.length := by omega
    unfold cpGoal
    rw [List.take_of_length_le (Nat.le_refl _)]
    refine CtJ.of k_law8_KernCaps fun h r => Tr.eq (e_law8_KernCaps_L1 ..) ?_; (try simp only[nrm,nrmL,aSome_some,Nat.reduceAdd,Nat.reduceMul,Int.reduceToNat])
    (repeat' first|(with_reducible first|refine Ga ?_|refine Gn fun b h=>?_|refine Tr.xFits ?_|rintro px rfl|refine fun(h:H)=>?_|intro hb)|((with_reducible first|apply Gb|apply Gc|apply Gd|apply Ge|apply Gf|apply Gg|apply Gh|apply Gi);·first|rfl|assumption)|((with_reducible first|apply Gj|apply Gk|apply Gl|apply Gm);·first|assumption|rfl)|((with_reducible apply Tr.xV);·exact⟨Nat.le_of_ble_eq_true rfl,rfl,rfl⟩)|((with_reducible apply Tr.xAgg);·exact⟨Nat.le_of_ble_eq_true rfl,rfl⟩)|((with_reducible apply Tr.xPAgg);·exact⟨Nat.le_of_ble_eq_true rfl,rfl,rfl⟩)|((with_reducible first|refine Tr.ck ?_ ?_|apply Tr.xSome|apply Tr.xCells);·first|rfl|omega|(simp only[gnd] at hb;omega))|((with_reducible refine Tr.same ?_ ?_);·first|exact sameV_sl _ _ _|exact sameV_ptr _|exact sameV_int _ _|exact sameV_bool _|exact sameV_str _)|((with_reducible apply Tr.xCellsB);·exact⟨Nat.le_of_ble_eq_true rfl,rfl⟩)|((with_reducible apply Tr.asBytes);·exact bytesN1_byteCells _)|(refine Tr.some fun _=>?_;exact⟨rfl,rfl⟩)|fail)
    refine Tr.condF (by simp) ?_
    refine Tr.bnd (Tr.condT (by simp [capNames]) ?_)
    refine Tr.xCall (ct_awake8) ?_; rintro _ h ⟨rfl, o⟩ <;> (refine (?_ : Tr _ _ _ _) o; (try simp only[nrm,nrmL,aSome_some,Nat.reduceAdd,Nat.reduceMul,Int.reduceToNat]); (repeat' first|(with_reducible first|refine Ga ?_|refine Gn fun b h=>?_|refine Tr.xFits ?_|rintro px rfl|refine fun(h:H)=>?_|intro hb)|((with_reducible first|apply Gb|apply Gc|apply Gd|apply Ge|apply Gf|apply Gg|apply Gh|apply Gi);·first|rfl|assumption)|((with_reducible first|apply Gj|apply Gk|apply Gl|apply Gm);·first|assumption|rfl)|((with_reducible apply Tr.xV);·exact⟨Nat.le_of_ble_eq_true rfl,rfl,rfl⟩)|((with_reducible apply Tr.xAgg);·exact⟨Nat.le_of_ble_eq_true rfl,rfl⟩)|((with_reducible apply Tr.xPAgg);·exact⟨Nat.le_of_ble_eq_true rfl,rfl,rfl⟩)|((with_reducible first|refine Tr.ck ?_ ?_|apply Tr.xSome|apply Tr.xCells);·first|rfl|omega|(simp only[gnd] at hb;omega))|((with_reducible refine Tr.same ?_ ?_);·first|exact sameV_sl _ _ _|exact sameV_ptr _|exact sameV_int _ _|exact sameV_bool _|exact sameV_str _)|((with_reducible apply Tr.xCellsB);·exact⟨Nat.le_of_ble_eq_true rfl,rfl⟩)|((with_reducible apply Tr.asBytes);·exact bytesN1_byteCells _)|(refine Tr.some fun _=>?_;exact⟨rfl,rfl⟩)|fail))
    refine Tr.some fun o => (?_ : Tr _ _ _ _) o; (try simp only[nrm,nrmL,aSome_some,Nat.reduceAdd,Nat.reduceMul,Int.reduceToNat])
    refine Tr.some fun o => ?_
    rfl
  | succ m ih =>
    intro i hm hi
    have hlt : i < B.shared.length := by omega
    have hx : B.shared[i]? = some B.shared[i] := List.getElem?_eq_getElem hlt
    have j2 := cp_L2 B A bo ka ok hto b k e s hes to n na nc i _ hx (ih (i + 1) (by omega) (by omega)) _ 0 rfl (by omega)
    rw [List.take_zero] at j2
    unfold cpGoal
    refine CtJ.of k_law8_KernCaps fun h r => Tr.eq (e_law8_KernCaps_L1 ..) ?_; (try simp only[nrm,nrmL,aSome_some,Nat.reduceAdd,Nat.reduceMul,Int.reduceToNat])
    (repeat' first|(with_reducible first|refine Ga ?_|refine Gn fun b h=>?_|refine Tr.xFits ?_|rintro px rfl|refine fun(h:H)=>?_|intro hb)|((with_reducible first|apply Gb|apply Gc|apply Gd|apply Ge|apply Gf|apply Gg|apply Gh|apply Gi);·first|rfl|assumption)|((with_reducible first|apply Gj|apply Gk|apply Gl|apply Gm);·first|assumption|rfl)|((with_reducible apply Tr.xV);·exact⟨Nat.le_of_ble_eq_true rfl,rfl,rfl⟩)|((with_reducible apply Tr.xAgg);·exact⟨Nat.le_of_ble_eq_true rfl,rfl⟩)|((with_reducible apply Tr.xPAgg);·exact⟨Nat.le_of_ble_eq_true rfl,rfl,rfl⟩)|((with_reducible first|refine Tr.ck ?_ ?_|apply Tr.xSome|apply Tr.xCells);·first|rfl|omega|(simp only[gnd] at hb;omega))|((with_reducible refine Tr.same ?_ ?_);·first|exact sameV_sl _ _ _|exact sameV_ptr _|exact sameV_int _ _|exact sameV_bool _|exact sameV_str _)|((with_reducible apply Tr.xCellsB);·exact⟨Nat.le_of_ble_eq_true rfl,rfl⟩)|((with_reducible apply Tr.asBytes);·exact bytesN1_byteCells _)|(refine Tr.some fun _=>?_;exact⟨rfl,rfl⟩)|fail)
    refine Tr.condT (by simp; omega) ?_
    refine Tr.xRun (j2) ?_; rintro _ h rfl
    rfl
end
end Go.EQ

set_option maxRecDepth 100000
namespace Go.EQ
open Go Go.NN Go.Proofs Go.ChangeShapes Go.WideShapes Go.RowKit
theorem globsOk : ∀ f, (cutsOf f).globs ≤ PR.globals.size := by
  intro f; unfold cutsOf; split <;> exact Nat.zero_le _
theorem mixedOk : PR.follows .mixedOrders = true := by kernel_rfl
theorem laidOk : laidOutB PR = true := by kernel_rfl
theorem ownOk : ownKnob PR.godebug = none := by kernel_rfl
end Go.EQ

set_option linter.unusedSimpArgs false
set_option linter.unusedVariables false
set_option maxRecDepth 100000
namespace Go.EQ
open Go Go.NN
theorem ct_KernCaps (p : HP) (ro : Bool) (a : Option Addr) (c : Nat) (l : List Int) [ks : IsSl p a ro Y_int 1 l.length c (l.map int)] (env to n : Int) :
    Ct CALL F_law8_KernCaps [.slice a l.length c, int env, int to, int n] [p] fun v own => v = .bool true := by
  refine Ct.of k_law8_KernCaps rfl fun h r => Tr.eq (e_law8_KernCaps ..) ?_; (try simp only[nrm,nrmL,aSome_some,Nat.reduceAdd,Nat.reduceMul,Int.reduceToNat])
  refine Tr.xCall (ct_Boot p ro a c l) ?_; rintro _ h ⟨B, A, rb, h5, h2, h3, ba, rfl, o⟩ <;> (refine (?_ : Tr _ _ _ _) o; (try simp only[nrm,nrmL,aSome_some,Nat.reduceAdd,Nat.reduceMul,Int.reduceToNat]))
  have bok := rb_ok rb h5 h2 h3
  have sm := rb_small rb h5
  have ok := kNew_ok bok sm
  have bo := bootOk_spec bok
  refine Ga ?_
  refine Tr.nw fun b g1 => ?_
  (repeat' first|(with_reducible first|refine Ga ?_|refine Gn fun b h=>?_|refine Tr.xFits ?_|rintro px rfl|refine fun(h:H)=>?_|intro hb)|((with_reducible first|apply Gb|apply Gc|apply Gd|apply Ge|apply Gf|apply Gg|apply Gh|apply Gi);·first|rfl|assumption)|((with_reducible first|apply Gj|apply Gk|apply Gl|apply Gm);·first|assumption|rfl)|((with_reducible apply Tr.xV);·exact⟨Nat.le_of_ble_eq_true rfl,rfl,rfl⟩)|((with_reducible apply Tr.xAgg);·exact⟨Nat.le_of_ble_eq_true rfl,rfl⟩)|((with_reducible apply Tr.xPAgg);·exact⟨Nat.le_of_ble_eq_true rfl,rfl,rfl⟩)|((with_reducible first|refine Tr.ck ?_ ?_|apply Tr.xSome|apply Tr.xCells);·first|rfl|omega|(simp only[gnd] at hb;omega))|((with_reducible refine Tr.same ?_ ?_);·first|exact sameV_sl _ _ _|exact sameV_ptr _|exact sameV_int _ _|exact sameV_bool _|exact sameV_str _)|((with_reducible apply Tr.xCellsB);·exact⟨Nat.le_of_ble_eq_true rfl,rfl⟩)|((with_reducible apply Tr.asBytes);·exact bytesN1_byteCells _)|(refine Tr.some fun _=>?_;exact⟨rfl,rfl⟩)|fail)
  refine Tr.xCall (ct_New false B A ba sm) ?_
  intro v h hv
  rw [if_pos bok] at hv
  obtain ⟨k, rfl, o⟩ := hv
  refine (?_ : Tr _ _ _ _) o
  (try simp only[nrm,nrmL,aSome_some,Nat.reduceAdd,Nat.reduceMul,Int.reduceToNat])
  (repeat' first|(with_reducible first|refine Ga ?_|refine Gn fun b h=>?_|refine Tr.xFits ?_|rintro px rfl|refine fun(h:H)=>?_|intro hb)|((with_reducible first|apply Gb|apply Gc|apply Gd|apply Ge|apply Gf|apply Gg|apply Gh|apply Gi);·first|rfl|assumption)|((with_reducible first|apply Gj|apply Gk|apply Gl|apply Gm);·first|assumption|rfl)|((with_reducible apply Tr.xV);·exact⟨Nat.le_of_ble_eq_true rfl,rfl,rfl⟩)|((with_reducible apply Tr.xAgg);·exact⟨Nat.le_of_ble_eq_true rfl,rfl⟩)|((with_reducible apply Tr.xPAgg);·exact⟨Nat.le_of_ble_eq_true rfl,rfl,rfl⟩)|((with_reducible first|refine Tr.ck ?_ ?_|apply Tr.xSome|apply Tr.xCells);·first|rfl|omega|(simp only[gnd] at hb;omega))|((with_reducible refine Tr.same ?_ ?_);·first|exact sameV_sl _ _ _|exact sameV_ptr _|exact sameV_int _ _|exact sameV_bool _|exact sameV_str _)|((with_reducible apply Tr.xCellsB);·exact⟨Nat.le_of_ble_eq_true rfl,rfl⟩)|((with_reducible apply Tr.asBytes);·exact bytesN1_byteCells _)|(refine Tr.some fun _=>?_;exact⟨rfl,rfl⟩)|fail)
  refine Tr.bnd (Tr.condF rfl ?_)
  (repeat' first|(with_reducible first|refine Ga ?_|refine Gn fun b h=>?_|refine Tr.xFits ?_|rintro px rfl|refine fun(h:H)=>?_|intro hb)|((with_reducible first|apply Gb|apply Gc|apply Gd|apply Ge|apply Gf|apply Gg|apply Gh|apply Gi);·first|rfl|assumption)|((with_reducible first|apply Gj|apply Gk|apply Gl|apply Gm);·first|assumption|rfl)|((with_reducible apply Tr.xV);·exact⟨Nat.le_of_ble_eq_true rfl,rfl,rfl⟩)|((with_reducible apply Tr.xAgg);·exact⟨Nat.le_of_ble_eq_true rfl,rfl⟩)|((with_reducible apply Tr.xPAgg);·exact⟨Nat.le_of_ble_eq_true rfl,rfl,rfl⟩)|((with_reducible first|refine Tr.ck ?_ ?_|apply Tr.xSome|apply Tr.xCells);·first|rfl|omega|(simp only[gnd] at hb;omega))|((with_reducible refine Tr.same ?_ ?_);·first|exact sameV_sl _ _ _|exact sameV_ptr _|exact sameV_int _ _|exact sameV_bool _|exact sameV_str _)|((with_reducible apply Tr.xCellsB);·exact⟨Nat.le_of_ble_eq_true rfl,rfl⟩)|((with_reducible apply Tr.asBytes);·exact bytesN1_byteCells _)|(refine Tr.some fun _=>?_;exact⟨rfl,rfl⟩)|fail)
  refine Tr.some fun o => (?_ : Tr _ _ _ _) o; (try simp only[nrm,nrmL,aSome_some,Nat.reduceAdd,Nat.reduceMul,Int.reduceToNat])
  refine Tr.bnd (Tr.condF rfl ?_)
  refine tr_open (kernC k (kNew B)) fun KA => ?_; (try simp only[nrm,nrmL,aSome_some,Nat.reduceAdd,Nat.reduceMul,Int.reduceToNat])
  refine Tr.pcall (ct_kSpace k (kNew B) KA) ?_
  (repeat' first|(with_reducible first|refine Ga ?_|refine Gn fun b h=>?_|refine Tr.xFits ?_|rintro px rfl|refine fun(h:H)=>?_|intro hb)|((with_reducible first|apply Gb|apply Gc|apply Gd|apply Ge|apply Gf|apply Gg|apply Gh|apply Gi);·first|rfl|assumption)|((with_reducible first|apply Gj|apply Gk|apply Gl|apply Gm);·first|assumption|rfl)|((with_reducible apply Tr.xV);·exact⟨Nat.le_of_ble_eq_true rfl,rfl,rfl⟩)|((with_reducible apply Tr.xAgg);·exact⟨Nat.le_of_ble_eq_true rfl,rfl⟩)|((with_reducible apply Tr.xPAgg);·exact⟨Nat.le_of_ble_eq_true rfl,rfl,rfl⟩)|((with_reducible first|refine Tr.ck ?_ ?_|apply Tr.xSome|apply Tr.xCells);·first|rfl|omega|(simp only[gnd] at hb;omega))|((with_reducible refine Tr.same ?_ ?_);·first|exact sameV_sl _ _ _|exact sameV_ptr _|exact sameV_int _ _|exact sameV_bool _|exact sameV_str _)|((with_reducible apply Tr.xCellsB);·exact⟨Nat.le_of_ble_eq_true rfl,rfl⟩)|((with_reducible apply Tr.asBytes);·exact bytesN1_byteCells _)|(refine Tr.some fun _=>?_;exact⟨rfl,rfl⟩)|fail)
  refine Tr.some fun o => (?_ : Tr _ _ _ _) o; (try simp only[nrm,nrmL,aSome_some,Nat.reduceAdd,Nat.reduceMul,Int.reduceToNat])
  refine Tr.condF rfl ?_
  (repeat' first|(with_reducible first|refine Ga ?_|refine Gn fun b h=>?_|refine Tr.xFits ?_|rintro px rfl|refine fun(h:H)=>?_|intro hb)|((with_reducible first|apply Gb|apply Gc|apply Gd|apply Ge|apply Gf|apply Gg|apply Gh|apply Gi);·first|rfl|assumption)|((with_reducible first|apply Gj|apply Gk|apply Gl|apply Gm);·first|assumption|rfl)|((with_reducible apply Tr.xV);·exact⟨Nat.le_of_ble_eq_true rfl,rfl,rfl⟩)|((with_reducible apply Tr.xAgg);·exact⟨Nat.le_of_ble_eq_true rfl,rfl⟩)|((with_reducible apply Tr.xPAgg);·exact⟨Nat.le_of_ble_eq_true rfl,rfl,rfl⟩)|((with_reducible first|refine Tr.ck ?_ ?_|apply Tr.xSome|apply Tr.xCells);·first|rfl|omega|(simp only[gnd] at hb;omega))|((with_reducible refine Tr.same ?_ ?_);·first|exact sameV_sl _ _ _|exact sameV_ptr _|exact sameV_int _ _|exact sameV_bool _|exact sameV_str _)|((with_reducible apply Tr.xCellsB);·exact⟨Nat.le_of_ble_eq_true rfl,rfl⟩)|((with_reducible apply Tr.asBytes);·exact bytesN1_byteCells _)|(refine Tr.some fun _=>?_;exact⟨rfl,rfl⟩)|fail)
  refine Tr.pcall (ct_kSpace k (kNew B) KA) ?_
  (repeat' first|(with_reducible first|refine Ga ?_|refine Gn fun b h=>?_|refine Tr.xFits ?_|rintro px rfl|refine fun(h:H)=>?_|intro hb)|((with_reducible first|apply Gb|apply Gc|apply Gd|apply Ge|apply Gf|apply Gg|apply Gh|apply Gi);·first|rfl|assumption)|((with_reducible first|apply Gj|apply Gk|apply Gl|apply Gm);·first|assumption|rfl)|((with_reducible apply Tr.xV);·exact⟨Nat.le_of_ble_eq_true rfl,rfl,rfl⟩)|((with_reducible apply Tr.xAgg);·exact⟨Nat.le_of_ble_eq_true rfl,rfl⟩)|((with_reducible apply Tr.xPAgg);·exact⟨Nat.le_of_ble_eq_true rfl,rfl,rfl⟩)|((with_reducible first|refine Tr.ck ?_ ?_|apply Tr.xSome|apply Tr.xCells);·first|rfl|omega|(simp only[gnd] at hb;omega))|((with_reducible refine Tr.same ?_ ?_);·first|exact sameV_sl _ _ _|exact sameV_ptr _|exact sameV_int _ _|exact sameV_bool _|exact sameV_str _)|((with_reducible apply Tr.xCellsB);·exact⟨Nat.le_of_ble_eq_true rfl,rfl⟩)|((with_reducible apply Tr.asBytes);·exact bytesN1_byteCells _)|(refine Tr.some fun _=>?_;exact⟨rfl,rfl⟩)|fail)
  have hen : 0 ≤ bitA .i64 env 255 := by rw [bitA_255]; omega
  obtain ⟨t1, t2⟩ := tmod_in hen (show (0 : Int) < (B.envs.length : Int) by omega)
  obtain ⟨e, he⟩ : ∃ e : Nat, (bitA .i64 env 255).tmod (B.envs.length : Int) = (e : Int) := ⟨_, (Int.toNat_of_nonneg t1).symm⟩
  rw [he] at t2 ⊢
  have hes : B.envs[e]? = some (B.envs[e]'(by omega)) := List.getElem?_eq_getElem _
  generalize B.envs[e]'(by omega) = s at hes
  refine Tr.xCall (ct_spNames KA.s (kNew B).tabs e ok.space) ?_; rintro _ h ⟨na, nc, rfl, o⟩ <;> (refine (?_ : Tr _ _ _ _) o; (try simp only[nrm,nrmL,aSome_some,Nat.reduceAdd,Nat.reduceMul,Int.reduceToNat]))
  rw [cp_names bo hes]
  refine Ga ?_
  have sp := cp_L1 B A bo ba ok (fun x hx => by have := (rb.share x hx).2.2.1; omega) b k e s hes to n na nc _ 0 rfl (by omega)
  unfold cpGoal cpF at sp
  refine tr_foldI (kernC k (kNew B)) KA [2, 2, 2, 2, 2, 1, 1, 1, 1, 1, 1] rfl ?_; (try simp only[nrm,nrmL,aSome_some,Nat.reduceAdd,Nat.reduceMul,Int.reduceToNat])
  refine tr_runI sp [8, 2, 2, 2, 2, 2, 2, 0, 0] rfl ?_
  rintro _ h rfl
  rfl
end Go.EQ

set_option maxRecDepth 100000
namespace Go.EQ
open Go Go.NN Go.Proofs Go.Proofs.Ytkoigngajoefkaa Go.ChangeShapes Go.WideShapes Go.RowKit
theorem capsCalls {H : Type} {enc : TypeId × Value → H} {W : World} {v0 v1 v2 v3 : Value} {d0 d1 d2 d3 : DataW H} {p0 p1 p2 p3 : List MemPlace} {b0 : Nat} (k0 : Value.okWide PR W .any b0 Y_s_int v0) (k1 : Value.okWide PR W .any b0 Y_int v1) (k2 : Value.okWide PR W .any b0 Y_int v2) (k3 : Value.okWide PR W .any b0 Y_int v3)
    (h0 : DataW.Trod enc PR W 0 (fun _ => true) true Y_s_int v0 d0 p0) (h1 : DataW.Trod enc PR W 0 (fun _ => true) true Y_int v1 d1 p1) (h2 : DataW.Trod enc PR W 0 (fun _ => true) true Y_int v2 d2 p2) (h3 : DataW.Trod enc PR W 0 (fun _ => true) true Y_int v3 d3 p3) :
    Calls PR F_law8_KernCaps #[v0, v1, v2, v3] W fun e W' => e = .returned (.bool true) ∧ Below W.heap.size W W' := by
  obtain ⟨l, hl, i0⟩ := (ImpT.ints (P := PR) (W := W) Y_int u_s_int u_int (by kernel_rfl)).arg (cells_slice u_s_int k0) h0
  obtain ⟨x, _, i1⟩ := ImpT.argInt u_int k1 h1
  obtain ⟨y, _, i2⟩ := ImpT.argInt u_int k2 h2
  obtain ⟨z, _, i3⟩ := ImpT.argInt u_int k3 h3
  refine (i0.app (i1.app (i2.app i3))).run mixedOk globsOk fun vs ps ⟨_, _, _, _, hv, hp, ⟨⟨a, c⟩, h4, h5⟩, _, _, _, _, h6, h7, ⟨h8, h9⟩, _, _, _, _, hA, hB, ⟨hC, hD⟩, hE, hF⟩ hh r o => ?_
  subst h4; subst h5; subst h8; subst h9; subst hC; subst hD; subst hE; subst hF; subst hA; subst hB; subst h6; subst h7; subst hv; subst hp
  obtain ⟨v, h', e, rfl⟩ := ct_KernCaps (slC true Y_int 1 a l.length c (l.map int)) true a c l x y z hh r o
  exact ⟨h', e⟩
theorem capsLifted (os : Os) (started : os.Started) (H : Type) (enc : TypeId × Value → H) :
    ReturnsInHanded {} Try.checked os F_law8_KernCaps .any (Rows.kernCapsSpec.pre6 enc Try.prog Try.f6 Rows.kernCapsRow.domain false) (Rows.kernCapsSpec.post enc Try.prog Try.f6 false true false false) := by
  refine returnsInHanded_of_change (C := Try.checked) ownOk started (by kernel_rfl) Try.func6
    (ChangeSpec.witness6 (enc := enc) (C := Try.checked) false ⟨#[], #[.slice none 0 0, .int .i64 0, .int .i64 0, .int .i64 0], []⟩ 8 (by kernel_rfl) (by kernel_rfl) (by kernel_rfl) (by kernel_rfl)) ?_
  intro W base args ds gs before hval hW hcnd _
  have hW' := hW
  obtain ⟨p, q, hA, hV, rfl, hfz, hnd⟩ := hW
  rw [Try.params6] at hA hval
  obtain ⟨v0, v1, v2, v3, d0, d1, d2, d3, p0, p1, p2, p3, rfl, rfl, rfl, h0, h1, h2, h3⟩ := trodAll_four hA
  refine (capsCalls (hval 0 _ v0 rfl rfl) (hval 1 _ v1 rfl rfl) (hval 2 _ v2 rfl rfl) (hval 3 _ v3 rfl rfl) h0 h1 h2 h3).mono fun e W' ⟨he, hb⟩ => ?_
  subst he
  refine ⟨_, rfl, post_true laidOk ?_ rfl u_bool rfl (fun ds gs hl => ?_) hW' hb⟩
  · rw [Try.params6]; intro t ht; simp at ht; rcases ht with rfl | rfl <;> exact ⟨by kernel_rfl, of_decide_eq_true (by kernel_rfl)⟩
  · replace hl : ds.length = 4 := hl
    cases gs with
    | cons _ _ => exact .inr (by simp)
    | nil => match ds, hl with | [_, _, _, _], _ => exact .inl rfl
theorem KernCaps_holds : Rows.KernCapsSaid :=
  OpenClaim.holds_of_wide F_law8_KernCaps Try.f6 rfl rfl rfl rfl rfl rfl rfl ⟨rfl, rfl, rfl, rfl, rfl⟩ rfl rfl rfl rfl rfl (by kernel_rfl) Try.func6 (by kernel_rfl)
    (of_decide_eq_true (by kernel_rfl)) (by unfold Func.isWrapper; first | (rw [if_pos (by decide +kernel)]; kernel_rfl) | (rw [if_neg (by decide +kernel)]; exact ⟨rfl, rfl⟩))
    (fun os started H enc _ => capsLifted os started H enc)
end Go.EQ
