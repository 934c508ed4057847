/- For every list of steps the law KernSects of layer 8 returns true and leaves its argument as it was. No condition. -/
import Derived.Test.YtkoigngajoefkaaMf
import Derived.KernelRfl
import Derived.Test.YtkoigngajoefkaaRows
set_option linter.unusedVariables false
set_option linter.unusedSimpArgs false
set_option linter.unusedSectionVars false
set_option linter.unusedSimpArgs false
set_option linter.unusedVariables false
set_option maxRecDepth 100000
namespace Go.EQ
open Go Go.NN
def bootA : BootS := ⟨[2, 2], [0, 1], [[0]], 5, [⟨0, 0, 0, 10, [0]⟩]⟩
abbrev callA1 : CallS := ⟨2, 256, 0, 0, 0, 0, [7]⟩
abbrev callA2 : CallS := ⟨1, 256, 0, 1, 0, 0, []⟩
abbrev callA3 : CallS := ⟨8, 0, 0, 0, 0, 0, []⟩
theorem bootA_ok : bootOk bootA = true := by kernel_rfl
theorem bootA_small : Small bootA := ⟨by simp [bootA, most], by simp [bootA, most], by simp [bootA, most]⟩
def SA0 : KS := kNew bootA
abbrev SA1 : KS := (kAns SA0 0 callA1).2
abbrev SA2 : KS := (kAns SA1 0 callA2).2
abbrev SA3 : KS := (kAns SA2 1 callA2).2
abbrev SA4 : KS := (kAns SA3 1 callA3).2
theorem a1 : (kAns SA0 0 callA1).1.1 = 0 := by kernel_rfl
theorem a2 : (kAns SA1 0 callA2).1.2.2 = [7] := by kernel_rfl
theorem a3 : (kAns SA2 1 callA2).1.1 = 2 := by kernel_rfl
theorem a4 : (kAns SA3 1 callA3).1.1 = 8 := by kernel_rfl
theorem ct_awake8 : Ct CALL F_law8_awake [] [] fun v own => v = .bool true ∧ own [] := by
  refine Ct.of k_law8_awake rfl fun h r => Tr.eq (e_law8_awake ..) ?_; (try simp only[nrm,nrmL,aSome_some,Nat.reduceAdd,Nat.reduceMul,Int.reduceToNat])
  refine Tr.nw fun b1 h1 => ?_
  refine Tr.nw fun b2 h2 => ?_
  refine Tr.nw fun b3 h3 => ?_
  refine Tr.nw fun b4 h4 => ?_
  refine Tr.nw fun b5 h5 => ?_
  refine Tr.nw fun b6 h6 => ?_
  refine tr_asSl 0 rfl 5 1 rfl (by omega) ?_; (try simp only[nrm,nrmL,aSome_some,Nat.reduceAdd,Nat.reduceMul,Int.reduceToNat])
  refine tr_asSl 1 rfl 1 1 rfl (by omega) ?_; (try simp only[nrm,nrmL,aSome_some,Nat.reduceAdd,Nat.reduceMul,Int.reduceToNat])
  refine tr_asSl 2 rfl 1 1 rfl (by omega) ?_; (try simp only[nrm,nrmL,aSome_some,Nat.reduceAdd,Nat.reduceMul,Int.reduceToNat])
  refine tr_asSl 3 rfl 1 1 rfl (by omega) ?_; (try simp only[nrm,nrmL,aSome_some,Nat.reduceAdd,Nat.reduceMul,Int.reduceToNat])
  refine tr_asSl 4 rfl 1 2 rfl (by omega) ?_; (try simp only[nrm,nrmL,aSome_some,Nat.reduceAdd,Nat.reduceMul,Int.reduceToNat])
  refine tr_asSl 5 rfl 1 2 rfl (by omega) ?_; (try simp only[nrm,nrmL,aSome_some,Nat.reduceAdd,Nat.reduceMul,Int.reduceToNat])
  refine tr_one2 (toC false) (some ⟨b5, 0, none⟩, 1) (⟨0, 0, 0, 10, [0]⟩ : ShareS) (r := []) 1 rfl ?_; (try simp only[nrm,nrmL,aSome_some,Nat.reduceAdd,Nat.reduceMul,Int.reduceToNat])
  refine tr_one2 (rsC false) (some ⟨b3, 0, none⟩, 1) ([0] : List Int) (r := []) 3 rfl ?_; (try simp only[nrm,nrmL,aSome_some,Nat.reduceAdd,Nat.reduceMul,Int.reduceToNat])
  refine tr_callI (ct_New false bootA ⟨some ⟨b1, 0, none⟩, 2, some ⟨b2, 0, none⟩, 2, some ⟨b4, 0, none⟩, 1, [(some ⟨b3, 0, none⟩, 1)], some ⟨b6, 0, none⟩, 1, [(some ⟨b5, 0, none⟩, 1)]⟩ ⟨rfl, rfl⟩ bootA_small) [5, 4, 3, 0, 1, 0] rfl ?_
  intro v h hv
  rw [if_pos bootA_ok] at hv
  obtain ⟨k, rfl, o⟩ := hv
  refine (?_ : Tr _ _ _ _) o
  (try simp only[nrm,nrmL,aSome_some,Nat.reduceAdd,Nat.reduceMul,Int.reduceToNat])
  (repeat' first|(with_reducible first|refine Ga ?_|refine Gn fun b h=>?_|apply Tr.andG|apply Tr.orG|refine Tr.xFits ?_|rintro px rfl|refine fun(h:H)=>?_|intro hb)|((with_reducible first|apply Gb|apply Gc|apply Gd|apply Ge|apply Gf|apply Gg|apply Gh|apply Gi);·rfl)|((with_reducible first|apply Gj|apply Gk|apply Gl|apply Gm);·first|assumption|rfl)|((with_reducible apply Tr.xV);·exact⟨Nat.le_of_ble_eq_true rfl,rfl,rfl⟩)|((with_reducible apply Tr.xAgg);·exact⟨Nat.le_of_ble_eq_true rfl,rfl⟩)|((with_reducible apply Tr.xPAgg);·exact⟨Nat.le_of_ble_eq_true rfl,rfl,rfl⟩)|((with_reducible first|refine Tr.ck ?_ ?_|apply Tr.xSome|apply Tr.xCells);·first|rfl|omega|(simp only[gnd] at hb;omega))|((with_reducible refine Tr.same ?_ ?_);·first|exact sameV_sl _ _ _|exact sameV_ptr _|exact sameV_int _ _|exact sameV_bool _|exact sameV_str _)|((with_reducible apply Tr.xCellsB);·exact⟨Nat.le_of_ble_eq_true rfl,rfl⟩)|((with_reducible apply Tr.asBytes);·exact bytesN1_byteCells _)|(refine Tr.some fun _=>?_;exact⟨rfl,rfl⟩)|fail)
  refine Tr.condF rfl ?_
  refine Tr.nw fun c1 g1 => ?_
  refine tr_view 0 rfl [] (byteCells [7]) [] rfl 1 0 1 1 (by simp [byteCells]) ?_; (try simp only[nrm,nrmL,aSome_some,Nat.reduceAdd,Nat.reduceMul,Int.reduceToNat])
  refine tr_callI (ct_kDo k SA0 0 (kNew_ok bootA_ok bootA_small) (by omega) 0 callA1 (some ⟨c1, 0, none⟩) 1 false ([], []) (by decide)) [1, 0] rfl ?_
  rintro _ h ⟨x1, d1, rfl, o⟩
  refine (?_ : Tr _ _ _ _) o
  (try simp only[nrm,nrmL,aSome_some,Nat.reduceAdd,Nat.reduceMul,Int.reduceToNat])
  have k1 : KOk 2 SA1 := kAns_ok (kNew_ok bootA_ok bootA_small) (by omega) 0 callA1
  have k2 : KOk 4 SA2 := kAns_ok k1 (by omega) 0 callA2
  have k3 : KOk 6 SA3 := kAns_ok k2 (by omega) 1 callA2
  refine Tr.dx ?_
  refine Tr.nw fun c2 g2 => ?_
  (repeat' first|(with_reducible first|refine Ga ?_|refine Gn fun b h=>?_|apply Tr.andG|apply Tr.orG|refine Tr.xFits ?_|rintro px rfl|refine fun(h:H)=>?_|intro hb)|((with_reducible first|apply Gb|apply Gc|apply Gd|apply Ge|apply Gf|apply Gg|apply Gh|apply Gi);·rfl)|((with_reducible first|apply Gj|apply Gk|apply Gl|apply Gm);·first|assumption|rfl)|((with_reducible apply Tr.xV);·exact⟨Nat.le_of_ble_eq_true rfl,rfl,rfl⟩)|((with_reducible apply Tr.xAgg);·exact⟨Nat.le_of_ble_eq_true rfl,rfl⟩)|((with_reducible apply Tr.xPAgg);·exact⟨Nat.le_of_ble_eq_true rfl,rfl,rfl⟩)|((with_reducible first|refine Tr.ck ?_ ?_|apply Tr.xSome|apply Tr.xCells);·first|rfl|omega|(simp only[gnd] at hb;omega))|((with_reducible refine Tr.same ?_ ?_);·first|exact sameV_sl _ _ _|exact sameV_ptr _|exact sameV_int _ _|exact sameV_bool _|exact sameV_str _)|((with_reducible apply Tr.xCellsB);·exact⟨Nat.le_of_ble_eq_true rfl,rfl⟩)|((with_reducible apply Tr.asBytes);·exact bytesN1_byteCells _)|(refine Tr.some fun _=>?_;exact⟨rfl,rfl⟩)|fail)
  refine Tr.xCall (ct_kDo0 k SA1 2 k1 (by omega) 0 1 256 0 1 0 0 (by decide)) ?_; rintro _ h ⟨x2, d2, rfl, o⟩ <;> (refine (?_ : Tr _ _ _ _) o; (try simp only[nrm,nrmL,aSome_some,Nat.reduceAdd,Nat.reduceMul,Int.reduceToNat]); (repeat' first|(with_reducible first|refine Ga ?_|refine Gn fun b h=>?_|apply Tr.andG|apply Tr.orG|refine Tr.xFits ?_|rintro px rfl|refine fun(h:H)=>?_|intro hb)|((with_reducible first|apply Gb|apply Gc|apply Gd|apply Ge|apply Gf|apply Gg|apply Gh|apply Gi);·rfl)|((with_reducible first|apply Gj|apply Gk|apply Gl|apply Gm);·first|assumption|rfl)|((with_reducible apply Tr.xV);·exact⟨Nat.le_of_ble_eq_true rfl,rfl,rfl⟩)|((with_reducible apply Tr.xAgg);·exact⟨Nat.le_of_ble_eq_true rfl,rfl⟩)|((with_reducible apply Tr.xPAgg);·exact⟨Nat.le_of_ble_eq_true rfl,rfl,rfl⟩)|((with_reducible first|refine Tr.ck ?_ ?_|apply Tr.xSome|apply Tr.xCells);·first|rfl|omega|(simp only[gnd] at hb;omega))|((with_reducible refine Tr.same ?_ ?_);·first|exact sameV_sl _ _ _|exact sameV_ptr _|exact sameV_int _ _|exact sameV_bool _|exact sameV_str _)|((with_reducible apply Tr.xCellsB);·exact⟨Nat.le_of_ble_eq_true rfl,rfl⟩)|((with_reducible apply Tr.asBytes);·exact bytesN1_byteCells _)|(refine Tr.some fun _=>?_;exact⟨rfl,rfl⟩)|fail))
  refine Tr.xCall (ct_kDo0 k SA2 4 k2 (by omega) 1 1 256 0 1 0 0 (by decide)) ?_; rintro _ h ⟨x3, d3, rfl, o⟩ <;> (refine (?_ : Tr _ _ _ _) o; (try simp only[nrm,nrmL,aSome_some,Nat.reduceAdd,Nat.reduceMul,Int.reduceToNat]); (repeat' first|(with_reducible first|refine Ga ?_|refine Gn fun b h=>?_|apply Tr.andG|apply Tr.orG|refine Tr.xFits ?_|rintro px rfl|refine fun(h:H)=>?_|intro hb)|((with_reducible first|apply Gb|apply Gc|apply Gd|apply Ge|apply Gf|apply Gg|apply Gh|apply Gi);·rfl)|((with_reducible first|apply Gj|apply Gk|apply Gl|apply Gm);·first|assumption|rfl)|((with_reducible apply Tr.xV);·exact⟨Nat.le_of_ble_eq_true rfl,rfl,rfl⟩)|((with_reducible apply Tr.xAgg);·exact⟨Nat.le_of_ble_eq_true rfl,rfl⟩)|((with_reducible apply Tr.xPAgg);·exact⟨Nat.le_of_ble_eq_true rfl,rfl,rfl⟩)|((with_reducible first|refine Tr.ck ?_ ?_|apply Tr.xSome|apply Tr.xCells);·first|rfl|omega|(simp only[gnd] at hb;omega))|((with_reducible refine Tr.same ?_ ?_);·first|exact sameV_sl _ _ _|exact sameV_ptr _|exact sameV_int _ _|exact sameV_bool _|exact sameV_str _)|((with_reducible apply Tr.xCellsB);·exact⟨Nat.le_of_ble_eq_true rfl,rfl⟩)|((with_reducible apply Tr.asBytes);·exact bytesN1_byteCells _)|(refine Tr.some fun _=>?_;exact⟨rfl,rfl⟩)|fail))
  refine Tr.xCall (ct_kDo0 k SA3 6 k3 (by omega) 1 8 0 0 0 0 0 (by decide)) ?_; rintro _ h ⟨x4, d4, rfl, o⟩ <;> (refine (?_ : Tr _ _ _ _) o; (try simp only[nrm,nrmL,aSome_some,Nat.reduceAdd,Nat.reduceMul,Int.reduceToNat]); (repeat' first|(with_reducible first|refine Ga ?_|refine Gn fun b h=>?_|apply Tr.andG|apply Tr.orG|refine Tr.xFits ?_|rintro px rfl|refine fun(h:H)=>?_|intro hb)|((with_reducible first|apply Gb|apply Gc|apply Gd|apply Ge|apply Gf|apply Gg|apply Gh|apply Gi);·rfl)|((with_reducible first|apply Gj|apply Gk|apply Gl|apply Gm);·first|assumption|rfl)|((with_reducible apply Tr.xV);·exact⟨Nat.le_of_ble_eq_true rfl,rfl,rfl⟩)|((with_reducible apply Tr.xAgg);·exact⟨Nat.le_of_ble_eq_true rfl,rfl⟩)|((with_reducible apply Tr.xPAgg);·exact⟨Nat.le_of_ble_eq_true rfl,rfl,rfl⟩)|((with_reducible first|refine Tr.ck ?_ ?_|apply Tr.xSome|apply Tr.xCells);·first|rfl|omega|(simp only[gnd] at hb;omega))|((with_reducible refine Tr.same ?_ ?_);·first|exact sameV_sl _ _ _|exact sameV_ptr _|exact sameV_int _ _|exact sameV_bool _|exact sameV_str _)|((with_reducible apply Tr.xCellsB);·exact⟨Nat.le_of_ble_eq_true rfl,rfl⟩)|((with_reducible apply Tr.asBytes);·exact bytesN1_byteCells _)|(refine Tr.some fun _=>?_;exact⟨rfl,rfl⟩)|fail))
  · refine Tr.pcall (ct_kNow k SA4) ?_; (try simp only[nrm,nrmL,aSome_some,Nat.reduceAdd,Nat.reduceMul,Int.reduceToNat]); (repeat' first|(with_reducible first|refine Ga ?_|refine Gn fun b h=>?_|apply Tr.andG|apply Tr.orG|refine Tr.xFits ?_|rintro px rfl|refine fun(h:H)=>?_|intro hb)|((with_reducible first|apply Gb|apply Gc|apply Gd|apply Ge|apply Gf|apply Gg|apply Gh|apply Gi);·rfl)|((with_reducible first|apply Gj|apply Gk|apply Gl|apply Gm);·first|assumption|rfl)|((with_reducible apply Tr.xV);·exact⟨Nat.le_of_ble_eq_true rfl,rfl,rfl⟩)|((with_reducible apply Tr.xAgg);·exact⟨Nat.le_of_ble_eq_true rfl,rfl⟩)|((with_reducible apply Tr.xPAgg);·exact⟨Nat.le_of_ble_eq_true rfl,rfl,rfl⟩)|((with_reducible first|refine Tr.ck ?_ ?_|apply Tr.xSome|apply Tr.xCells);·first|rfl|omega|(simp only[gnd] at hb;omega))|((with_reducible refine Tr.same ?_ ?_);·first|exact sameV_sl _ _ _|exact sameV_ptr _|exact sameV_int _ _|exact sameV_bool _|exact sameV_str _)|((with_reducible apply Tr.xCellsB);·exact⟨Nat.le_of_ble_eq_true rfl,rfl⟩)|((with_reducible apply Tr.asBytes);·exact bytesN1_byteCells _)|(refine Tr.some fun _=>?_;exact⟨rfl,rfl⟩)|fail)
  refine Tr.some fun o => ?_
  exact ⟨congrArg Value.bool (by kernel_rfl), o.sub⟩
end Go.EQ

set_option linter.unusedSimpArgs false
set_option linter.unusedVariables false
set_option maxRecDepth 100000
namespace Go.EQ
open Go Go.NN
end Go.EQ

set_option linter.unusedSimpArgs false
set_option linter.unusedVariables false
set_option maxRecDepth 100000
namespace Go.EQ
open Go Go.NN
structure OpS where
  env : Int
  c : CallS
def opL (p : (Option Addr × Nat) × OpS) : List Value := int p.2.env :: callL p.2.c p.1.1 p.1.2
theorem opL_len (p : (Option Addr × Nat) × OpS) : (opL p).length = 8 := rfl
def opsV (gs : List (Option Addr × Nat)) (ops : List OpS) : List Value := (List.zip gs ops).flatMap opL
abbrev opC (g : Option Addr × Nat) (o : OpS) : HP := slC true Y_uint8 1 g.1 o.c.b.length g.2 (byteCells o.c.b)
structure FrOk (fs : List Int) (S : KS) : Prop where
  envs : S.envs = [0, 1, 0, 1]
  used : S.used.map (fun u => (u.length : Int)) = fs
  two : S.used.length = 2
  len : ∀ u ∈ S.used, u.length ≤ 7
  bits : ∀ u ∈ S.used, ∀ x ∈ u, x = 0 ∨ x = 1
theorem FrOk.put {fs : List Int} {S : KS} (k : FrOk fs S) {s : Nat} {u u' : List Int} (hu : S.used[s]? = some u) (hl : u'.length = u.length) (hb : ∀ x ∈ u', x = 0 ∨ x = 1) : FrOk fs (putUsed S (S.used.set s u')) where
  envs := k.envs
  used := by
    show (S.used.set s u').map _ = fs
    rw [List.map_set, hl, lset_same (by rw [List.getElem?_map, hu]; rfl)]; exact k.used
  two := by show (S.used.set s u').length = 2; rw [List.length_set]; exact k.two
  len v hv := by
    rcases List.mem_or_eq_of_mem_set hv with h | rfl
    · exact k.len v h
    · rw [hl]; exact k.len u (List.mem_of_getElem? hu)
  bits v hv := by
    rcases List.mem_or_eq_of_mem_set hv with h | rfl
    · exact k.bits v h
    · exact hb
section
variable (gs : List (Option Addr × Nat)) (ops : List OpS) (a : Option Addr) (c : Nat) (fs : List Int) (f1 : Addr) (b3 k : Nat)
end
end Go.EQ

set_option maxRecDepth 100000
namespace Go.EQ
open Go Go.NN Go.Proofs Go.ChangeShapes Go.WideShapes Go.RowKit
theorem globsOk : ∀ f, (cutsOf f).globs ≤ PR.globals.size := by
  intro f; unfold cutsOf; split <;> exact Nat.zero_le _
theorem mixedOk : PR.follows .mixedOrders = true := by kernel_rfl
theorem laidOk : laidOutB PR = true := by kernel_rfl
theorem ownOk : ownKnob PR.godebug = none := by kernel_rfl
end Go.EQ

set_option maxRecDepth 100000
namespace Go.EQ
open Go Go.NN Go.Proofs Go.ChangeShapes Go.WideShapes Go.RowKit
theorem callT {W : World} : ImpT PR W Y_api_Call (fun (g : Option Addr × Nat) (c : CallS) => callL c g.1 g.2) (fun g c => slC true Y_uint8 1 g.1 c.b.length g.2 (byteCells c.b)) (fun _ => True) :=
  (ImpT.struct u_api_Call (by kernel_rfl) (ImpL.cons (ImpT.int u_int) (ImpL.cons (ImpT.int u_int) (ImpL.cons (ImpT.int u_int) (ImpL.cons (ImpT.int u_int) (ImpL.cons (ImpT.int u_int) (ImpL.cons (ImpT.int u_int) (ImpL.cons (ImpT.bytes Y_uint8 u_s_uint8 u_uint8 (by kernel_rfl)) ImpL.nil)))))))).as
    fun ⟨op, cap, at_, n, to, on, b, _⟩ _ => ⟨⟨op, cap, at_, n, to, on, b⟩, trivial, fun ⟨_, _, _, _, _, _, g, _⟩ => ⟨g, rfl, fun hh r o => (((((((o.of_sl 1 rfl).of_sl 1 rfl).of_sl 1 rfl).of_sl 1 rfl).of_sl 1 rfl).of_sl 1 rfl).of_sl 0 rfl)⟩⟩
theorem opT {W : World} : ImpT PR W Y_law8_Op (fun (g : Option Addr × Nat) (o : OpS) => opL (g, o)) (fun g o => opC g o) (fun _ => True) :=
  (ImpT.struct u_law8_Op (by kernel_rfl) (ImpL.cons (ImpT.int u_int) (ImpL.cons callT ImpL.nil))).as
    fun ⟨env, c, _⟩ _ => ⟨⟨env, c⟩, trivial, fun ⟨_, g, _⟩ => ⟨g, by simp [opL], fun hh r o => (o.of_sl 1 rfl).of_sl 0 rfl⟩⟩
theorem opsT {W : World} : ImpT PR W Y_s_law8_Op (fun (g : (Option Addr × Nat) × List (Option Addr × Nat)) (ops : List OpS) => [.slice g.1.1 ops.length g.1.2])
    (fun g ops => sl [slC true Y_law8_Op 8 g.1.1 ops.length g.1.2 (opsV g.2 ops), all2 opC g.2 ops, pu (g.2.length = ops.length)]) (fun ops => ops.length ≤ maxLen ∧ ∀ o ∈ ops, True) :=
  ImpT.slice Y_law8_Op u_s_law8_Op (by kernel_rfl) (by omega) (fun g y => opL_len (g, y)) opT
end Go.EQ

set_option linter.unusedSimpArgs false
set_option linter.unusedVariables false
set_option maxRecDepth 100000
namespace Go.EQ
open Go Go.NN
theorem enterS_in {N : Nat} {T : SectS} (k : SectOk N T) (env now : Int) (he : 0 ≤ env ∧ env ≤ 99) (hh : (enterS T env now).2.held = true) :
    ((enterS T env now).2.who = env ∧ (enterS T env now).2.stamp = (enterS T env now).1.1 ∧ ((enterS T env now).1.1 > 0 ∨ (T.held = true ∧ T.who = env ∧ T.stamp = (enterS T env now).2.stamp))) ∨
    ((enterS T env now).1.1 = 0 ∧ T.held = true ∧ (enterS T env now).2.who = T.who ∧ (enterS T env now).2.stamp = T.stamp) := by
  have hs := k.stamps
  unfold enterS at hh ⊢
  rw [if_neg (by omega)] at hh ⊢
  by_cases h1 : (T.held && T.who == env) = true
  · rw [if_pos h1] at hh ⊢
    simp only [Bool.and_eq_true, beq_iff_eq] at h1
    left
    exact ⟨h1.2, rfl, .inr ⟨h1.1, h1.2, rfl⟩⟩
  · rw [if_neg h1] at hh ⊢
    generalize max now T.last = n at hh ⊢
    have hw : (waitS (seenS T n) env n).held = T.held ∧ (waitS (seenS T n) env n).who = T.who ∧ (waitS (seenS T n) env n).stamp = T.stamp ∧ (waitS (seenS T n) env n).stamps = T.stamps := by
      unfold waitS; split
      · exact ⟨rfl, rfl, rfl, rfl⟩
      · unfold joinS; split <;> exact ⟨rfl, rfl, rfl, rfl⟩
    generalize waitS (seenS T n) env n = U at hh hw ⊢
    have hl : (lateS U n).who = U.who ∧ (lateS U n).stamp = U.stamp ∧ (lateS U n).stamps = U.stamps ∧ ((lateS U n).held = true → U.held = true) := by
      unfold lateS; split
      · exact ⟨rfl, rfl, rfl, fun h => by cases h⟩
      · exact ⟨rfl, rfl, rfl, fun h => h⟩
    generalize lateS U n = V at hh hl ⊢
    unfold enter3 at hh ⊢
    by_cases hv : V.held = true
    · rw [if_pos hv] at hh ⊢
      right
      refine ⟨rfl, hw.1 ▸ hl.2.2.2 hv, ?_, ?_⟩
      · unfold stayS; split <;> exact hl.1.trans hw.2.1
      · unfold stayS; split <;> exact hl.2.1.trans hw.2.2.1
    · rw [if_neg hv] at hh ⊢
      have hp : (passS V env n).held = V.held ∧ (passS V env n).stamps = V.stamps := by
        unfold passS; split
        · split <;> exact ⟨rfl, rfl⟩
        · exact ⟨rfl, rfl⟩
      generalize passS V env n = X at hh hp ⊢
      unfold goIn at hh ⊢
      split at hh
      · rename_i x q hq
        split at hh
        · rename_i hx
          left
          simp only [if_pos hx]
          exact ⟨trivial, trivial, .inl (by have := hp.2; have := hl.2.2.1; have := hw.2.2.2; omega)⟩
        · exact absurd (hp.1 ▸ hh) hv
      · exact absurd (hp.1 ▸ hh) hv
theorem leaveS_in {T : SectS} {env st : Int} (hh : (leaveS T env st).held = true) : leaveS T env st = T := by
  unfold leaveS at hh ⊢; split at hh
  · cases hh
  · rename_i h; rw [if_neg h]
structure SeOk (S : KS) (st : List Int) : Prop where
  envs : S.envs = [0, 0, 1, 1]
  may : S.may = [[0], [1]]
  two : S.sects.length = 2
  four : st.length = 4
  held : ∀ (s : Nat) (T : SectS), S.sects[s]? = some T → T.held = true → 0 ≤ T.who ∧ T.who < 4 ∧ T.who / 2 = s ∧ st[T.who.toNat]? = some T.stamp
theorem SeOk.mayIs {S : KS} {st : List Int} (k : SeOk S st) {e n : Int} (he : 0 ≤ e ∧ e < 4) (hn : 0 ≤ n ∧ n < 2) : kMay S e n = decide (e / 2 = n) := by
  unfold kMay envOf mayOf
  rw [k.envs, k.may, k.two]
  obtain rfl | rfl | rfl | rfl : e = 0 ∨ e = 1 ∨ e = 2 ∨ e = 3 := by omega
  all_goals (obtain rfl | rfl : n = 0 ∨ n = 1 := by omega) <;> decide
theorem SeOk.put {S : KS} {st st' : List Int} (k : SeOk S st) {n : Int} (hn : 0 ≤ n ∧ n < 2) {T' : SectS} (h4 : st'.length = 4) (h1 : T'.held = true → 0 ≤ T'.who ∧ T'.who < 4 ∧ T'.who / 2 = n ∧ st'[T'.who.toNat]? = some T'.stamp)
    (h2 : ∀ w : Nat, ((w : Int) / 2 ≠ n) → st'[w]? = st[w]?) : SeOk (putSect S n T') st' where
  envs := k.envs
  may := k.may
  two := by show (S.sects.set n.toNat T').length = 2; rw [List.length_set]; exact k.two
  four := h4
  held s T hs hh := by
    have hs2 : (S.sects.set n.toNat T')[s]? = some T := hs
    rw [List.getElem?_set] at hs2
    split at hs2
    · rename_i hsn
      rw [k.two, if_pos (by omega)] at hs2
      cases hs2
      obtain ⟨a, b, c, d⟩ := h1 hh
      exact ⟨a, b, by omega, d⟩
    · obtain ⟨a, b, c, d⟩ := k.held s T hs2 hh
      refine ⟨a, b, c, ?_⟩
      rw [h2 T.who.toNat (by omega)]; exact d
theorem seEnter {S : KS} {st : List Int} (k : SeOk S st) {N : Nat} (ok : KOk N S) {e n : Int} (he : 0 ≤ e ∧ e < 4) (hn : 0 ≤ n ∧ n < 2) :
    ∃ M S', kAns S e ⟨8, 0, 0, n, 0, 0, []⟩ = ((if e / 2 = n then 0 else 8, M, []), S') ∧ SeOk S' (if M > 0 then st.set e.toNat M else st) := by
  have hans : kAns S e ⟨8, 0, 0, n, 0, 0, []⟩ = (((kEnter S e n).1.2, (kEnter S e n).1.1, []), (kEnter S e n).2) := by
    unfold kAns; rw [if_neg (by rw [k.envs]; simp; omega)]; rfl
  rw [hans]
  have hm := k.mayIs he hn
  by_cases h : e / 2 = n
  · rw [decide_eq_true h] at hm
    have hke : kEnter S e n = (((enterS (sectOf S n) e S.now).1.1, 0), putSect S n (enterS (sectOf S n) e S.now).2) := by unfold kEnter; rw [if_pos hm]
    obtain ⟨hT, _⟩ := kMay_some hm
    have sk := ok.sectAt hT
    have hin := enterS_in sk e S.now (by omega)
    have hold := k.held n.toNat _ hT
    rw [hke]
    generalize hR : enterS (sectOf S n) e S.now = R at hin
    obtain ⟨⟨M, b⟩, T'⟩ := R
    simp only at hin ⊢
    refine ⟨M, putSect S n T', by rw [if_pos h], ?_⟩
    by_cases hM : M > 0
    · rw [if_pos hM]
      refine k.put hn (by rw [List.length_set]; exact k.four) (fun hh => ?_) (fun w hw => ?_)
      · rcases hin hh with ⟨h1, h2, _⟩ | ⟨h1, _⟩
        · rw [h1, h2]
          refine ⟨he.1, he.2, h, ?_⟩
          rw [List.getElem?_set_self (by rw [k.four]; omega)]
        · omega
      · rw [List.getElem?_set_ne (by omega)]
    · rw [if_neg hM]
      refine k.put hn k.four (fun hh => ?_) (fun w hw => rfl)
      rcases hin hh with ⟨h1, h2, h3 | ⟨h3, h4, h5⟩⟩ | ⟨h1, h2, h3, h4⟩
      · omega
      · obtain ⟨a, b, c, d⟩ := hold h3
        rw [h1, ← h5, ← h4]; exact ⟨a, b, by omega, d⟩
      · obtain ⟨a, b, c, d⟩ := hold h2
        rw [h3, h4]; exact ⟨a, b, by omega, d⟩
  · rw [decide_eq_false h] at hm
    have hke : kEnter S e n = ((0, 8), S) := by unfold kEnter; rw [if_neg (by rw [hm]; simp)]
    rw [hke]
    exact ⟨0, S, by rw [if_neg h], by rw [if_neg (by omega)]; exact k⟩
theorem seLeave {S : KS} {st : List Int} (k : SeOk S st) {e n a : Int} (he : 0 ≤ e ∧ e < 4) (hn : 0 ≤ n ∧ n < 2) :
    ∃ E S', kAns S e ⟨9, 0, a, n, 0, 0, []⟩ = ((E, 0, []), S') ∧ (e / 2 ≠ n → E = 8) ∧ SeOk S' st := by
  have hans : kAns S e ⟨9, 0, a, n, 0, 0, []⟩ = (((kLeave S e n a).1, 0, []), (kLeave S e n a).2) := by
    unfold kAns; rw [if_neg (by rw [k.envs]; simp; omega)]; rfl
  rw [hans]
  have hm := k.mayIs he hn
  by_cases h : e / 2 = n
  · rw [decide_eq_true h] at hm
    obtain ⟨hT, _⟩ := kMay_some hm
    refine ⟨_, _, rfl, fun h2 => absurd h h2, ?_⟩
    unfold kLeave; rw [if_pos hm]
    refine k.put hn k.four (fun hh => ?_) (fun _ _ => rfl)
    have hq := leaveS_in hh
    rw [hq] at hh ⊢
    obtain ⟨a, b, c, d⟩ := k.held n.toNat _ hT hh
    exact ⟨a, b, by omega, d⟩
  · rw [decide_eq_false h] at hm
    refine ⟨_, _, rfl, fun _ => by unfold kLeave; rw [if_neg (by rw [hm]; simp)], ?_⟩
    unfold kLeave; rw [if_neg (by rw [hm]; simp)]; exact k
theorem seTick {S : KS} {st : List Int} (k : SeOk S st) (n : Int) : SeOk (kTick S n) st := ⟨k.envs, k.may, k.two, k.four, k.held⟩
theorem ct_kSect (k : Nat) (S : KS) (A : KA) (s : Nat) (x : Nat) (hs : s < S.sects.length) (hx : A.ss[s]? = some x) : CtP CALL F_kern_Kern_Sect [P0 k, int s] (kernF k S A) (P0 x) := by
  obtain ⟨m, s', q, rg, ea, ec, ma, mc, ms, sa, sc, ss⟩ := A
  simp only at hx
  have hg : (ss.map P0)[s]? = some (.pointer (some ⟨x, 0, none⟩)) := by rw [List.getElem?_map, hx]; rfl
  refine CtP.of k_kern_Kern_Sect rfl fun h r => Tr.eq (e_kern_Kern_Sect ..) ?_; (try simp only[nrm,nrmL,aSome_some,Nat.reduceAdd,Nat.reduceMul,Int.reduceToNat])
  refine Tr.orG (c := false) (fun hb => ?_) ?_
  · (repeat' first|(with_reducible first|refine Ga ?_|refine Gn fun b h=>?_|apply Tr.andG|apply Tr.orG|refine Tr.xFits ?_|rintro px rfl|refine fun(h:H)=>?_|intro hb)|((with_reducible first|apply Gb|apply Gc|apply Gd|apply Ge|apply Gf|apply Gg|apply Gh|apply Gi);·first|rfl|assumption)|((with_reducible first|apply Gj|apply Gk|apply Gl|apply Gm);·first|assumption|rfl)|((with_reducible apply Tr.xV);·exact⟨Nat.le_of_ble_eq_true rfl,rfl,rfl⟩)|((with_reducible apply Tr.xAgg);·exact⟨Nat.le_of_ble_eq_true rfl,rfl⟩)|((with_reducible apply Tr.xPAgg);·exact⟨Nat.le_of_ble_eq_true rfl,rfl,rfl⟩)|((with_reducible first|refine Tr.ck ?_ ?_|apply Tr.xSome|apply Tr.xCells);·first|rfl|omega|(simp only[gnd] at hb;omega))|((with_reducible refine Tr.same ?_ ?_);·first|exact sameV_sl _ _ _|exact sameV_ptr _|exact sameV_int _ _|exact sameV_bool _|exact sameV_str _)|((with_reducible apply Tr.xCellsB);·exact⟨Nat.le_of_ble_eq_true rfl,rfl⟩)|((with_reducible apply Tr.asBytes);·exact bytesN1_byteCells _)|(refine Tr.some fun _=>?_;exact⟨rfl,rfl⟩)|fail)
    refine Tr.some fun o => ?_
    exact ⟨decide_eq_false (by omega), rfl⟩
  refine Tr.condF rfl ?_
  rw [Int.toNat_natCast]
  (repeat' first|(with_reducible first|refine Ga ?_|refine Gn fun b h=>?_|apply Tr.andG|apply Tr.orG|refine Tr.xFits ?_|rintro px rfl|refine fun(h:H)=>?_|intro hb)|((with_reducible first|apply Gb|apply Gc|apply Gd|apply Ge|apply Gf|apply Gg|apply Gh|apply Gi);·first|rfl|assumption)|((with_reducible first|apply Gj|apply Gk|apply Gl|apply Gm);·first|assumption|rfl)|((with_reducible apply Tr.xV);·exact⟨Nat.le_of_ble_eq_true rfl,rfl,rfl⟩)|((with_reducible apply Tr.xAgg);·exact⟨Nat.le_of_ble_eq_true rfl,rfl⟩)|((with_reducible apply Tr.xPAgg);·exact⟨Nat.le_of_ble_eq_true rfl,rfl,rfl⟩)|((with_reducible first|refine Tr.ck ?_ ?_|apply Tr.xSome|apply Tr.xCells);·first|rfl|omega|(simp only[gnd] at hb;omega))|((with_reducible refine Tr.same ?_ ?_);·first|exact sameV_sl _ _ _|exact sameV_ptr _|exact sameV_int _ _|exact sameV_bool _|exact sameV_str _)|((with_reducible apply Tr.xCellsB);·exact⟨Nat.le_of_ble_eq_true rfl,rfl⟩)|((with_reducible apply Tr.asBytes);·exact bytesN1_byteCells _)|(refine Tr.some fun _=>?_;exact⟨rfl,rfl⟩)|fail)
section
variable (gs : List (Option Addr × Nat)) (ops : List OpS) (a : Option Addr) (c : Nat) (b5 k : Nat)
abbrev seF (S : KS) (st : List Int) : List HP := [kernC k S, pt b5 (.cells Y_4_int false (st.map int)), slC true Y_law8_Op 8 a ops.length c (opsV gs ops)]
def seGoal (i : Nat) (S : KS) (st : List Int) : Prop :=
  CtJ JUMP F_law8_KernSects T_law8_KernSects_L1 [(0, .slice a ops.length c), (3, P0 k), (5, P0 b5), (6, int i)] (seF gs ops a c b5 k S st) fun v own => v = .bool true
theorem se_L2 (i : Nat) (hi : i ≤ 80) (S : KS) (st : List Int) (so : SeOk S st) (next : seGoal gs ops a c b5 k (i + 1) S st) : ∀ (m s : Nat), 2 - s = m → s ≤ 2 →
    CtJ JUMP F_law8_KernSects T_law8_KernSects_L2 [(0, .slice a ops.length c), (3, P0 k), (5, P0 b5), (6, int i), (12, int s)] (seF gs ops a c b5 k S st) fun v own => v = .bool true := by
  have e1 : IntKind.wrap .i64 ((i : Int) + 1) = ((i + 1 : Nat) : Int) := by rw [wrap_eq]; omega
  intro m
  induction m with
  | zero =>
    intro s hm hs
    refine CtJ.of k_law8_KernSects fun h r => Tr.eq (e_law8_KernSects_L2 ..) ?_; (try simp only[nrm,nrmL,aSome_some,Nat.reduceAdd,Nat.reduceMul,Int.reduceToNat])
    refine Tr.condF (by simp; omega) ?_
    rw [e1]
    refine Tr.xRun (next) ?_; rintro _ h rfl
    rfl
  | succ m ih =>
    intro s hm hs
    have e2 : IntKind.wrap .i64 ((s : Int) + 1) = ((s + 1 : Nat) : Int) := by rw [wrap_eq]; omega
    have hlt : s < S.sects.length := by rw [so.two]; omega
    have hT : S.sects[s]? = some S.sects[s] := List.getElem?_eq_getElem hlt
    have hh := so.held s _ hT
    generalize S.sects[s] = T at hT hh
    refine CtJ.of k_law8_KernSects fun h r => Tr.eq (e_law8_KernSects_L2 ..) ?_; (try simp only[nrm,nrmL,aSome_some,Nat.reduceAdd,Nat.reduceMul,Int.reduceToNat])
    refine Tr.condT (by simp; omega) ?_
    refine tr_open (kernC k S) fun A => ?_; (try simp only[nrm,nrmL,aSome_some,Nat.reduceAdd,Nat.reduceMul,Int.reduceToNat])
    refine tr_pureAt 10 rfl fun hA => ?_
    obtain ⟨x, hx⟩ : ∃ x, A.ss[s]? = some x := ⟨A.ss[s]'(by omega), List.getElem?_eq_getElem _⟩
    refine Tr.pcall (ct_kSect k S A s x hlt hx) ?_
    (repeat' first|(with_reducible first|refine Ga ?_|refine Gn fun b h=>?_|apply Tr.andG|apply Tr.orG|refine Tr.xFits ?_|rintro px rfl|refine fun(h:H)=>?_|intro hb)|((with_reducible first|apply Gb|apply Gc|apply Gd|apply Ge|apply Gf|apply Gg|apply Gh|apply Gi);·first|rfl|assumption)|((with_reducible first|apply Gj|apply Gk|apply Gl|apply Gm);·first|assumption|rfl)|((with_reducible apply Tr.xV);·exact⟨Nat.le_of_ble_eq_true rfl,rfl,rfl⟩)|((with_reducible apply Tr.xAgg);·exact⟨Nat.le_of_ble_eq_true rfl,rfl⟩)|((with_reducible apply Tr.xPAgg);·exact⟨Nat.le_of_ble_eq_true rfl,rfl,rfl⟩)|((with_reducible first|refine Tr.ck ?_ ?_|apply Tr.xSome|apply Tr.xCells);·first|rfl|omega|(simp only[gnd] at hb;omega))|((with_reducible refine Tr.same ?_ ?_);·first|exact sameV_sl _ _ _|exact sameV_ptr _|exact sameV_int _ _|exact sameV_bool _|exact sameV_str _)|((with_reducible apply Tr.xCellsB);·exact⟨Nat.le_of_ble_eq_true rfl,rfl⟩)|((with_reducible apply Tr.asBytes);·exact bytesN1_byteCells _)|(refine Tr.some fun _=>?_;exact⟨rfl,rfl⟩)|fail)
    refine tr_at2 sectC A.ss S.sects hx hT ?_
    refine Tr.pcall (ct_Holder x T) ?_
    cases hb : T.held with
    | false =>
      simp only [Bool.false_eq_true, if_false]
      (repeat' first|(with_reducible first|refine Ga ?_|refine Gn fun b h=>?_|refine Tr.xFits ?_|rintro px rfl|refine fun(h:H)=>?_|intro hb)|((with_reducible first|apply Gb|apply Gc|apply Gd|apply Ge|apply Gf|apply Gg|apply Gh|apply Gi);·first|rfl|assumption)|((with_reducible first|apply Gj|apply Gk|apply Gl|apply Gm);·first|assumption|rfl)|((with_reducible apply Tr.xV);·exact⟨Nat.le_of_ble_eq_true rfl,rfl,rfl⟩)|((with_reducible apply Tr.xAgg);·exact⟨Nat.le_of_ble_eq_true rfl,rfl⟩)|((with_reducible apply Tr.xPAgg);·exact⟨Nat.le_of_ble_eq_true rfl,rfl,rfl⟩)|((with_reducible first|refine Tr.ck ?_ ?_|apply Tr.xSome|apply Tr.xCells);·first|rfl|omega|(simp only[gnd] at hb;omega))|((with_reducible refine Tr.same ?_ ?_);·first|exact sameV_sl _ _ _|exact sameV_ptr _|exact sameV_int _ _|exact sameV_bool _|exact sameV_str _)|((with_reducible apply Tr.xCellsB);·exact⟨Nat.le_of_ble_eq_true rfl,rfl⟩)|((with_reducible apply Tr.asBytes);·exact bytesN1_byteCells _)|(refine Tr.some fun _=>?_;exact⟨rfl,rfl⟩)|fail)
      refine tr_back2 sectC A.ss S.sects s hx hT ?_
      refine tr_foldI (kernC k S) A [1, 1, 1, 1, 1, 1, 1, 1, 1, 0, 0] rfl ?_; (try simp only[nrm,nrmL,aSome_some,Nat.reduceAdd,Nat.reduceMul,Int.reduceToNat])
      rw [e2]
      refine Tr.xRun (ih (s + 1) (by omega) (by omega)) ?_; rintro _ h rfl
      rfl
    | true =>
      obtain ⟨h1, h2, h3, h4⟩ := hh hb
      have ew : IntKind.wrap .i64 (Int.tdiv T.who 2) = s := by rw [Int.tdiv_eq_ediv_of_nonneg h1, wrap_eq]; omega
      have e4 : T.who % 4 = T.who := by omega
      have hst : (st.map int)[T.who.toNat]? = some (.int .i64 T.stamp) := by rw [List.getElem?_map, h4]; rfl
      have hho : holds T T.who T.stamp = true := by unfold holds; rw [hb]; simp
      simp only [if_true]
      (repeat' first|(with_reducible first|refine Ga ?_|refine Gn fun b h=>?_|refine Tr.xFits ?_|rintro px rfl|refine fun(h:H)=>?_|intro hb)|((with_reducible first|apply Gb|apply Gc|apply Gd|apply Ge|apply Gf|apply Gg|apply Gh|apply Gi);·first|rfl|assumption)|((with_reducible first|apply Gj|apply Gk|apply Gl|apply Gm);·first|assumption|rfl)|((with_reducible apply Tr.xV);·exact⟨Nat.le_of_ble_eq_true rfl,rfl,rfl⟩)|((with_reducible apply Tr.xAgg);·exact⟨Nat.le_of_ble_eq_true rfl,rfl⟩)|((with_reducible apply Tr.xPAgg);·exact⟨Nat.le_of_ble_eq_true rfl,rfl,rfl⟩)|((with_reducible first|refine Tr.ck ?_ ?_|apply Tr.xSome|apply Tr.xCells);·first|rfl|omega|(simp only[gnd] at hb;omega))|((with_reducible refine Tr.same ?_ ?_);·first|exact sameV_sl _ _ _|exact sameV_ptr _|exact sameV_int _ _|exact sameV_bool _|exact sameV_str _)|((with_reducible apply Tr.xCellsB);·exact⟨Nat.le_of_ble_eq_true rfl,rfl⟩)|((with_reducible apply Tr.asBytes);·exact bytesN1_byteCells _)|(refine Tr.some fun _=>?_;exact⟨rfl,rfl⟩)|fail)
      simp only [ew, bitA_3, e4, bne_self_eq_false]
      refine Tr.bnd (Tr.condT rfl ?_)
      refine Tr.bnd (Tr.condF rfl ?_)
      (repeat' first|(with_reducible first|refine Ga ?_|refine Gn fun b h=>?_|refine Tr.xFits ?_|rintro px rfl|refine fun(h:H)=>?_|intro hb)|((with_reducible first|apply Gb|apply Gc|apply Gd|apply Ge|apply Gf|apply Gg|apply Gh|apply Gi);·first|rfl|assumption)|((with_reducible first|apply Gj|apply Gk|apply Gl|apply Gm);·first|assumption|rfl)|((with_reducible apply Tr.xV);·exact⟨Nat.le_of_ble_eq_true rfl,rfl,rfl⟩)|((with_reducible apply Tr.xAgg);·exact⟨Nat.le_of_ble_eq_true rfl,rfl⟩)|((with_reducible apply Tr.xPAgg);·exact⟨Nat.le_of_ble_eq_true rfl,rfl,rfl⟩)|((with_reducible first|refine Tr.ck ?_ ?_|apply Tr.xSome|apply Tr.xCells);·first|rfl|omega|(simp only[gnd] at hb;omega))|((with_reducible refine Tr.same ?_ ?_);·first|exact sameV_sl _ _ _|exact sameV_ptr _|exact sameV_int _ _|exact sameV_bool _|exact sameV_str _)|((with_reducible apply Tr.xCellsB);·exact⟨Nat.le_of_ble_eq_true rfl,rfl⟩)|((with_reducible apply Tr.asBytes);·exact bytesN1_byteCells _)|(refine Tr.some fun _=>?_;exact⟨rfl,rfl⟩)|fail)
      refine Tr.pcall (ct_Holds x T T.who T.stamp) ?_
      rw [hho]
      (repeat' first|(with_reducible first|refine Ga ?_|refine Gn fun b h=>?_|refine Tr.xFits ?_|rintro px rfl|refine fun(h:H)=>?_|intro hb)|((with_reducible first|apply Gb|apply Gc|apply Gd|apply Ge|apply Gf|apply Gg|apply Gh|apply Gi);·first|rfl|assumption)|((with_reducible first|apply Gj|apply Gk|apply Gl|apply Gm);·first|assumption|rfl)|((with_reducible apply Tr.xV);·exact⟨Nat.le_of_ble_eq_true rfl,rfl,rfl⟩)|((with_reducible apply Tr.xAgg);·exact⟨Nat.le_of_ble_eq_true rfl,rfl⟩)|((with_reducible apply Tr.xPAgg);·exact⟨Nat.le_of_ble_eq_true rfl,rfl,rfl⟩)|((with_reducible first|refine Tr.ck ?_ ?_|apply Tr.xSome|apply Tr.xCells);·first|rfl|omega|(simp only[gnd] at hb;omega))|((with_reducible refine Tr.same ?_ ?_);·first|exact sameV_sl _ _ _|exact sameV_ptr _|exact sameV_int _ _|exact sameV_bool _|exact sameV_str _)|((with_reducible apply Tr.xCellsB);·exact⟨Nat.le_of_ble_eq_true rfl,rfl⟩)|((with_reducible apply Tr.asBytes);·exact bytesN1_byteCells _)|(refine Tr.some fun _=>?_;exact⟨rfl,rfl⟩)|fail)
      refine Tr.some fun o => (?_ : Tr _ _ _ _) o; (try simp only[nrm,nrmL,aSome_some,Nat.reduceAdd,Nat.reduceMul,Int.reduceToNat])
      refine Tr.some fun o => (?_ : Tr _ _ _ _) o; (try simp only[nrm,nrmL,aSome_some,Nat.reduceAdd,Nat.reduceMul,Int.reduceToNat])
      refine Tr.condF rfl ?_
      refine tr_back2 sectC A.ss S.sects s hx hT ?_
      refine tr_foldI (kernC k S) A [1, 1, 1, 1, 1, 1, 1, 1, 1, 0, 0] rfl ?_; (try simp only[nrm,nrmL,aSome_some,Nat.reduceAdd,Nat.reduceMul,Int.reduceToNat])
      rw [e2]
      refine Tr.xRun (ih (s + 1) (by omega) (by omega)) ?_; rintro _ h rfl
      rfl
theorem se_L1 (hgs : gs.length = ops.length) : ∀ (m i : Nat) (S : KS) (st : List Int), 80 - i = m → i ≤ 80 → KOk (2 * i) S → SeOk S st → seGoal gs ops a c b5 k i S st := by
  intro m
  induction m using Nat.strongRecOn with
  | _ m ih =>
    intro i S st hm hi ok so
    unfold seGoal
    by_cases hlt2 : i < ops.length ∧ i < 80
    · obtain ⟨hlt, h80⟩ := hlt2
      have hx : ops[i]? = some ops[i] := List.getElem?_eq_getElem hlt
      obtain ⟨g, hg⟩ : ∃ g, gs[i]? = some g := ⟨gs[i], List.getElem?_eq_getElem (by omega)⟩
      generalize ops[i] = q at hx
      have hcell : ((opsV gs ops).drop (i * 8)).take 8 = opL (g, q) := flat_one opL_len (getZip hg hx)
      have hlen : (opsV gs ops).length = ops.length * 8 := by unfold opsV; rw [flat_len opL_len]; simp [hgs]
      have e1 : IntKind.wrap .i64 ((i : Int) + 1) = ((i + 1 : Nat) : Int) := by rw [wrap_eq]; omega
      have next : ∀ S' st', KOk (2 * (i + 1)) S' → SeOk S' st' → seGoal gs ops a c b5 k (i + 1) S' st' := fun S' st' k1 k2 => ih (80 - (i + 1)) (by omega) (i + 1) S' st' rfl (by omega) k1 k2
      have hn : 0 ≤ q.c.n % 2 ∧ q.c.n % 2 < 2 := by omega
      have he : 0 ≤ q.env % 4 ∧ q.env % 4 < 4 := by omega
      have ed : IntKind.wrap .i64 (Int.tdiv (q.env % 4) 2) = q.env % 4 / 2 := by rw [Int.tdiv_eq_ediv_of_nonneg he.1, wrap_eq]; omega
      refine CtJ.of k_law8_KernSects fun h r => Tr.eq (e_law8_KernSects_L1 ..) ?_; (try simp only[nrm,nrmL,aSome_some,Nat.reduceAdd,Nat.reduceMul,Int.reduceToNat])
      rw [Int.toNat_natCast]
      refine Tr.andG (c := decide ((i : Int) < 80)) (fun hb => ?_) ?_
      · (repeat' first|(with_reducible first|refine Ga ?_|refine Gn fun b h=>?_|apply Tr.andG|apply Tr.orG|refine Tr.xFits ?_|rintro px rfl|refine fun(h:H)=>?_|intro hb)|((with_reducible first|apply Gb|apply Gc|apply Gd|apply Ge|apply Gf|apply Gg|apply Gh|apply Gi);·first|rfl|assumption)|((with_reducible first|apply Gj|apply Gk|apply Gl|apply Gm);·first|assumption|rfl)|((with_reducible apply Tr.xV);·exact⟨Nat.le_of_ble_eq_true rfl,rfl,rfl⟩)|((with_reducible apply Tr.xAgg);·exact⟨Nat.le_of_ble_eq_true rfl,rfl⟩)|((with_reducible apply Tr.xPAgg);·exact⟨Nat.le_of_ble_eq_true rfl,rfl,rfl⟩)|((with_reducible first|refine Tr.ck ?_ ?_|apply Tr.xSome|apply Tr.xCells);·first|rfl|omega|(simp only[gnd] at hb;omega))|((with_reducible refine Tr.same ?_ ?_);·first|exact sameV_sl _ _ _|exact sameV_ptr _|exact sameV_int _ _|exact sameV_bool _|exact sameV_str _)|((with_reducible apply Tr.xCellsB);·exact⟨Nat.le_of_ble_eq_true rfl,rfl⟩)|((with_reducible apply Tr.asBytes);·exact bytesN1_byteCells _)|(refine Tr.some fun _=>?_;exact⟨rfl,rfl⟩)|fail)
      refine Tr.condT (by simp; omega) ?_
      (repeat' first|(with_reducible first|refine Ga ?_|refine Gn fun b h=>?_|refine Tr.xFits ?_|rintro px rfl|refine fun(h:H)=>?_|intro hb)|((with_reducible first|apply Gb|apply Gc|apply Gd|apply Ge|apply Gf|apply Gg|apply Gh|apply Gi);·first|rfl|assumption)|((with_reducible first|apply Gj|apply Gk|apply Gl|apply Gm);·first|assumption|rfl)|((with_reducible apply Tr.xV);·exact⟨Nat.le_of_ble_eq_true rfl,rfl,rfl⟩)|((with_reducible apply Tr.xAgg);·exact⟨Nat.le_of_ble_eq_true rfl,rfl⟩)|((with_reducible apply Tr.xPAgg);·exact⟨Nat.le_of_ble_eq_true rfl,rfl,rfl⟩)|((with_reducible first|refine Tr.ck ?_ ?_|apply Tr.xSome|apply Tr.xCells);·first|rfl|omega|(simp only[gnd] at hb;omega))|((with_reducible refine Tr.same ?_ ?_);·first|exact sameV_sl _ _ _|exact sameV_ptr _|exact sameV_int _ _|exact sameV_bool _|exact sameV_str _)|((with_reducible apply Tr.xCellsB);·exact⟨Nat.le_of_ble_eq_true rfl,rfl⟩)|((with_reducible apply Tr.asBytes);·exact bytesN1_byteCells _)|(refine Tr.some fun _=>?_;exact⟨rfl,rfl⟩)|fail)
      refine Tr.xAggS (xs := opL (g, q)) ⟨by omega, by rw [hlen]; omega, hcell⟩ ?_
      (repeat' first|(with_reducible first|refine Ga ?_|refine Gn fun b h=>?_|refine Tr.xFits ?_|rintro px rfl|refine fun(h:H)=>?_|intro hb)|((with_reducible first|apply Gb|apply Gc|apply Gd|apply Ge|apply Gf|apply Gg|apply Gh|apply Gi);·first|rfl|assumption)|((with_reducible first|apply Gj|apply Gk|apply Gl|apply Gm);·first|assumption|rfl)|((with_reducible apply Tr.xV);·exact⟨Nat.le_of_ble_eq_true rfl,rfl,rfl⟩)|((with_reducible apply Tr.xAgg);·exact⟨Nat.le_of_ble_eq_true rfl,rfl⟩)|((with_reducible apply Tr.xPAgg);·exact⟨Nat.le_of_ble_eq_true rfl,rfl,rfl⟩)|((with_reducible first|refine Tr.ck ?_ ?_|apply Tr.xSome|apply Tr.xCells);·first|rfl|omega|(simp only[gnd] at hb;omega))|((with_reducible refine Tr.same ?_ ?_);·first|exact sameV_sl _ _ _|exact sameV_ptr _|exact sameV_int _ _|exact sameV_bool _|exact sameV_str _)|((with_reducible apply Tr.xCellsB);·exact⟨Nat.le_of_ble_eq_true rfl,rfl⟩)|((with_reducible apply Tr.asBytes);·exact bytesN1_byteCells _)|(refine Tr.some fun _=>?_;exact⟨rfl,rfl⟩)|fail)
      simp only [opL, callL, List.length_cons, List.length_nil]
      (try simp only[nrm,nrmL,aSome_some,Nat.reduceAdd,Nat.reduceMul,Int.reduceToNat])
      by_cases hneg : q.env < 0
      · refine Tr.condT (by simpa using hneg) ?_
        (repeat' first|(with_reducible first|refine Ga ?_|refine Gn fun b h=>?_|refine Tr.xFits ?_|rintro px rfl|refine fun(h:H)=>?_|intro hb)|((with_reducible first|apply Gb|apply Gc|apply Gd|apply Ge|apply Gf|apply Gg|apply Gh|apply Gi);·first|rfl|assumption)|((with_reducible first|apply Gj|apply Gk|apply Gl|apply Gm);·first|assumption|rfl)|((with_reducible apply Tr.xV);·exact⟨Nat.le_of_ble_eq_true rfl,rfl,rfl⟩)|((with_reducible apply Tr.xAgg);·exact⟨Nat.le_of_ble_eq_true rfl,rfl⟩)|((with_reducible apply Tr.xPAgg);·exact⟨Nat.le_of_ble_eq_true rfl,rfl,rfl⟩)|((with_reducible first|refine Tr.ck ?_ ?_|apply Tr.xSome|apply Tr.xCells);·first|rfl|omega|(simp only[gnd] at hb;omega))|((with_reducible refine Tr.same ?_ ?_);·first|exact sameV_sl _ _ _|exact sameV_ptr _|exact sameV_int _ _|exact sameV_bool _|exact sameV_str _)|((with_reducible apply Tr.xCellsB);·exact⟨Nat.le_of_ble_eq_true rfl,rfl⟩)|((with_reducible apply Tr.asBytes);·exact bytesN1_byteCells _)|(refine Tr.some fun _=>?_;exact⟨rfl,rfl⟩)|fail)
        refine Tr.xCall (ct_kTick k S (2 * i) ok (bitA .i64 q.c.n 3)) ?_; rintro _ h ⟨rfl, o⟩ <;> (refine (?_ : Tr _ _ _ _) o; (try simp only[nrm,nrmL,aSome_some,Nat.reduceAdd,Nat.reduceMul,Int.reduceToNat]); (repeat' first|(with_reducible first|refine Ga ?_|refine Gn fun b h=>?_|refine Tr.xFits ?_|rintro px rfl|refine fun(h:H)=>?_|intro hb)|((with_reducible first|apply Gb|apply Gc|apply Gd|apply Ge|apply Gf|apply Gg|apply Gh|apply Gi);·first|rfl|assumption)|((with_reducible first|apply Gj|apply Gk|apply Gl|apply Gm);·first|assumption|rfl)|((with_reducible apply Tr.xV);·exact⟨Nat.le_of_ble_eq_true rfl,rfl,rfl⟩)|((with_reducible apply Tr.xAgg);·exact⟨Nat.le_of_ble_eq_true rfl,rfl⟩)|((with_reducible apply Tr.xPAgg);·exact⟨Nat.le_of_ble_eq_true rfl,rfl,rfl⟩)|((with_reducible first|refine Tr.ck ?_ ?_|apply Tr.xSome|apply Tr.xCells);·first|rfl|omega|(simp only[gnd] at hb;omega))|((with_reducible refine Tr.same ?_ ?_);·first|exact sameV_sl _ _ _|exact sameV_ptr _|exact sameV_int _ _|exact sameV_bool _|exact sameV_str _)|((with_reducible apply Tr.xCellsB);·exact⟨Nat.le_of_ble_eq_true rfl,rfl⟩)|((with_reducible apply Tr.asBytes);·exact bytesN1_byteCells _)|(refine Tr.some fun _=>?_;exact⟨rfl,rfl⟩)|fail))
        rw [e1]
        refine Tr.xRun (next (kTick S (bitA .i64 q.c.n 3)) st ((kTick_ok ok _).up (by omega) (by omega)) (seTick so _)) ?_; rintro _ h rfl
        rfl
      refine Tr.condF (by simpa using hneg) ?_
      (repeat' first|(with_reducible first|refine Ga ?_|refine Gn fun b h=>?_|refine Tr.xFits ?_|rintro px rfl|refine fun(h:H)=>?_|intro hb)|((with_reducible first|apply Gb|apply Gc|apply Gd|apply Ge|apply Gf|apply Gg|apply Gh|apply Gi);·first|rfl|assumption)|((with_reducible first|apply Gj|apply Gk|apply Gl|apply Gm);·first|assumption|rfl)|((with_reducible apply Tr.xV);·exact⟨Nat.le_of_ble_eq_true rfl,rfl,rfl⟩)|((with_reducible apply Tr.xAgg);·exact⟨Nat.le_of_ble_eq_true rfl,rfl⟩)|((with_reducible apply Tr.xPAgg);·exact⟨Nat.le_of_ble_eq_true rfl,rfl,rfl⟩)|((with_reducible first|refine Tr.ck ?_ ?_|apply Tr.xSome|apply Tr.xCells);·first|rfl|omega|(simp only[gnd] at hb;omega))|((with_reducible refine Tr.same ?_ ?_);·first|exact sameV_sl _ _ _|exact sameV_ptr _|exact sameV_int _ _|exact sameV_bool _|exact sameV_str _)|((with_reducible apply Tr.xCellsB);·exact⟨Nat.le_of_ble_eq_true rfl,rfl⟩)|((with_reducible apply Tr.asBytes);·exact bytesN1_byteCells _)|(refine Tr.some fun _=>?_;exact⟨rfl,rfl⟩)|fail)
      simp only [bitA_1, bitA_3]
      by_cases h2 : q.c.op % 2 = 0
      · refine Tr.condT (by simpa using h2) ?_
        have ok2 := kAns_ok ok (by omega) (q.env % 4) ⟨8, 0, 0, q.c.n % 2, 0, 0, []⟩
        obtain ⟨M, S2, hans, so2⟩ := seEnter so ok he hn
        refine Tr.xCall (ct_kDo0 k S (2 * i) ok (by omega) (q.env % 4) 8 0 0 (q.c.n % 2) 0 0 (by decide)) ?_; rintro _ h ⟨x2, d2, rfl, o⟩ <;> (refine (?_ : Tr _ _ _ _) o; (try simp only[nrm,nrmL,aSome_some,Nat.reduceAdd,Nat.reduceMul,Int.reduceToNat]); (repeat' first|(with_reducible first|refine Ga ?_|refine Gn fun b h=>?_|refine Tr.xFits ?_|rintro px rfl|refine fun(h:H)=>?_|intro hb)|((with_reducible first|apply Gb|apply Gc|apply Gd|apply Ge|apply Gf|apply Gg|apply Gh|apply Gi);·first|rfl|assumption)|((with_reducible first|apply Gj|apply Gk|apply Gl|apply Gm);·first|assumption|rfl)|((with_reducible apply Tr.xV);·exact⟨Nat.le_of_ble_eq_true rfl,rfl,rfl⟩)|((with_reducible apply Tr.xAgg);·exact⟨Nat.le_of_ble_eq_true rfl,rfl⟩)|((with_reducible apply Tr.xPAgg);·exact⟨Nat.le_of_ble_eq_true rfl,rfl,rfl⟩)|((with_reducible first|refine Tr.ck ?_ ?_|apply Tr.xSome|apply Tr.xCells);·first|rfl|omega|(simp only[gnd] at hb;omega))|((with_reducible refine Tr.same ?_ ?_);·first|exact sameV_sl _ _ _|exact sameV_ptr _|exact sameV_int _ _|exact sameV_bool _|exact sameV_str _)|((with_reducible apply Tr.xCellsB);·exact⟨Nat.le_of_ble_eq_true rfl,rfl⟩)|((with_reducible apply Tr.asBytes);·exact bytesN1_byteCells _)|(refine Tr.some fun _=>?_;exact⟨rfl,rfl⟩)|fail))
        simp only [List.length_cons, List.length_nil]
        (try simp only[nrm,nrmL,aSome_some,Nat.reduceAdd,Nat.reduceMul,Int.reduceToNat])
        rw [hans] at ok2 ⊢
        (repeat' first|(with_reducible first|refine Ga ?_|refine Gn fun b h=>?_|refine Tr.xFits ?_|rintro px rfl|refine fun(h:H)=>?_|intro hb)|((with_reducible first|apply Gb|apply Gc|apply Gd|apply Ge|apply Gf|apply Gg|apply Gh|apply Gi);·first|rfl|assumption)|((with_reducible first|apply Gj|apply Gk|apply Gl|apply Gm);·first|assumption|rfl)|((with_reducible apply Tr.xV);·exact⟨Nat.le_of_ble_eq_true rfl,rfl,rfl⟩)|((with_reducible apply Tr.xAgg);·exact⟨Nat.le_of_ble_eq_true rfl,rfl⟩)|((with_reducible apply Tr.xPAgg);·exact⟨Nat.le_of_ble_eq_true rfl,rfl,rfl⟩)|((with_reducible first|refine Tr.ck ?_ ?_|apply Tr.xSome|apply Tr.xCells);·first|rfl|omega|(simp only[gnd] at hb;omega))|((with_reducible refine Tr.same ?_ ?_);·first|exact sameV_sl _ _ _|exact sameV_ptr _|exact sameV_int _ _|exact sameV_bool _|exact sameV_str _)|((with_reducible apply Tr.xCellsB);·exact⟨Nat.le_of_ble_eq_true rfl,rfl⟩)|((with_reducible apply Tr.asBytes);·exact bytesN1_byteCells _)|(refine Tr.some fun _=>?_;exact⟨rfl,rfl⟩)|fail)
        rw [ed]
        dsimp only
        have fin : ∀ (h : H) (r : List HP), Tr (pt b (.cells Y_api_Answer false [int (if q.env % 4 / 2 = q.c.n % 2 then 0 else 8), int M, .slice x2 0 d2]) :: kernC k S2 :: pt b5 (.cells Y_4_int false (st.map int)) :: slC true Y_law8_Op 8 (some px) ops.length c (opsV gs ops) :: r) h
            (NN.gInt .i64 ⟨b, 1, none⟩ h fun x_11 => cond (decide (x_11 > 0)) (NN.gInt .i64 ⟨b, 1, none⟩ h fun x_12 => NN.ck ((0 : Int) ≤ q.env % 4 ∧ q.env % 4 < ((4 : Nat) : Int)) (NN.pV ⟨b5, (q.env % 4).toNat, none⟩ (int x_12) h fun hv_9 =>
              JUMP F_law8_KernSects T_law8_KernSects_L2 [(0, .slice (some px) ops.length c), (3, P0 k), (5, P0 b5), (6, int i), (12, int 0)] hv_9))
              (JUMP F_law8_KernSects T_law8_KernSects_L2 [(0, .slice (some px) ops.length c), (3, P0 k), (5, P0 b5), (6, int i), (12, int 0)] h)) (fun v h' => v = .bool true) := by
          intro h r
          (repeat' first|(with_reducible first|refine Ga ?_|refine Gn fun b h=>?_|refine Tr.xFits ?_|rintro px rfl|refine fun(h:H)=>?_|intro hb)|((with_reducible first|apply Gb|apply Gc|apply Gd|apply Ge|apply Gf|apply Gg|apply Gh|apply Gi);·first|rfl|assumption)|((with_reducible first|apply Gj|apply Gk|apply Gl|apply Gm);·first|assumption|rfl)|((with_reducible apply Tr.xV);·exact⟨Nat.le_of_ble_eq_true rfl,rfl,rfl⟩)|((with_reducible apply Tr.xAgg);·exact⟨Nat.le_of_ble_eq_true rfl,rfl⟩)|((with_reducible apply Tr.xPAgg);·exact⟨Nat.le_of_ble_eq_true rfl,rfl,rfl⟩)|((with_reducible first|refine Tr.ck ?_ ?_|apply Tr.xSome|apply Tr.xCells);·first|rfl|omega|(simp only[gnd] at hb;omega))|((with_reducible refine Tr.same ?_ ?_);·first|exact sameV_sl _ _ _|exact sameV_ptr _|exact sameV_int _ _|exact sameV_bool _|exact sameV_str _)|((with_reducible apply Tr.xCellsB);·exact⟨Nat.le_of_ble_eq_true rfl,rfl⟩)|((with_reducible apply Tr.asBytes);·exact bytesN1_byteCells _)|(refine Tr.some fun _=>?_;exact⟨rfl,rfl⟩)|fail)
          by_cases hM : M > 0
          · rw [if_pos hM] at so2
            refine Tr.condT (decide_eq_true hM) ?_
            (repeat' first|(with_reducible first|refine Ga ?_|refine Gn fun b h=>?_|refine Tr.xFits ?_|rintro px rfl|refine fun(h:H)=>?_|intro hb)|((with_reducible first|apply Gb|apply Gc|apply Gd|apply Ge|apply Gf|apply Gg|apply Gh|apply Gi);·first|rfl|assumption)|((with_reducible first|apply Gj|apply Gk|apply Gl|apply Gm);·first|assumption|rfl)|((with_reducible apply Tr.xV);·exact⟨Nat.le_of_ble_eq_true rfl,rfl,rfl⟩)|((with_reducible apply Tr.xAgg);·exact⟨Nat.le_of_ble_eq_true rfl,rfl⟩)|((with_reducible apply Tr.xPAgg);·exact⟨Nat.le_of_ble_eq_true rfl,rfl,rfl⟩)|((with_reducible first|refine Tr.ck ?_ ?_|apply Tr.xSome|apply Tr.xCells);·first|rfl|omega|(simp only[gnd] at hb;omega))|((with_reducible refine Tr.same ?_ ?_);·first|exact sameV_sl _ _ _|exact sameV_ptr _|exact sameV_int _ _|exact sameV_bool _|exact sameV_str _)|((with_reducible apply Tr.xCellsB);·exact⟨Nat.le_of_ble_eq_true rfl,rfl⟩)|((with_reducible apply Tr.asBytes);·exact bytesN1_byteCells _)|(refine Tr.some fun _=>?_;exact⟨rfl,rfl⟩)|fail)
            refine Tr.xV ⟨by rw [List.length_map, so.four]; omega, rfl, rfl⟩ fun h => ?_
            rw [show (st.map int).set (q.env % 4).toNat (int M) = (st.set (q.env % 4).toNat M).map int by rw [List.map_set]]
            refine Tr.xRun (se_L2 gs ops (some px) c b5 k i hi S2 (st.set (q.env % 4).toNat M) so2 (next _ _ ok2 so2) _ 0 rfl (by omega)) ?_; rintro _ h rfl
            rfl
          · rw [if_neg hM] at so2
            refine Tr.condF (decide_eq_false hM) ?_
            refine Tr.xRun (se_L2 gs ops (some px) c b5 k i hi S2 st so2 (next _ _ ok2 so2) _ 0 rfl (by omega)) ?_; rintro _ h rfl
            rfl
        by_cases hq : q.env % 4 / 2 = q.c.n % 2
        · have hbq : (q.env % 4 / 2 == q.c.n % 2) = true := by simpa using hq
          rw [hbq]
          simp only [if_pos hq] at fin ⊢
          refine Tr.bnd (Tr.condF rfl ?_)
          (repeat' first|(with_reducible first|refine Ga ?_|refine Gn fun b h=>?_|refine Tr.xFits ?_|rintro px rfl|refine fun(h:H)=>?_|intro hb)|((with_reducible first|apply Gb|apply Gc|apply Gd|apply Ge|apply Gf|apply Gg|apply Gh|apply Gi);·first|rfl|assumption)|((with_reducible first|apply Gj|apply Gk|apply Gl|apply Gm);·first|assumption|rfl)|((with_reducible apply Tr.xV);·exact⟨Nat.le_of_ble_eq_true rfl,rfl,rfl⟩)|((with_reducible apply Tr.xAgg);·exact⟨Nat.le_of_ble_eq_true rfl,rfl⟩)|((with_reducible apply Tr.xPAgg);·exact⟨Nat.le_of_ble_eq_true rfl,rfl,rfl⟩)|((with_reducible first|refine Tr.ck ?_ ?_|apply Tr.xSome|apply Tr.xCells);·first|rfl|omega|(simp only[gnd] at hb;omega))|((with_reducible refine Tr.same ?_ ?_);·first|exact sameV_sl _ _ _|exact sameV_ptr _|exact sameV_int _ _|exact sameV_bool _|exact sameV_str _)|((with_reducible apply Tr.xCellsB);·exact⟨Nat.le_of_ble_eq_true rfl,rfl⟩)|((with_reducible apply Tr.asBytes);·exact bytesN1_byteCells _)|(refine Tr.some fun _=>?_;exact⟨rfl,rfl⟩)|fail)
          refine Tr.bnd (Tr.condF rfl ?_)
          refine Tr.some fun o => (?_ : Tr _ _ _ _) o; (try simp only[nrm,nrmL,aSome_some,Nat.reduceAdd,Nat.reduceMul,Int.reduceToNat])
          refine Tr.some fun o => (?_ : Tr _ _ _ _) o; (try simp only[nrm,nrmL,aSome_some,Nat.reduceAdd,Nat.reduceMul,Int.reduceToNat])
          refine Tr.condF rfl ?_
          exact tr_order [0, 1, 2, 2] 0 rfl rfl (fin _ _)
        · have hbq : (q.env % 4 / 2 == q.c.n % 2) = false := by simpa using hq
          rw [hbq]
          simp only [if_neg hq] at fin ⊢
          refine Tr.bnd (Tr.condF rfl ?_)
          (repeat' first|(with_reducible first|refine Ga ?_|refine Gn fun b h=>?_|refine Tr.xFits ?_|rintro px rfl|refine fun(h:H)=>?_|intro hb)|((with_reducible first|apply Gb|apply Gc|apply Gd|apply Ge|apply Gf|apply Gg|apply Gh|apply Gi);·first|rfl|assumption)|((with_reducible first|apply Gj|apply Gk|apply Gl|apply Gm);·first|assumption|rfl)|((with_reducible apply Tr.xV);·exact⟨Nat.le_of_ble_eq_true rfl,rfl,rfl⟩)|((with_reducible apply Tr.xAgg);·exact⟨Nat.le_of_ble_eq_true rfl,rfl⟩)|((with_reducible apply Tr.xPAgg);·exact⟨Nat.le_of_ble_eq_true rfl,rfl,rfl⟩)|((with_reducible first|refine Tr.ck ?_ ?_|apply Tr.xSome|apply Tr.xCells);·first|rfl|omega|(simp only[gnd] at hb;omega))|((with_reducible refine Tr.same ?_ ?_);·first|exact sameV_sl _ _ _|exact sameV_ptr _|exact sameV_int _ _|exact sameV_bool _|exact sameV_str _)|((with_reducible apply Tr.xCellsB);·exact⟨Nat.le_of_ble_eq_true rfl,rfl⟩)|((with_reducible apply Tr.asBytes);·exact bytesN1_byteCells _)|(refine Tr.some fun _=>?_;exact⟨rfl,rfl⟩)|fail)
          refine Tr.bnd (Tr.condT rfl ?_)
          (repeat' first|(with_reducible first|refine Ga ?_|refine Gn fun b h=>?_|refine Tr.xFits ?_|rintro px rfl|refine fun(h:H)=>?_|intro hb)|((with_reducible first|apply Gb|apply Gc|apply Gd|apply Ge|apply Gf|apply Gg|apply Gh|apply Gi);·first|rfl|assumption)|((with_reducible first|apply Gj|apply Gk|apply Gl|apply Gm);·first|assumption|rfl)|((with_reducible apply Tr.xV);·exact⟨Nat.le_of_ble_eq_true rfl,rfl,rfl⟩)|((with_reducible apply Tr.xAgg);·exact⟨Nat.le_of_ble_eq_true rfl,rfl⟩)|((with_reducible apply Tr.xPAgg);·exact⟨Nat.le_of_ble_eq_true rfl,rfl,rfl⟩)|((with_reducible first|refine Tr.ck ?_ ?_|apply Tr.xSome|apply Tr.xCells);·first|rfl|omega|(simp only[gnd] at hb;omega))|((with_reducible refine Tr.same ?_ ?_);·first|exact sameV_sl _ _ _|exact sameV_ptr _|exact sameV_int _ _|exact sameV_bool _|exact sameV_str _)|((with_reducible apply Tr.xCellsB);·exact⟨Nat.le_of_ble_eq_true rfl,rfl⟩)|((with_reducible apply Tr.asBytes);·exact bytesN1_byteCells _)|(refine Tr.some fun _=>?_;exact⟨rfl,rfl⟩)|fail)
          refine Tr.some fun o => (?_ : Tr _ _ _ _) o; (try simp only[nrm,nrmL,aSome_some,Nat.reduceAdd,Nat.reduceMul,Int.reduceToNat])
          refine Tr.some fun o => (?_ : Tr _ _ _ _) o; (try simp only[nrm,nrmL,aSome_some,Nat.reduceAdd,Nat.reduceMul,Int.reduceToNat])
          refine Tr.condF rfl ?_
          exact tr_order [0, 1, 2, 2] 0 rfl rfl (fin _ _)
      · refine Tr.condF (by simpa using h2) ?_
        (repeat' first|(with_reducible first|refine Ga ?_|refine Gn fun b h=>?_|refine Tr.xFits ?_|rintro px rfl|refine fun(h:H)=>?_|intro hb)|((with_reducible first|apply Gb|apply Gc|apply Gd|apply Ge|apply Gf|apply Gg|apply Gh|apply Gi);·first|rfl|assumption)|((with_reducible first|apply Gj|apply Gk|apply Gl|apply Gm);·first|assumption|rfl)|((with_reducible apply Tr.xV);·exact⟨Nat.le_of_ble_eq_true rfl,rfl,rfl⟩)|((with_reducible apply Tr.xAgg);·exact⟨Nat.le_of_ble_eq_true rfl,rfl⟩)|((with_reducible apply Tr.xPAgg);·exact⟨Nat.le_of_ble_eq_true rfl,rfl,rfl⟩)|((with_reducible first|refine Tr.ck ?_ ?_|apply Tr.xSome|apply Tr.xCells);·first|rfl|omega|(simp only[gnd] at hb;omega))|((with_reducible refine Tr.same ?_ ?_);·first|exact sameV_sl _ _ _|exact sameV_ptr _|exact sameV_int _ _|exact sameV_bool _|exact sameV_str _)|((with_reducible apply Tr.xCellsB);·exact⟨Nat.le_of_ble_eq_true rfl,rfl⟩)|((with_reducible apply Tr.asBytes);·exact bytesN1_byteCells _)|(refine Tr.some fun _=>?_;exact⟨rfl,rfl⟩)|fail)
        have hst : (st.map int)[(q.c.at_ % 4).toNat]? = some (.int .i64 (st.getD (q.c.at_ % 4).toNat 0)) := by
          rw [List.getElem?_map, getD_get 0 (show (q.c.at_ % 4).toNat < st.length by rw [so.four]; omega)]; rfl
        have ok2 := kAns_ok ok (by omega) (q.env % 4) ⟨9, 0, st.getD (q.c.at_ % 4).toNat 0, q.c.n % 2, 0, 0, []⟩
        obtain ⟨E, S2, hans, hE, so2⟩ := seLeave so (a := st.getD (q.c.at_ % 4).toNat 0) he hn
        (repeat' first|(with_reducible first|refine Ga ?_|refine Gn fun b h=>?_|refine Tr.xFits ?_|rintro px rfl|refine fun(h:H)=>?_|intro hb)|((with_reducible first|apply Gb|apply Gc|apply Gd|apply Ge|apply Gf|apply Gg|apply Gh|apply Gi);·first|rfl|assumption)|((with_reducible first|apply Gj|apply Gk|apply Gl|apply Gm);·first|assumption|rfl)|((with_reducible apply Tr.xV);·exact⟨Nat.le_of_ble_eq_true rfl,rfl,rfl⟩)|((with_reducible apply Tr.xAgg);·exact⟨Nat.le_of_ble_eq_true rfl,rfl⟩)|((with_reducible apply Tr.xPAgg);·exact⟨Nat.le_of_ble_eq_true rfl,rfl,rfl⟩)|((with_reducible first|refine Tr.ck ?_ ?_|apply Tr.xSome|apply Tr.xCells);·first|rfl|omega|(simp only[gnd] at hb;omega))|((with_reducible refine Tr.same ?_ ?_);·first|exact sameV_sl _ _ _|exact sameV_ptr _|exact sameV_int _ _|exact sameV_bool _|exact sameV_str _)|((with_reducible apply Tr.xCellsB);·exact⟨Nat.le_of_ble_eq_true rfl,rfl⟩)|((with_reducible apply Tr.asBytes);·exact bytesN1_byteCells _)|(refine Tr.some fun _=>?_;exact⟨rfl,rfl⟩)|fail)
        refine Tr.xCall (ct_kDo0 k S (2 * i) ok (by omega) (q.env % 4) 9 0 (st.getD (q.c.at_ % 4).toNat 0) (q.c.n % 2) 0 0 (by decide)) ?_; rintro _ h ⟨x2, d2, rfl, o⟩ <;> (refine (?_ : Tr _ _ _ _) o; (try simp only[nrm,nrmL,aSome_some,Nat.reduceAdd,Nat.reduceMul,Int.reduceToNat]); (repeat' first|(with_reducible first|refine Ga ?_|refine Gn fun b h=>?_|refine Tr.xFits ?_|rintro px rfl|refine fun(h:H)=>?_|intro hb)|((with_reducible first|apply Gb|apply Gc|apply Gd|apply Ge|apply Gf|apply Gg|apply Gh|apply Gi);·first|rfl|assumption)|((with_reducible first|apply Gj|apply Gk|apply Gl|apply Gm);·first|assumption|rfl)|((with_reducible apply Tr.xV);·exact⟨Nat.le_of_ble_eq_true rfl,rfl,rfl⟩)|((with_reducible apply Tr.xAgg);·exact⟨Nat.le_of_ble_eq_true rfl,rfl⟩)|((with_reducible apply Tr.xPAgg);·exact⟨Nat.le_of_ble_eq_true rfl,rfl,rfl⟩)|((with_reducible first|refine Tr.ck ?_ ?_|apply Tr.xSome|apply Tr.xCells);·first|rfl|omega|(simp only[gnd] at hb;omega))|((with_reducible refine Tr.same ?_ ?_);·first|exact sameV_sl _ _ _|exact sameV_ptr _|exact sameV_int _ _|exact sameV_bool _|exact sameV_str _)|((with_reducible apply Tr.xCellsB);·exact⟨Nat.le_of_ble_eq_true rfl,rfl⟩)|((with_reducible apply Tr.asBytes);·exact bytesN1_byteCells _)|(refine Tr.some fun _=>?_;exact⟨rfl,rfl⟩)|fail))
        simp only [List.length_cons, List.length_nil]
        (try simp only[nrm,nrmL,aSome_some,Nat.reduceAdd,Nat.reduceMul,Int.reduceToNat])
        rw [hans] at ok2 ⊢
        rw [ed]
        dsimp only
        by_cases hq : q.env % 4 / 2 = q.c.n % 2
        · refine Tr.bnd (Tr.condF (by simpa using hq) ?_)
          refine Tr.some fun o => (?_ : Tr _ _ _ _) o; (try simp only[nrm,nrmL,aSome_some,Nat.reduceAdd,Nat.reduceMul,Int.reduceToNat])
          refine Tr.condF rfl ?_
          refine Tr.xRun (se_L2 gs ops (some px) c b5 k i hi S2 st so2 (next _ _ ok2 so2) _ 0 rfl (by omega)) ?_; rintro _ h rfl
          rfl
        · refine Tr.bnd (Tr.condT (by simpa using hq) ?_)
          rw [hE hq]
          (repeat' first|(with_reducible first|refine Ga ?_|refine Gn fun b h=>?_|refine Tr.xFits ?_|rintro px rfl|refine fun(h:H)=>?_|intro hb)|((with_reducible first|apply Gb|apply Gc|apply Gd|apply Ge|apply Gf|apply Gg|apply Gh|apply Gi);·first|rfl|assumption)|((with_reducible first|apply Gj|apply Gk|apply Gl|apply Gm);·first|assumption|rfl)|((with_reducible apply Tr.xV);·exact⟨Nat.le_of_ble_eq_true rfl,rfl,rfl⟩)|((with_reducible apply Tr.xAgg);·exact⟨Nat.le_of_ble_eq_true rfl,rfl⟩)|((with_reducible apply Tr.xPAgg);·exact⟨Nat.le_of_ble_eq_true rfl,rfl,rfl⟩)|((with_reducible first|refine Tr.ck ?_ ?_|apply Tr.xSome|apply Tr.xCells);·first|rfl|omega|(simp only[gnd] at hb;omega))|((with_reducible refine Tr.same ?_ ?_);·first|exact sameV_sl _ _ _|exact sameV_ptr _|exact sameV_int _ _|exact sameV_bool _|exact sameV_str _)|((with_reducible apply Tr.xCellsB);·exact⟨Nat.le_of_ble_eq_true rfl,rfl⟩)|((with_reducible apply Tr.asBytes);·exact bytesN1_byteCells _)|(refine Tr.some fun _=>?_;exact⟨rfl,rfl⟩)|fail)
          refine Tr.some fun o => (?_ : Tr _ _ _ _) o; (try simp only[nrm,nrmL,aSome_some,Nat.reduceAdd,Nat.reduceMul,Int.reduceToNat])
          refine Tr.condF rfl ?_
          refine Tr.xRun (se_L2 gs ops (some px) c b5 k i hi S2 st so2 (next _ _ ok2 so2) _ 0 rfl (by omega)) ?_; rintro _ h rfl
          rfl
    · refine CtJ.of k_law8_KernSects fun h r => Tr.eq (e_law8_KernSects_L1 ..) ?_; (try simp only[nrm,nrmL,aSome_some,Nat.reduceAdd,Nat.reduceMul,Int.reduceToNat])
      refine Tr.andG (c := decide ((i : Int) < 80)) (fun hb => ?_) ?_
      · (repeat' first|(with_reducible first|refine Ga ?_|refine Gn fun b h=>?_|apply Tr.andG|apply Tr.orG|refine Tr.xFits ?_|rintro px rfl|refine fun(h:H)=>?_|intro hb)|((with_reducible first|apply Gb|apply Gc|apply Gd|apply Ge|apply Gf|apply Gg|apply Gh|apply Gi);·first|rfl|assumption)|((with_reducible first|apply Gj|apply Gk|apply Gl|apply Gm);·first|assumption|rfl)|((with_reducible apply Tr.xV);·exact⟨Nat.le_of_ble_eq_true rfl,rfl,rfl⟩)|((with_reducible apply Tr.xAgg);·exact⟨Nat.le_of_ble_eq_true rfl,rfl⟩)|((with_reducible apply Tr.xPAgg);·exact⟨Nat.le_of_ble_eq_true rfl,rfl,rfl⟩)|((with_reducible first|refine Tr.ck ?_ ?_|apply Tr.xSome|apply Tr.xCells);·first|rfl|omega|(simp only[gnd] at hb;omega))|((with_reducible refine Tr.same ?_ ?_);·first|exact sameV_sl _ _ _|exact sameV_ptr _|exact sameV_int _ _|exact sameV_bool _|exact sameV_str _)|((with_reducible apply Tr.xCellsB);·exact⟨Nat.le_of_ble_eq_true rfl,rfl⟩)|((with_reducible apply Tr.asBytes);·exact bytesN1_byteCells _)|(refine Tr.some fun _=>?_;exact⟨rfl,rfl⟩)|fail)
      refine Tr.condF (by simp; omega) ?_
      refine Tr.xCall (ct_awake8) ?_; rintro _ h ⟨rfl, o⟩ <;> (refine (?_ : Tr _ _ _ _) o; (try simp only[nrm,nrmL,aSome_some,Nat.reduceAdd,Nat.reduceMul,Int.reduceToNat]); (repeat' first|(with_reducible first|refine Ga ?_|refine Gn fun b h=>?_|refine Tr.xFits ?_|rintro px rfl|refine fun(h:H)=>?_|intro hb)|((with_reducible first|apply Gb|apply Gc|apply Gd|apply Ge|apply Gf|apply Gg|apply Gh|apply Gi);·first|rfl|assumption)|((with_reducible first|apply Gj|apply Gk|apply Gl|apply Gm);·first|assumption|rfl)|((with_reducible apply Tr.xV);·exact⟨Nat.le_of_ble_eq_true rfl,rfl,rfl⟩)|((with_reducible apply Tr.xAgg);·exact⟨Nat.le_of_ble_eq_true rfl,rfl⟩)|((with_reducible apply Tr.xPAgg);·exact⟨Nat.le_of_ble_eq_true rfl,rfl,rfl⟩)|((with_reducible first|refine Tr.ck ?_ ?_|apply Tr.xSome|apply Tr.xCells);·first|rfl|omega|(simp only[gnd] at hb;omega))|((with_reducible refine Tr.same ?_ ?_);·first|exact sameV_sl _ _ _|exact sameV_ptr _|exact sameV_int _ _|exact sameV_bool _|exact sameV_str _)|((with_reducible apply Tr.xCellsB);·exact⟨Nat.le_of_ble_eq_true rfl,rfl⟩)|((with_reducible apply Tr.asBytes);·exact bytesN1_byteCells _)|(refine Tr.some fun _=>?_;exact⟨rfl,rfl⟩)|fail))
      refine Tr.some fun o => ?_
      rfl
end
end Go.EQ

set_option linter.unusedSimpArgs false
set_option linter.unusedVariables false
set_option maxRecDepth 100000
namespace Go.EQ
open Go Go.NN
def bootS1 : BootS := ⟨[1, 1], [0, 0, 1, 1], [[0], [1]], 4, []⟩
theorem bootS1_ok : bootOk bootS1 = true := by kernel_rfl
theorem bootS1_small : Small bootS1 := ⟨by simp [bootS1, most], by simp [bootS1, most], by simp [bootS1, most]⟩
theorem tr_app2 {l : List HP} {h : H} {α : Type} {Q : α → H → Prop} {τ β : Type} (F : τ → β → HP) (ts : List τ) (xs : List β) (ts' : List τ) (xs' : List β) {r : List HP} {z : Option (α × H)} [tk : Takes [all2 F ts xs, all2 F ts' xs'] l r] (hl : ts.length = xs.length)
    (k : Tr (all2 F (ts ++ ts') (xs ++ xs') :: r) h z Q) : Tr l h z Q := fun o => k (Own.all2_app hl (o.perm tk.pm))
theorem seNew : SeOk (kNew bootS1) [0, 0, 0, 0] := by
  have hs : (kNew bootS1).sects = [newSect 4, newSect 4] := rfl
  refine ⟨rfl, rfl, by rw [hs]; rfl, rfl, fun s T h1 h2 => ?_⟩
  rw [hs] at h1
  have : T = newSect 4 := by
    match s, h1 with
    | 0, h1 => exact (Option.some.inj h1).symm
    | 1, h1 => exact (Option.some.inj h1).symm
    | s + 2, h1 => simp at h1
  subst this; cases h2
theorem ct_KernSects (gs : List (Option Addr × Nat)) (ops : List OpS) (hgs : gs.length = ops.length) (a : Option Addr) (c : Nat) :
    Ct CALL F_law8_KernSects [.slice a ops.length c] [slC true Y_law8_Op 8 a ops.length c (opsV gs ops)] fun v own => v = .bool true := by
  refine Ct.of k_law8_KernSects rfl fun h r => Tr.eq (e_law8_KernSects ..) ?_; (try simp only[nrm,nrmL,aSome_some,Nat.reduceAdd,Nat.reduceMul,Int.reduceToNat])
  refine Tr.nw fun b1 h1 => ?_
  refine Tr.nw fun b2 h2 => ?_
  refine Tr.nw fun b3 h3 => ?_
  refine Tr.nw fun b4 h4 => ?_
  refine Tr.nw fun b5 h5 => ?_
  refine tr_asSl 0 rfl 1 2 rfl (by omega) ?_; (try simp only[nrm,nrmL,aSome_some,Nat.reduceAdd,Nat.reduceMul,Int.reduceToNat])
  refine tr_asSl 1 rfl 1 1 rfl (by omega) ?_; (try simp only[nrm,nrmL,aSome_some,Nat.reduceAdd,Nat.reduceMul,Int.reduceToNat])
  refine tr_asSl 2 rfl 1 1 rfl (by omega) ?_; (try simp only[nrm,nrmL,aSome_some,Nat.reduceAdd,Nat.reduceMul,Int.reduceToNat])
  refine tr_asSl 3 rfl 1 4 rfl (by omega) ?_; (try simp only[nrm,nrmL,aSome_some,Nat.reduceAdd,Nat.reduceMul,Int.reduceToNat])
  refine tr_asSl 4 rfl 1 2 rfl (by omega) ?_; (try simp only[nrm,nrmL,aSome_some,Nat.reduceAdd,Nat.reduceMul,Int.reduceToNat])
  refine tr_one2 (rsC false) (some ⟨b4, 0, none⟩, 1) ([1] : List Int) (r := []) 1 rfl ?_; (try simp only[nrm,nrmL,aSome_some,Nat.reduceAdd,Nat.reduceMul,Int.reduceToNat])
  refine tr_one2 (rsC false) (some ⟨b3, 0, none⟩, 1) ([0] : List Int) (r := []) 2 rfl ?_; (try simp only[nrm,nrmL,aSome_some,Nat.reduceAdd,Nat.reduceMul,Int.reduceToNat])
  refine tr_app2 (rsC false) [(some ⟨b3, 0, none⟩, 1)] [([0] : List Int)] [(some ⟨b4, 0, none⟩, 1)] [([1] : List Int)] rfl ?_; (try simp only[nrm,nrmL,aSome_some,Nat.reduceAdd,Nat.reduceMul,Int.reduceToNat])
  refine tr_nilSl false Y_api_Share 5 (by omega) ?_
  refine tr_nil2 (toC false) ?_
  refine tr_callI (ct_New false bootS1 ⟨some ⟨b1, 0, none⟩, 2, some ⟨b2, 0, none⟩, 4, some ⟨b5, 0, none⟩, 2, [(some ⟨b3, 0, none⟩, 1), (some ⟨b4, 0, none⟩, 1)], none, 0, []⟩ ⟨rfl, rfl⟩ bootS1_small) [5, 4, 3, 2, 1, 0] rfl ?_
  intro v h hv
  rw [if_pos bootS1_ok] at hv
  obtain ⟨k, rfl, o⟩ := hv
  refine (?_ : Tr _ _ _ _) o
  (try simp only[nrm,nrmL,aSome_some,Nat.reduceAdd,Nat.reduceMul,Int.reduceToNat])
  (repeat' first|(with_reducible first|refine Ga ?_|refine Gn fun b h=>?_|apply Tr.andG|apply Tr.orG|refine Tr.xFits ?_|rintro px rfl|refine fun(h:H)=>?_|intro hb)|((with_reducible first|apply Gb|apply Gc|apply Gd|apply Ge|apply Gf|apply Gg|apply Gh|apply Gi);·first|rfl|assumption)|((with_reducible first|apply Gj|apply Gk|apply Gl|apply Gm);·first|assumption|rfl)|((with_reducible apply Tr.xV);·exact⟨Nat.le_of_ble_eq_true rfl,rfl,rfl⟩)|((with_reducible apply Tr.xAgg);·exact⟨Nat.le_of_ble_eq_true rfl,rfl⟩)|((with_reducible apply Tr.xPAgg);·exact⟨Nat.le_of_ble_eq_true rfl,rfl,rfl⟩)|((with_reducible first|refine Tr.ck ?_ ?_|apply Tr.xSome|apply Tr.xCells);·first|rfl|omega|(simp only[gnd] at hb;omega))|((with_reducible refine Tr.same ?_ ?_);·first|exact sameV_sl _ _ _|exact sameV_ptr _|exact sameV_int _ _|exact sameV_bool _|exact sameV_str _)|((with_reducible apply Tr.xCellsB);·exact⟨Nat.le_of_ble_eq_true rfl,rfl⟩)|((with_reducible apply Tr.asBytes);·exact bytesN1_byteCells _)|(refine Tr.some fun _=>?_;exact⟨rfl,rfl⟩)|fail)
  refine Tr.condF rfl ?_
  refine Tr.nw fun b6 h6 => ?_
  have sp := se_L1 gs ops a c b6 k hgs 80 0 (kNew bootS1) [0, 0, 0, 0] rfl (by omega) (kNew_ok bootS1_ok bootS1_small) seNew
  unfold seGoal seF at sp
  refine tr_runI sp [1, 0, 6] rfl ?_
  rintro _ h rfl
  rfl
end Go.EQ

set_option maxRecDepth 100000
namespace Go.EQ
open Go Go.NN Go.Proofs Go.Proofs.Ytkoigngajoefkaa Go.ChangeShapes Go.WideShapes Go.RowKit
theorem sectsCalls {H : Type} {enc : TypeId × Value → H} {W : World} {v2 : Value} {d2 : DataW H} {p2 : List MemPlace} {b0 : Nat} (k2 : Value.okWide PR W .any b0 Y_s_law8_Op v2)
    (h2 : DataW.Trod enc PR W 0 (fun _ => true) true Y_s_law8_Op v2 d2 p2) : Calls PR F_law8_KernSects #[v2] W fun e W' => e = .returned (.bool true) ∧ Below W.heap.size W W' := by
  obtain ⟨ops, _, i2⟩ := (opsT (W := W)).arg (cells_slice u_s_law8_Op k2) h2
  refine i2.run mixedOk globsOk fun vs ps ⟨g, hv, hp⟩ hh r o => ?_
  subst hv; subst hp
  have hg := (o.of_sl 2 rfl).pure
  obtain ⟨v, h', e, rfl⟩ := ct_KernSects g.2 ops hg g.1.1 g.1.2 hh r (o.of_sl 0 rfl)
  exact ⟨h', e⟩
theorem sectsLifted (os : Os) (started : os.Started) (H : Type) (enc : TypeId × Value → H) :
    ReturnsInHanded {} Try.checked os F_law8_KernSects .any (Rows.kernSectsSpec.pre6 enc Try.prog Try.f7 Rows.kernSectsRow.domain false) (Rows.kernSectsSpec.post enc Try.prog Try.f7 false true false false) := by
  refine returnsInHanded_of_change (C := Try.checked) ownOk started (by kernel_rfl) Try.func7
    (ChangeSpec.witness6 (enc := enc) (C := Try.checked) false ⟨#[], #[.slice none 0 0], []⟩ 8 (by kernel_rfl) (by kernel_rfl) (by kernel_rfl) (by kernel_rfl)) ?_
  intro W base args ds gs before hval hW hcnd _
  have hW' := hW
  obtain ⟨p, q, hA, hV, rfl, hfz, hnd⟩ := hW
  rw [Try.params7] at hA hval
  obtain ⟨v0, d0, rfl, rfl, h0⟩ := trodAll_one hA
  refine (sectsCalls (hval 0 _ v0 rfl rfl) h0).mono fun e W' ⟨he, hb⟩ => ?_
  subst he
  refine ⟨_, rfl, post_true laidOk ?_ rfl u_bool rfl (fun ds gs hl => ?_) hW' hb⟩
  · rw [Try.params7]; intro t ht; simp at ht; subst ht; exact ⟨by kernel_rfl, of_decide_eq_true (by kernel_rfl)⟩
  · replace hl : ds.length = 1 := hl
    cases gs with
    | cons _ _ => exact .inr (by simp)
    | nil => match ds, hl with | [_], _ => exact .inl rfl
theorem KernSects_holds : Rows.KernSectsSaid :=
  OpenClaim.holds_of_wide F_law8_KernSects Try.f7 rfl rfl rfl rfl rfl rfl rfl ⟨rfl, rfl, rfl, rfl, rfl⟩ rfl rfl rfl rfl rfl (by kernel_rfl) Try.func7 (by kernel_rfl)
    (of_decide_eq_true (by kernel_rfl)) (by unfold Func.isWrapper; first | (rw [if_pos (by decide +kernel)]; kernel_rfl) | (rw [if_neg (by decide +kernel)]; exact ⟨rfl, rfl⟩))
    (fun os started H enc _ => sectsLifted os started H enc)
end Go.EQ
