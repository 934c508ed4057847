/- TaintSame returns true whatever it is given: an Out and a whole number; and the card ties the two tables that its code names to the program's text. No condition. -/
import Derived.Test.YtnkokamjidjnpaaGreatDoorMh
import Derived.Test.YtnkokamjidjnpaaGreatDoorCards
import Derived.Test.YtnkokamjidjnpaaGreatDoorTie
import Derived.LaidMore
import Derived.OpenShut
import Derived.Stop.Joined
import Derived.ProofKit
import Derived.SevenTiedAt
set_option linter.unusedVariables false
set_option linter.unusedSimpArgs false
set_option linter.unusedSectionVars false
set_option maxRecDepth 100000
namespace Go.EQ
open Go Go.NN Go.ChangeShapes Go.WideShapes Go.RowKit
theorem u8sT {W : World} : ImpT PR W Y_s_uint8 (fun (g : Option Addr × Nat) (l : List Int) => [.slice g.1 l.length g.2]) (fun g l => slC true Y_uint8 1 g.1 l.length g.2 (l.map (Value.int .u8))) (fun l => l.length ≤ maxLen ∧ ∀ n ∈ l, (Lit.int .u8 n).wf = true) :=
  ImpT.ints Y_uint8 u_s_uint8 u_uint8 (by kernel_rfl)
theorem intsT {W : World} : ImpT PR W Y_s_int (fun (g : Option Addr × Nat) (l : List Int) => [.slice g.1 l.length g.2]) (fun g l => slC true Y_int 1 g.1 l.length g.2 (l.map (Value.int .i64))) (fun l => l.length ≤ maxLen ∧ ∀ n ∈ l, (Lit.int .i64 n).wf = true) :=
  ImpT.ints Y_int u_s_int u_int (by kernel_rfl)
abbrev SysS := Int × Int × Int × List Int
theorem sysT {W : World} : ImpT PR W Y_api_Sys (fun (g : Option Addr × Nat) (y : SysS) => [int y.1, int y.2.1, int y.2.2.1, .slice g.1 y.2.2.2.length g.2]) (fun g y => slC true Y_uint8 1 g.1 y.2.2.2.length g.2 (y.2.2.2.map (Value.int .u8))) (fun _ => True) :=
  (ImpT.struct u_api_Sys (by kernel_rfl) (ImpL.cons (ImpT.int u_int) (ImpL.cons (ImpT.int u_int) (ImpL.cons (ImpT.int u_int) (ImpL.cons u8sT ImpL.nil))))).as
    fun ⟨op, a, b, l, _⟩ _ => ⟨(op, a, b, l), trivial, fun ⟨_, _, _, g, _⟩ => ⟨g, rfl, fun hh r o => ((((o.of_sl 1 rfl).of_sl 1 rfl).of_sl 1 rfl).of_sl 0 rfl)⟩⟩
structure OutY where
  s : Int
  slot : Int
  sys : SysS
  n : Int
  e : Int
  w : List Int
  back : Bool
  g : List Int
  dies : Int
abbrev OutG := (Option Addr × Nat) × (Option Addr × Nat) × (Option Addr × Nat)
abbrev outYL (g : OutG) (y : OutY) : List Value := [int y.s, int y.slot, int y.sys.1, int y.sys.2.1, int y.sys.2.2.1, .slice g.1.1 y.sys.2.2.2.length g.1.2, int y.n, int y.e, .slice g.2.1.1 y.w.length g.2.1.2, .bool y.back, .slice g.2.2.1 y.g.length g.2.2.2, int y.dies]
theorem outT {W : World} : ImpT PR W Y_api_Out outYL (fun g y => sl [slC true Y_uint8 1 g.1.1 y.sys.2.2.2.length g.1.2 (y.sys.2.2.2.map (Value.int .u8)), slC true Y_uint8 1 g.2.1.1 y.w.length g.2.1.2 (y.w.map (Value.int .u8)), slC true Y_int 1 g.2.2.1 y.g.length g.2.2.2 (y.g.map (Value.int .i64))]) (fun _ => True) :=
  (ImpT.struct u_api_Out (by kernel_rfl) (ImpL.cons (ImpT.int u_int) (ImpL.cons (ImpT.int u_int) (ImpL.cons sysT (ImpL.cons (ImpT.int u_int) (ImpL.cons (ImpT.int u_api_Errno) (ImpL.cons u8sT (ImpL.cons (ImpT.bool u_bool) (ImpL.cons intsT (ImpL.cons (ImpT.int u_int) ImpL.nil)))))))))).as
    fun ⟨s, slot, sys, n, e, w, back, g, dies, _⟩ _ => ⟨⟨s, slot, sys, n, e, w, back, g, dies⟩, trivial, fun ⟨_, _, g0, _, _, g1, _, g2, _, _⟩ => ⟨(g0, g1, g2), rfl, fun hh r o => by
      have o1 := ((o.of_sl 1 rfl).of_sl 1 rfl).join
      have o2 := (((Own.perm (r := _ :: _ :: r) o1 (.swap _ _ _)).of_sl 1 rfl).of_sl 1 rfl).join
      have o3 := (Own.perm (r := _ :: _ :: _ :: r) o2 (.swap _ _ _)).of_sl 1 rfl
      have o4 := o3.of_sl 0 rfl
      exact Own.group (l := [_, _, _]) (o4.perm ((List.reverse_perm [_, _, _]).append_right r))⟩⟩
theorem sameCalls {H : Type} {enc : TypeId × Value → H} {W : World} {v v1 : Value} {d d1 : DataW H} {ps ps1 : List MemPlace} {b0 : Nat} (hval : Value.okWide PR W .any b0 Y_api_Out v) (hval1 : Value.okWide PR W .any b0 Y_int v1) (h : DataW.Trod enc PR W 0 (fun _ => true) true Y_api_Out v d ps) (h1 : DataW.Trod enc PR W 0 (fun _ => true) true Y_int v1 d1 ps1) :
    Calls PR F_law24_TaintSame #[v, v1] W fun e W' => e = .returned (.bool true) ∧ Below W.heap.size W W' := by
  obtain ⟨y, _, i⟩ := outT.argAgg u_api_Out hval h
  obtain ⟨f, _, i1⟩ := ImpT.argInt u_int hval1 h1
  refine (i.app i1).run mixedOk globsOk fun vs ps ⟨_, _, _, _, hv, hp, ⟨⟨g0, g1, g2⟩, h3, h4⟩, h5, h6⟩ hh r o => ?_
  subst h3; subst h4; subst h5; subst h6; subst hv; subst hp
  obtain ⟨s, slot, ⟨op, a, b, ld⟩, n, e, lw, back, lg, dies⟩ := y
  obtain ⟨v, h', e, rfl⟩ := ct_TaintSame W true s slot op a b n e dies f back g0.1 g1.1 g2.1 g0.2 g1.2 g2.2 ld lw lg hh r o.join
  exact ⟨h', e⟩
end Go.EQ

set_option maxRecDepth 100000
namespace Go.EQ
open Go Go.NN Go.Proofs Go.Proofs.YtnkokamjidjnpaaGreatDoor Go.ChangeShapes Go.WideShapes Go.RowKit
theorem laidOk : laidOutB PR = true := by kernel_rfl
theorem ownOk : ownKnob PR.godebug = none := by kernel_rfl
abbrev laid2 {H : Type} : List (String × DataW H) := [("math/bits.deBruijn32tab", Rows.laid_math_bits_deBruijn32tab), ("math/bits.deBruijn64tab", Rows.laid_math_bits_deBruijn64tab)]
theorem door_met (os : Os) (args : Array Value) : laidMetH Tryz.prog laid2 ((World.doorLaid Tryz.prog 400 os).forCall (fun _ _ => 0) ⟨#[], args, []⟩).memory :=
  laidMetH_of_parts3 (fuel := 8) (laidMet_of_run' 8 (by kernel_rfl) (by kernel_rfl)) (by kernel_rfl) (by kernel_rfl)
theorem sameLifted (os : Os) (started : os.Started) (H : Type) (enc : TypeId × Value → H) :
    ReturnsInHanded {} Tryz.checked os F_law24_TaintSame .any (fun w args => (Rows.taintSameSpec.pre enc Tryz.prog Tryz.f3 [] false w args ∧ laidMetH Tryz.prog laid2 w) ∧ sizedMet enc Tryz.prog Tryz.f3 (OpenSpec.ofChange Rows.taintSameSpec) false w args)
      (Rows.taintSameSpec.post enc Tryz.prog Tryz.f3 false true false false) := by
  refine returnsInHanded_of_change_and (C := Tryz.checked) (X := fun w _ => laidMetH Tryz.prog laid2 w) (fun _ _ _ hh h => h.of_heap hh) ownOk started (by kernel_rfl) Tryz.func3
    (ChangeSpec.witness_shaped (enc := enc) (C := Tryz.checked) (os := os) (X := fun w _ => laidMetH Tryz.prog laid2 w) false (World.doorLaid Tryz.prog 400 os) #[.agg #[.int .i64 0, .int .i64 0, .int .i64 0, .int .i64 0, .int .i64 0, .slice none 0 0, .int .i64 0, .int .i64 0, .slice none 0 0, .bool false, .slice none 0 0, .int .i64 0], .int .i64 0] 8 rfl (World.shaped_of_RefB (by kernel_rfl) (by kernel_rfl)) (by kernel_rfl) (by kernel_rfl) (by kernel_rfl) (door_met os _)) ?_
  intro W base args ds gs before hval hW _ _ hL _
  have hW' := hW
  obtain ⟨p, q, hA, hV, rfl, hfz, hnd⟩ := hW
  rw [Tryz.params3] at hA hval
  obtain ⟨v0, v1, d0, d1, p0, p1, rfl, rfl, rfl, h0, h1⟩ := trodAll_two hA
  refine (sameCalls (hval 0 _ v0 rfl rfl) (hval 1 _ v1 rfl rfl) h0 h1).mono fun e W' ⟨he, hb⟩ => ?_
  subst he
  refine ⟨_, rfl, post_true laidOk ?_ rfl u_bool rfl (fun ds gs hl => ?_) hW' hb⟩
  · rw [Tryz.params3]; intro t ht; simp at ht; rcases ht with rfl | rfl <;> exact ⟨by kernel_rfl, of_decide_eq_true (by kernel_rfl)⟩
  · replace hl : ds.length = 2 := hl
    cases gs with
    | cons _ _ => exact .inr (by simp)
    | nil => match ds, hl with | [_, _], _ => exact .inl rfl
theorem TaintSame_row : Rows.TaintSameSaid :=
  OpenClaim.holds_of_wide F_law24_TaintSame Tryz.f3 rfl rfl rfl rfl rfl rfl rfl ⟨rfl, rfl, rfl, rfl, rfl⟩ rfl rfl rfl rfl rfl (by kernel_rfl) Tryz.func3 (by kernel_rfl)
    (of_decide_eq_true (by kernel_rfl)) (by unfold Func.isWrapper; first | (rw [if_pos (by decide +kernel)]; kernel_rfl) | (rw [if_neg (by decide +kernel)]; exact ⟨rfl, rfl⟩))
    (fun os started H enc _ => sameLifted os started H enc)
theorem TaintSame_holds : Rows.TaintSameCardSaid :=
  Claim7.holds_tied_plain_at .later [] [.data, .data] true (true, "bd7ffb9caad508bc27c8f744eee655bbd56492d2814c95a5af4f20700bbe1fe4") false
    TaintSame_row (fun _ h => by cases h) (by kernel_rfl) (fun _ h => by cases h) taintSame_row_tie rfl ⟨rfl, rfl⟩ (by kernel_rfl) rfl
    (fun f fn hf hfn => by
      obtain rfl : f = F_law24_TaintSame := Option.some.inj ((show Tryz.prog.funcNamed "commonage/commonagelaw24.TaintSame" = some F_law24_TaintSame by kernel_rfl).symm.trans hf) |>.symm
      obtain rfl : fn = Tryz.f3 := (Option.some.inj (Tryz.func3.symm.trans hfn)).symm
      exact ⟨by kernel_rfl, fun j t ht => by
        rw [Tryz.params3] at ht
        have hm : t ∈ [Y_api_Out, Y_int] := by simpa using Array.mem_of_getElem? ht
        have hall : ([Y_api_Out, Y_int].all fun u => !Tryz.prog.wantsStandIn u) = true := by kernel_rfl
        exact (show Tryz.prog.wantsStandIn t = false by simpa using List.all_eq_true.1 hall t hm)⟩)
    (by kernel_rfl)
end Go.EQ
