/- CommonsGone returns true whatever it is given: two whole numbers; its own run, by cases of the few bits that it reads of them. No condition. -/
import Derived.Test.YtocmejnmpmbepaaGreatMi
import Derived.Test.YtocmejnmpmbepaaGreatRows
set_option linter.unusedVariables false
set_option linter.unusedSimpArgs false
set_option linter.unusedSectionVars false
set_option maxRecDepth 100000
namespace Go.EQ
open Go Go.NN Go.Proofs Go.ChangeShapes Go.WideShapes Go.RowKit
theorem noGlobs : ∀ f, (cutsOf f).globs = 0 := cutsAt_globs cutsL (by kernel_rfl)
theorem globsOk : ∀ f, (cutsOf f).globs ≤ PR.globals.size := fun f => by rw [noGlobs f]; exact Nat.zero_le _
theorem globs0 : PR.globals.size = 0 := by kernel_rfl
theorem mixedOk : PR.follows .mixedOrders = true := by kernel_rfl
theorem laidOk : laidOutB PR = true := by kernel_rfl
theorem ownOk : ownKnob PR.godebug = none := by kernel_rfl
end Go.EQ

set_option maxRecDepth 100000
set_option maxHeartbeats 0
namespace Go.EQ
open Go Go.NN Go.NF Go.NW Go.Proofs Go.Proofs.YtocmejnmpmbepaaGreat Go.ChangeShapes Go.WideShapes Go.RowKit
theorem aw15 : isTK ((evG HF TABS 3000).1 F_law15_awake [] HF0) 2124 = true := by kernel_rfl
noncomputable def cgR (i k : Int) : Bool := isTF ((evS TABS F_law15_awake (stub 2124) (2999 + 1)).1 F_law15_CommonsGone [.int .i64 i, .int .i64 k] HF0)
theorem cg0 : (cgR 0 1 && (cgR 0 3 && (cgR 0 5 && cgR 0 7))) = true := by kernel_rfl
theorem cg1 : (cgR 1 1 && (cgR 1 3 && (cgR 1 5 && cgR 1 7))) = true := by kernel_rfl
theorem cg2 : (cgR 2 1 && (cgR 2 3 && (cgR 2 5 && cgR 2 7))) = true := by kernel_rfl
theorem cg3 : (cgR 3 1 && (cgR 3 3 && (cgR 3 5 && cgR 3 7))) = true := by kernel_rfl
theorem and4 {a b c d : Bool} (h : (a && (b && (c && d))) = true) : a = true ∧ b = true ∧ c = true ∧ d = true := by
  simpa [Bool.and_eq_true] using h
theorem cg_same (i j k l : Int) (h1 : bitA .i64 i 3 = bitA .i64 j 3) (h2 : bitO .i64 (bitA .i64 k 7) 1 = bitO .i64 (bitA .i64 l 7) 1) : cgR i k = cgR j l := by
  unfold cgR
  rw [evS_congr (n := 2999) (x := X_law15_CommonsGone) (by kernel_rfl) (by kernel_rfl) (fun call run t => ?_)]
  unfold X_law15_CommonsGone
  rw [bitA_eq]
  simp only [h1, h2]
theorem or1 (m : Int) (h0 : 0 ≤ m) (h8 : m < 8) : ∃ l : Int, (l = 1 ∨ l = 3 ∨ l = 5 ∨ l = 7) ∧ bitO .i64 m 1 = bitO .i64 (bitA .i64 l 7) 1 := by
  have : m = 0 ∨ m = 1 ∨ m = 2 ∨ m = 3 ∨ m = 4 ∨ m = 5 ∨ m = 6 ∨ m = 7 := by omega
  rcases this with rfl | rfl | rfl | rfl | rfl | rfl | rfl | rfl
  · exact ⟨1, by simp, by kernel_rfl⟩
  · exact ⟨1, by simp, by kernel_rfl⟩
  · exact ⟨3, by simp, by kernel_rfl⟩
  · exact ⟨3, by simp, by kernel_rfl⟩
  · exact ⟨5, by simp, by kernel_rfl⟩
  · exact ⟨5, by simp, by kernel_rfl⟩
  · exact ⟨7, by simp, by kernel_rfl⟩
  · exact ⟨7, by simp, by kernel_rfl⟩
theorem pick {p : Int → Prop} {l : Int} (hl : l = 1 ∨ l = 3 ∨ l = 5 ∨ l = 7) (a : p 1) (b : p 3) (c : p 5) (d : p 7) : p l := by
  rcases hl with h | h | h | h <;> (rw [h]; first | exact a | exact b | exact c | exact d)
theorem cg_all (i k : Int) : cgR i k = true := by
  have hi := bitA_mask i 2 (by omega)
  have hk := bitA_mask k 3 (by omega)
  replace hi : bitA .i64 i 3 = i % 4 := hi
  replace hk : bitA .i64 k 7 = k % 8 := hk
  obtain ⟨l, hl, e⟩ := or1 (k % 8) (by omega) (by omega)
  have h4 : i % 4 = 0 ∨ i % 4 = 1 ∨ i % 4 = 2 ∨ i % 4 = 3 := by omega
  have go : ∀ j : Int, i % 4 = j → bitA .i64 j 3 = j → cgR i k = cgR j l := fun j h h' => cg_same i j k l (by rw [hi, h, h']) (by rw [hk, e])
  rcases h4 with h | h | h | h
  · rw [go 0 h (by kernel_rfl)]
    obtain ⟨a, b, c, d⟩ := and4 cg0
    exact pick (p := fun l => cgR 0 l = true) hl a b c d
  · rw [go 1 h (by kernel_rfl)]
    obtain ⟨a, b, c, d⟩ := and4 cg1
    exact pick (p := fun l => cgR 1 l = true) hl a b c d
  · rw [go 2 h (by kernel_rfl)]
    obtain ⟨a, b, c, d⟩ := and4 cg2
    exact pick (p := fun l => cgR 2 l = true) hl a b c d
  · rw [go 3 h (by kernel_rfl)]
    obtain ⟨a, b, c, d⟩ := and4 cg3
    exact pick (p := fun l => cgR 3 l = true) hl a b c d
theorem cgCalls {H : Type} {enc : TypeId × Value → H} {W : World} {v0 v1 : Value} {d0 d1 : DataW H} {p0 p1 : List MemPlace} {b0 : Nat} (k0 : Value.okWide PR W .any b0 Y_int v0) (k1 : Value.okWide PR W .any b0 Y_int v1)
    (h0 : DataW.Trod enc PR W 0 (fun _ => true) true Y_int v0 d0 p0) (h1 : DataW.Trod enc PR W 0 (fun _ => true) true Y_int v1 d1 p1) :
    Calls PR F_law15_CommonsGone #[v0, v1] W fun e W' => e = .returned (.bool true) ∧ Below W.heap.size W W' := by
  obtain ⟨x, _, i0⟩ := ImpT.argInt u_int k0 h0
  obtain ⟨y, _, i1⟩ := ImpT.argInt u_int k1 h1
  refine (i0.app i1).run mixedOk globsOk fun vs ps ⟨_, _, _, _, hv, hp, ⟨h5, h6⟩, h7, h8⟩ hh r o => ?_
  subst h5; subst h6; subst h7; subst h8; subst hv; subst hp
  exact runsS noGlobs mixedOk globs0 W tabs_ok tabs_rx (ranK tabs_ok tabs_rx aw15) (vs := [.int .i64 x, .int .i64 y]) rfl (cg_all x y) o
theorem cgLifted (os : Os) (started : os.Started) (H : Type) (enc : TypeId × Value → H) :
    ReturnsInHanded {} Tryz.checked os F_law15_CommonsGone .any (Rows.commonsGoneSpec.pre6 enc Tryz.prog Tryz.f3 Rows.commonsGoneRow.domain false) (Rows.commonsGoneSpec.post enc Tryz.prog Tryz.f3 false true false false) := by
  refine returnsInHanded_of_change (C := Tryz.checked) ownOk started (by kernel_rfl) Tryz.func3
    (ChangeSpec.witness6 (enc := enc) (C := Tryz.checked) false ⟨#[], #[.int .i64 0, .int .i64 0], []⟩ 8 (by kernel_rfl) (by kernel_rfl) (by kernel_rfl) (by kernel_rfl)) ?_
  intro W base args ds gs before hval hW hcnd _
  have hW' := hW
  obtain ⟨p, q, hA, hV, rfl, hfz, hnd⟩ := hW
  rw [Tryz.params3] at hA hval
  obtain ⟨v0, v1, d0, d1, p0, p1, rfl, rfl, rfl, h0, h1⟩ := trodAll_two hA
  refine (cgCalls (hval 0 _ v0 rfl rfl) (hval 1 _ v1 rfl rfl) h0 h1).mono fun e W' ⟨he, hb⟩ => ?_
  subst he
  refine ⟨_, rfl, post_true laidOk ?_ rfl u_bool rfl (fun ds gs hl => ?_) hW' hb⟩
  · rw [Tryz.params3]; intro t ht; simp at ht; subst ht; exact ⟨by kernel_rfl, of_decide_eq_true (by kernel_rfl)⟩
  · replace hl : ds.length = 2 := hl
    cases gs with
    | cons _ _ => exact .inr (by simp)
    | nil => match ds, hl with | [_, _], _ => exact .inl rfl
theorem CommonsGone_holds : Rows.CommonsGoneSaid :=
  OpenClaim.holds_of_wide F_law15_CommonsGone Tryz.f3 rfl rfl rfl rfl rfl rfl rfl ⟨rfl, rfl, rfl, rfl, rfl⟩ rfl rfl rfl rfl rfl (by kernel_rfl) Tryz.func3 (by kernel_rfl)
    (of_decide_eq_true (by kernel_rfl)) (by unfold Func.isWrapper; first | (rw [if_pos (by decide +kernel)]; kernel_rfl) | (rw [if_neg (by decide +kernel)]; exact ⟨rfl, rfl⟩))
    (fun os started H enc _ => cgLifted os started H enc)
end Go.EQ
