/-
  No cell of these rows narrows 'for every input' (looked for: loops, veiled, ifaces, maps, wideKeys, modest, calm, conditions, laid).
  DERIVED. THE GIVEN ROWS OF THIS SEAT. 6 by the template 'for every input the law returns true; each argument reads behind the call as it read before'; 0 by the template 'total and deterministic' (their statements: YtnmdbfbjdhgmlaaGreatTotals.lean).
  GIVEN WITH THE SEED: the statements are not yours to turn. If you find one false, say at which input.
  Laid BY PROGRAM, IN A SANDBOX (cutbox-rows.mjs): the forced cells as the released guide's own fill.sh prints them over the translation fecb52bf2b39f67b… (all of the seat's roots in one cut). By AI agents, Wed Nov 11 2026. No macro, syntax, notation, axiom, sorry.
-/
import Derived.Test.YtnmdbfbjdhgmlaaGreatChecked
import GoSem.Claim
import GoSem.ClaimJoined
import GoSem.ClaimMapViews
import Derived.JoinedTies
import Derived.KernelRfl
namespace Go.Proofs.YtnmdbfbjdhgmlaaGreat
/- THE CELL 'sum', in the pinned program and in every row, IS THE sha256 OF THE DUMP (.gsa) THAT YtnmdbfbjdhgmlaaGreatProg.lean LOADS. Nothing in Lean hashes anything: it is a label: what it is worth is what the hold of that sum in a sandbox is worth. -/
noncomputable def Tryz.pinned : Pinned := { name := "ytnmdbfbjdhgmlaagreat", sum := "fecb52bf2b39f67b643f6cf4c9d144692c119fec7c7d55e3e1279055e55962b4", checked := Tryz.checked }
namespace Rows
def none {H : Type} : Left H := { results := [], args := [] }

/-- 'commonagelaw19.PipesTwo': WHATEVER THE INPUT: true; the input reads as it did. -/
def pipesTwoSpec : ChangeSpec := { name := "pipesTwo", fn := fun _ => fun
  | [d] => { results := [.lit (.bool true)], args := [d] }
  | _ => none }
def pipesTwoRow : OpenClaim := { program := "ytnmdbfbjdhgmlaagreat", sum := "fecb52bf2b39f67b643f6cf4c9d144692c119fec7c7d55e3e1279055e55962b4", func := "commonage/commonagelaw19.PipesTwo", spec := "pipesTwo", unfollowed := true, recurses := true, plainKeys := false, apart := false }
def PipesTwoSaid : Prop := pipesTwoRow.holds Tryz.pinned (OpenSpec.ofChange pipesTwoSpec)

/-- ITS FALSE NEIGHBOUR: 'it returns false'. Refute it at one input. -/
def pipesTwoWrong : ChangeSpec := { name := "pipesTwo", fn := fun _ => fun
  | [d] => { results := [.lit (.bool false)], args := [d] }
  | _ => none }
def PipesTwoWrongFalsely : Prop := pipesTwoRow.holds Tryz.pinned (OpenSpec.ofChange pipesTwoWrong)

/-- 'commonagelaw19.PipesNow': WHATEVER THE INPUT: true; the input reads as it did. -/
def pipesNowSpec : ChangeSpec := { name := "pipesNow", fn := fun _ => fun
  | [d1, d2] => { results := [.lit (.bool true)], args := [d1, d2] }
  | _ => none }
def pipesNowRow : OpenClaim := { program := "ytnmdbfbjdhgmlaagreat", sum := "fecb52bf2b39f67b643f6cf4c9d144692c119fec7c7d55e3e1279055e55962b4", func := "commonage/commonagelaw19.PipesNow", spec := "pipesNow", unfollowed := true, recurses := true, plainKeys := false, apart := false }
def PipesNowSaid : Prop := pipesNowRow.holds Tryz.pinned (OpenSpec.ofChange pipesNowSpec)

/-- ITS FALSE NEIGHBOUR: 'it returns false'. Refute it at one input. -/
def pipesNowWrong : ChangeSpec := { name := "pipesNow", fn := fun _ => fun
  | [d1, d2] => { results := [.lit (.bool false)], args := [d1, d2] }
  | _ => none }
def PipesNowWrongFalsely : Prop := pipesNowRow.holds Tryz.pinned (OpenSpec.ofChange pipesNowWrong)

/-- 'commonagelaw19.PipesFlow': WHATEVER THE INPUT: true; the input reads as it did. -/
def pipesFlowSpec : ChangeSpec := { name := "pipesFlow", fn := fun _ => fun
  | [d] => { results := [.lit (.bool true)], args := [d] }
  | _ => none }
def pipesFlowRow : OpenClaim := { program := "ytnmdbfbjdhgmlaagreat", sum := "fecb52bf2b39f67b643f6cf4c9d144692c119fec7c7d55e3e1279055e55962b4", func := "commonage/commonagelaw19.PipesFlow", spec := "pipesFlow", unfollowed := true, recurses := true, plainKeys := false, apart := false }
def PipesFlowSaid : Prop := pipesFlowRow.holds Tryz.pinned (OpenSpec.ofChange pipesFlowSpec)

/-- ITS FALSE NEIGHBOUR: 'it returns false'. Refute it at one input. -/
def pipesFlowWrong : ChangeSpec := { name := "pipesFlow", fn := fun _ => fun
  | [d] => { results := [.lit (.bool false)], args := [d] }
  | _ => none }
def PipesFlowWrongFalsely : Prop := pipesFlowRow.holds Tryz.pinned (OpenSpec.ofChange pipesFlowWrong)

/-- 'commonagelaw19.PipesEnds': WHATEVER THE INPUT: true; the input reads as it did. -/
def pipesEndsSpec : ChangeSpec := { name := "pipesEnds", fn := fun _ => fun
  | [d1, d2] => { results := [.lit (.bool true)], args := [d1, d2] }
  | _ => none }
def pipesEndsRow : OpenClaim := { program := "ytnmdbfbjdhgmlaagreat", sum := "fecb52bf2b39f67b643f6cf4c9d144692c119fec7c7d55e3e1279055e55962b4", func := "commonage/commonagelaw19.PipesEnds", spec := "pipesEnds", unfollowed := true, recurses := true, plainKeys := false, apart := false }
def PipesEndsSaid : Prop := pipesEndsRow.holds Tryz.pinned (OpenSpec.ofChange pipesEndsSpec)

/-- ITS FALSE NEIGHBOUR: 'it returns false'. Refute it at one input. -/
def pipesEndsWrong : ChangeSpec := { name := "pipesEnds", fn := fun _ => fun
  | [d1, d2] => { results := [.lit (.bool false)], args := [d1, d2] }
  | _ => none }
def PipesEndsWrongFalsely : Prop := pipesEndsRow.holds Tryz.pinned (OpenSpec.ofChange pipesEndsWrong)

/-- 'commonagelaw19.PipesForked': WHATEVER THE INPUT: true; the input reads as it did. -/
def pipesForkedSpec : ChangeSpec := { name := "pipesForked", fn := fun _ => fun
  | [d1, d2] => { results := [.lit (.bool true)], args := [d1, d2] }
  | _ => none }
def pipesForkedRow : OpenClaim := { program := "ytnmdbfbjdhgmlaagreat", sum := "fecb52bf2b39f67b643f6cf4c9d144692c119fec7c7d55e3e1279055e55962b4", func := "commonage/commonagelaw19.PipesForked", spec := "pipesForked", unfollowed := true, recurses := true, plainKeys := false, apart := false }
def PipesForkedSaid : Prop := pipesForkedRow.holds Tryz.pinned (OpenSpec.ofChange pipesForkedSpec)

/-- ITS FALSE NEIGHBOUR: 'it returns false'. Refute it at one input. -/
def pipesForkedWrong : ChangeSpec := { name := "pipesForked", fn := fun _ => fun
  | [d1, d2] => { results := [.lit (.bool false)], args := [d1, d2] }
  | _ => none }
def PipesForkedWrongFalsely : Prop := pipesForkedRow.holds Tryz.pinned (OpenSpec.ofChange pipesForkedWrong)

/-- 'commonagelaw19.PipesTerm': WHATEVER THE INPUT: true; the input reads as it did. -/
def pipesTermSpec : ChangeSpec := { name := "pipesTerm", fn := fun _ => fun
  | [d1, d2] => { results := [.lit (.bool true)], args := [d1, d2] }
  | _ => none }
def pipesTermRow : OpenClaim := { program := "ytnmdbfbjdhgmlaagreat", sum := "fecb52bf2b39f67b643f6cf4c9d144692c119fec7c7d55e3e1279055e55962b4", func := "commonage/commonagelaw19.PipesTerm", spec := "pipesTerm", unfollowed := true, recurses := true, plainKeys := false, apart := false }
def PipesTermSaid : Prop := pipesTermRow.holds Tryz.pinned (OpenSpec.ofChange pipesTermSpec)

/-- ITS FALSE NEIGHBOUR: 'it returns false'. Refute it at one input. -/
def pipesTermWrong : ChangeSpec := { name := "pipesTerm", fn := fun _ => fun
  | [d1, d2] => { results := [.lit (.bool false)], args := [d1, d2] }
  | _ => none }
def PipesTermWrongFalsely : Prop := pipesTermRow.holds Tryz.pinned (OpenSpec.ofChange pipesTermWrong)

/- THE SECOND FORM. 'bulk': how many values and letters a reading holds, each counted each time it is reached (what is shared counts as often as it is met; a slice's spare places count too). A statement '..UptoSaid' is the law's where the arguments, and the package variables that the reading takes, are together of bulk at most 1048576: NARROWER than '..Said'. Prove '..Said' where nothing that the law and all that it calls make is longer than what came in: it says more and counts as full. Else prove '..UptoSaid'. A law counts once. -/
mutual
def uptoBulk {H : Type} : DataW H → Nat
  | .lit (.string bytes) => bytes.length + 1
  | .lit _ => 1
  | .nil => 1
  | .ptr d => uptoBulk d + 1
  | .slice elems spare => uptoBulkAll elems + uptoBulkAll spare + 1
  | .agg parts => uptoBulkAll parts + 1
  | .iface _ d => uptoBulk d + 1
  | .map entries => uptoBulkEntries entries + 1
  | .held _ => 1
def uptoBulkAll {H : Type} : List (DataW H) → Nat
  | [] => 0
  | d :: r => uptoBulk d + uptoBulkAll r
def uptoBulkEntries {H : Type} : List (Lit × DataW H) → Nat
  | [] => 0
  | x :: r => uptoBulkEntry x + uptoBulkEntries r
def uptoBulkEntry {H : Type} : Lit × DataW H → Nat
  | (.string bytes, d) => bytes.length + uptoBulk d + 1
  | (_, d) => uptoBulk d + 1
 end
def uptoSmall : (H : Type) → List (DataW H) → Bool := fun _ ds => decide (uptoBulkAll ds ≤ 1048576)
def OpenSpec.upto (s : _root_.Go.ChangeSpec) : _root_.Go.OpenSpec := { _root_.Go.OpenSpec.ofChange s with cond := some uptoSmall }

/-- 'commonagelaw19.PipesTwo', WHERE WHAT IT READS IS OF BULK AT MOST 1048576: true; the input reads as it did. -/
def pipesTwoUptoRow : OpenClaim := { program := "ytnmdbfbjdhgmlaagreat", sum := "fecb52bf2b39f67b643f6cf4c9d144692c119fec7c7d55e3e1279055e55962b4", func := "commonage/commonagelaw19.PipesTwo", spec := "pipesTwo", unfollowed := true, recurses := true, plainKeys := false, apart := false, narrowed := true }
def PipesTwoUptoSaid : Prop := pipesTwoUptoRow.holds Tryz.pinned (OpenSpec.upto pipesTwoSpec)

/-- 'commonagelaw19.PipesNow', WHERE WHAT IT READS IS OF BULK AT MOST 1048576: true; the input reads as it did. -/
def pipesNowUptoRow : OpenClaim := { program := "ytnmdbfbjdhgmlaagreat", sum := "fecb52bf2b39f67b643f6cf4c9d144692c119fec7c7d55e3e1279055e55962b4", func := "commonage/commonagelaw19.PipesNow", spec := "pipesNow", unfollowed := true, recurses := true, plainKeys := false, apart := false, narrowed := true }
def PipesNowUptoSaid : Prop := pipesNowUptoRow.holds Tryz.pinned (OpenSpec.upto pipesNowSpec)

/-- 'commonagelaw19.PipesFlow', WHERE WHAT IT READS IS OF BULK AT MOST 1048576: true; the input reads as it did. -/
def pipesFlowUptoRow : OpenClaim := { program := "ytnmdbfbjdhgmlaagreat", sum := "fecb52bf2b39f67b643f6cf4c9d144692c119fec7c7d55e3e1279055e55962b4", func := "commonage/commonagelaw19.PipesFlow", spec := "pipesFlow", unfollowed := true, recurses := true, plainKeys := false, apart := false, narrowed := true }
def PipesFlowUptoSaid : Prop := pipesFlowUptoRow.holds Tryz.pinned (OpenSpec.upto pipesFlowSpec)

/-- 'commonagelaw19.PipesEnds', WHERE WHAT IT READS IS OF BULK AT MOST 1048576: true; the input reads as it did. -/
def pipesEndsUptoRow : OpenClaim := { program := "ytnmdbfbjdhgmlaagreat", sum := "fecb52bf2b39f67b643f6cf4c9d144692c119fec7c7d55e3e1279055e55962b4", func := "commonage/commonagelaw19.PipesEnds", spec := "pipesEnds", unfollowed := true, recurses := true, plainKeys := false, apart := false, narrowed := true }
def PipesEndsUptoSaid : Prop := pipesEndsUptoRow.holds Tryz.pinned (OpenSpec.upto pipesEndsSpec)

/-- 'commonagelaw19.PipesForked', WHERE WHAT IT READS IS OF BULK AT MOST 1048576: true; the input reads as it did. -/
def pipesForkedUptoRow : OpenClaim := { program := "ytnmdbfbjdhgmlaagreat", sum := "fecb52bf2b39f67b643f6cf4c9d144692c119fec7c7d55e3e1279055e55962b4", func := "commonage/commonagelaw19.PipesForked", spec := "pipesForked", unfollowed := true, recurses := true, plainKeys := false, apart := false, narrowed := true }
def PipesForkedUptoSaid : Prop := pipesForkedUptoRow.holds Tryz.pinned (OpenSpec.upto pipesForkedSpec)

/-- 'commonagelaw19.PipesTerm', WHERE WHAT IT READS IS OF BULK AT MOST 1048576: true; the input reads as it did. -/
def pipesTermUptoRow : OpenClaim := { program := "ytnmdbfbjdhgmlaagreat", sum := "fecb52bf2b39f67b643f6cf4c9d144692c119fec7c7d55e3e1279055e55962b4", func := "commonage/commonagelaw19.PipesTerm", spec := "pipesTerm", unfollowed := true, recurses := true, plainKeys := false, apart := false, narrowed := true }
def PipesTermUptoSaid : Prop := pipesTermUptoRow.holds Tryz.pinned (OpenSpec.upto pipesTermSpec)

end Rows
end Go.Proofs.YtnmdbfbjdhgmlaaGreat
