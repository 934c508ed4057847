/-
  No cell of these rows narrows 'for every input' (looked for: loops, veiled, ifaces, maps, wideKeys, modest, calm, conditions, laid).
  DERIVED. THE GIVEN ROWS OF THIS SEAT. 5 by the template 'for every input the law returns true; each argument reads behind the call as it read before'; 0 by the template 'total and deterministic' (their statements: YtoegoalficgneaaGreatTotals.lean).
  GIVEN WITH THE SEED: the statements are not yours to turn. If you find one false, say at which input.
  Laid BY PROGRAM, IN A SANDBOX (cutbox-rows.mjs): the forced cells as the released guide's own fill.sh prints them over the translation b89e81ea8c12a921… (all of the seat's roots in one cut). By AI agents, Wed Nov 11 2026. No macro, syntax, notation, axiom, sorry.
-/
import Derived.Test.YtoegoalficgneaaGreatChecked
import GoSem.Claim
import GoSem.ClaimJoined
import GoSem.ClaimMapViews
import Derived.JoinedTies
import Derived.KernelRfl
namespace Go.Proofs.YtoegoalficgneaaGreat
/- THE CELL 'sum', in the pinned program and in every row, IS THE sha256 OF THE DUMP (.gsa) THAT YtoegoalficgneaaGreatProg.lean LOADS. Nothing in Lean hashes anything: it is a label: what it is worth is what the hold of that sum in a sandbox is worth. -/
noncomputable def Tryz.pinned : Pinned := { name := "ytoegoalficgneaagreat", sum := "b89e81ea8c12a921ed20c0e16946bac1b8a55c8c735239c516b063e234b00846", checked := Tryz.checked }
namespace Rows
def none {H : Type} : Left H := { results := [], args := [] }

/-- 'commonagelaw17.ProcGroups': WHATEVER THE INPUT: true; the input reads as it did. -/
def procGroupsSpec : ChangeSpec := { name := "procGroups", fn := fun _ => fun
  | [d1, d2, d3] => { results := [.lit (.bool true)], args := [d1, d2, d3] }
  | _ => none }
def procGroupsRow : OpenClaim := { program := "ytoegoalficgneaagreat", sum := "b89e81ea8c12a921ed20c0e16946bac1b8a55c8c735239c516b063e234b00846", func := "commonage/commonagelaw17.ProcGroups", spec := "procGroups", unfollowed := true, recurses := true, plainKeys := false, apart := false }
def ProcGroupsSaid : Prop := procGroupsRow.holds Tryz.pinned (OpenSpec.ofChange procGroupsSpec)

/-- ITS FALSE NEIGHBOUR: 'it returns false'. Refute it at one input. -/
def procGroupsWrong : ChangeSpec := { name := "procGroups", fn := fun _ => fun
  | [d1, d2, d3] => { results := [.lit (.bool false)], args := [d1, d2, d3] }
  | _ => none }
def ProcGroupsWrongFalsely : Prop := procGroupsRow.holds Tryz.pinned (OpenSpec.ofChange procGroupsWrong)

/-- 'commonagelaw17.ProcBad': WHATEVER THE INPUT: true; the input reads as it did. -/
def procBadSpec : ChangeSpec := { name := "procBad", fn := fun _ => fun
  | [d1, d2, d3, d4] => { results := [.lit (.bool true)], args := [d1, d2, d3, d4] }
  | _ => none }
def procBadRow : OpenClaim := { program := "ytoegoalficgneaagreat", sum := "b89e81ea8c12a921ed20c0e16946bac1b8a55c8c735239c516b063e234b00846", func := "commonage/commonagelaw17.ProcBad", spec := "procBad", unfollowed := true, recurses := true, plainKeys := false, apart := false }
def ProcBadSaid : Prop := procBadRow.holds Tryz.pinned (OpenSpec.ofChange procBadSpec)

/-- ITS FALSE NEIGHBOUR: 'it returns false'. Refute it at one input. -/
def procBadWrong : ChangeSpec := { name := "procBad", fn := fun _ => fun
  | [d1, d2, d3, d4] => { results := [.lit (.bool false)], args := [d1, d2, d3, d4] }
  | _ => none }
def ProcBadWrongFalsely : Prop := procBadRow.holds Tryz.pinned (OpenSpec.ofChange procBadWrong)

/-- 'commonagelaw17.ProcSound': WHATEVER THE INPUT: true; the input reads as it did. -/
def procSoundSpec : ChangeSpec := { name := "procSound", fn := fun _ => fun
  | [d] => { results := [.lit (.bool true)], args := [d] }
  | _ => none }
def procSoundRow : OpenClaim := { program := "ytoegoalficgneaagreat", sum := "b89e81ea8c12a921ed20c0e16946bac1b8a55c8c735239c516b063e234b00846", func := "commonage/commonagelaw17.ProcSound", spec := "procSound", unfollowed := true, recurses := true, plainKeys := false, apart := false }
def ProcSoundSaid : Prop := procSoundRow.holds Tryz.pinned (OpenSpec.ofChange procSoundSpec)

/-- ITS FALSE NEIGHBOUR: 'it returns false'. Refute it at one input. -/
def procSoundWrong : ChangeSpec := { name := "procSound", fn := fun _ => fun
  | [d] => { results := [.lit (.bool false)], args := [d] }
  | _ => none }
def ProcSoundWrongFalsely : Prop := procSoundRow.holds Tryz.pinned (OpenSpec.ofChange procSoundWrong)

/-- 'commonagelaw18.FdsSound': WHATEVER THE INPUT: true; the input reads as it did. -/
def fdsSoundSpec : ChangeSpec := { name := "fdsSound", fn := fun _ => fun
  | [d] => { results := [.lit (.bool true)], args := [d] }
  | _ => none }
def fdsSoundRow : OpenClaim := { program := "ytoegoalficgneaagreat", sum := "b89e81ea8c12a921ed20c0e16946bac1b8a55c8c735239c516b063e234b00846", func := "commonage/commonagelaw18.FdsSound", spec := "fdsSound", unfollowed := true, recurses := true, plainKeys := false, apart := false }
def FdsSoundSaid : Prop := fdsSoundRow.holds Tryz.pinned (OpenSpec.ofChange fdsSoundSpec)

/-- ITS FALSE NEIGHBOUR: 'it returns false'. Refute it at one input. -/
def fdsSoundWrong : ChangeSpec := { name := "fdsSound", fn := fun _ => fun
  | [d] => { results := [.lit (.bool false)], args := [d] }
  | _ => none }
def FdsSoundWrongFalsely : Prop := fdsSoundRow.holds Tryz.pinned (OpenSpec.ofChange fdsSoundWrong)

/-- 'commonagelaw19.PipesSound': WHATEVER THE INPUT: true; the input reads as it did. -/
def pipesSoundSpec : ChangeSpec := { name := "pipesSound", fn := fun _ => fun
  | [d] => { results := [.lit (.bool true)], args := [d] }
  | _ => none }
def pipesSoundRow : OpenClaim := { program := "ytoegoalficgneaagreat", sum := "b89e81ea8c12a921ed20c0e16946bac1b8a55c8c735239c516b063e234b00846", func := "commonage/commonagelaw19.PipesSound", spec := "pipesSound", unfollowed := true, recurses := true, plainKeys := false, apart := false }
def PipesSoundSaid : Prop := pipesSoundRow.holds Tryz.pinned (OpenSpec.ofChange pipesSoundSpec)

/-- ITS FALSE NEIGHBOUR: 'it returns false'. Refute it at one input. -/
def pipesSoundWrong : ChangeSpec := { name := "pipesSound", fn := fun _ => fun
  | [d] => { results := [.lit (.bool false)], args := [d] }
  | _ => none }
def PipesSoundWrongFalsely : Prop := pipesSoundRow.holds Tryz.pinned (OpenSpec.ofChange pipesSoundWrong)

/- THE SECOND FORM. 'bulk': how many values and letters a reading holds, each counted each time it is reached (what is shared counts as often as it is met; a slice's spare places count too). A statement '..UptoSaid' is the law's where the arguments, and the package variables that the reading takes, are together of bulk at most 1048576: NARROWER than '..Said'. Prove '..Said' where nothing that the law and all that it calls make is longer than what came in: it says more and counts as full. Else prove '..UptoSaid'. A law counts once. -/
mutual
def uptoBulk {H : Type} : DataW H → Nat
  | .lit (.string bytes) => bytes.length + 1
  | .lit _ => 1
  | .nil => 1
  | .ptr d => uptoBulk d + 1
  | .slice elems spare => uptoBulkAll elems + uptoBulkAll spare + 1
  | .agg parts => uptoBulkAll parts + 1
  | .iface _ d => uptoBulk d + 1
  | .map entries => uptoBulkEntries entries + 1
  | .held _ => 1
def uptoBulkAll {H : Type} : List (DataW H) → Nat
  | [] => 0
  | d :: r => uptoBulk d + uptoBulkAll r
def uptoBulkEntries {H : Type} : List (Lit × DataW H) → Nat
  | [] => 0
  | x :: r => uptoBulkEntry x + uptoBulkEntries r
def uptoBulkEntry {H : Type} : Lit × DataW H → Nat
  | (.string bytes, d) => bytes.length + uptoBulk d + 1
  | (_, d) => uptoBulk d + 1
 end
def uptoSmall : (H : Type) → List (DataW H) → Bool := fun _ ds => decide (uptoBulkAll ds ≤ 1048576)
def OpenSpec.upto (s : _root_.Go.ChangeSpec) : _root_.Go.OpenSpec := { _root_.Go.OpenSpec.ofChange s with cond := some uptoSmall }

/-- 'commonagelaw17.ProcGroups', WHERE WHAT IT READS IS OF BULK AT MOST 1048576: true; the input reads as it did. -/
def procGroupsUptoRow : OpenClaim := { program := "ytoegoalficgneaagreat", sum := "b89e81ea8c12a921ed20c0e16946bac1b8a55c8c735239c516b063e234b00846", func := "commonage/commonagelaw17.ProcGroups", spec := "procGroups", unfollowed := true, recurses := true, plainKeys := false, apart := false, narrowed := true }
def ProcGroupsUptoSaid : Prop := procGroupsUptoRow.holds Tryz.pinned (OpenSpec.upto procGroupsSpec)

/-- 'commonagelaw17.ProcBad', WHERE WHAT IT READS IS OF BULK AT MOST 1048576: true; the input reads as it did. -/
def procBadUptoRow : OpenClaim := { program := "ytoegoalficgneaagreat", sum := "b89e81ea8c12a921ed20c0e16946bac1b8a55c8c735239c516b063e234b00846", func := "commonage/commonagelaw17.ProcBad", spec := "procBad", unfollowed := true, recurses := true, plainKeys := false, apart := false, narrowed := true }
def ProcBadUptoSaid : Prop := procBadUptoRow.holds Tryz.pinned (OpenSpec.upto procBadSpec)

/-- 'commonagelaw17.ProcSound', WHERE WHAT IT READS IS OF BULK AT MOST 1048576: true; the input reads as it did. -/
def procSoundUptoRow : OpenClaim := { program := "ytoegoalficgneaagreat", sum := "b89e81ea8c12a921ed20c0e16946bac1b8a55c8c735239c516b063e234b00846", func := "commonage/commonagelaw17.ProcSound", spec := "procSound", unfollowed := true, recurses := true, plainKeys := false, apart := false, narrowed := true }
def ProcSoundUptoSaid : Prop := procSoundUptoRow.holds Tryz.pinned (OpenSpec.upto procSoundSpec)

/-- 'commonagelaw18.FdsSound', WHERE WHAT IT READS IS OF BULK AT MOST 1048576: true; the input reads as it did. -/
def fdsSoundUptoRow : OpenClaim := { program := "ytoegoalficgneaagreat", sum := "b89e81ea8c12a921ed20c0e16946bac1b8a55c8c735239c516b063e234b00846", func := "commonage/commonagelaw18.FdsSound", spec := "fdsSound", unfollowed := true, recurses := true, plainKeys := false, apart := false, narrowed := true }
def FdsSoundUptoSaid : Prop := fdsSoundUptoRow.holds Tryz.pinned (OpenSpec.upto fdsSoundSpec)

/-- 'commonagelaw19.PipesSound', WHERE WHAT IT READS IS OF BULK AT MOST 1048576: true; the input reads as it did. -/
def pipesSoundUptoRow : OpenClaim := { program := "ytoegoalficgneaagreat", sum := "b89e81ea8c12a921ed20c0e16946bac1b8a55c8c735239c516b063e234b00846", func := "commonage/commonagelaw19.PipesSound", spec := "pipesSound", unfollowed := true, recurses := true, plainKeys := false, apart := false, narrowed := true }
def PipesSoundUptoSaid : Prop := pipesSoundUptoRow.holds Tryz.pinned (OpenSpec.upto pipesSoundSpec)

end Rows
end Go.Proofs.YtoegoalficgneaaGreat
