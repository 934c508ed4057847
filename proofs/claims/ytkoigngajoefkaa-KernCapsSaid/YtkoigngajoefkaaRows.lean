/-
  No cell of these rows narrows 'for every input' (looked for: loops, veiled, ifaces, maps, wideKeys, modest, calm, conditions, laid).
  DERIVED. THE GIVEN ROWS OF THIS SEAT. 5 by the template 'for every input the law returns true; each argument reads behind the call as it read before'; 0 by the template 'total and deterministic' (their statements: YtkoigngajoefkaaTotals.lean).
  GIVEN WITH THE SEED: the statements are not yours to turn. If you find one false, say at which input.
  Laid BY PROGRAM, IN A SANDBOX (cutbox-rows.mjs): the forced cells as the released guide's own fill.sh prints them over the translation d591a014c1dd79aa… (all of the seat's roots in one cut). By AI agents, Wed Nov 11 2026. No macro, syntax, notation, axiom, sorry.
-/
import Derived.Test.YtkoigngajoefkaaChecked
import GoSem.Claim
import GoSem.ClaimJoined
import GoSem.ClaimMapViews
import Derived.JoinedTies
import Derived.KernelRfl
namespace Go.Proofs.Ytkoigngajoefkaa
/- THE CELL 'sum', in the pinned program and in every row, IS THE sha256 OF THE DUMP (.gsa) THAT YtkoigngajoefkaaProg.lean LOADS. Nothing in Lean hashes anything: it is a label: what it is worth is what the hold of that sum in a sandbox is worth. -/
noncomputable def Try.pinned : Pinned := { name := "ytkoigngajoefkaa", sum := "d591a014c1dd79aaf90dc8c06b5ce4d1a7ca72e681eae6e9c52c3ed062ab90aa", checked := Try.checked }
namespace Rows
def none {H : Type} : Left H := { results := [], args := [] }

/-- 'commonagelaw8.KernFrames': WHATEVER THE INPUT: true; the input reads as it did. -/
def kernFramesSpec : ChangeSpec := { name := "kernFrames", fn := fun _ => fun
  | [d1, d2, d3] => { results := [.lit (.bool true)], args := [d1, d2, d3] }
  | _ => none }
def kernFramesRow : OpenClaim := { program := "ytkoigngajoefkaa", sum := "d591a014c1dd79aaf90dc8c06b5ce4d1a7ca72e681eae6e9c52c3ed062ab90aa", func := "commonage/commonagelaw8.KernFrames", spec := "kernFrames", unfollowed := true, recurses := true, plainKeys := false, apart := false }
def KernFramesSaid : Prop := kernFramesRow.holds Try.pinned (OpenSpec.ofChange kernFramesSpec)

/-- ITS FALSE NEIGHBOUR: 'it returns false'. Refute it at one input. -/
def kernFramesWrong : ChangeSpec := { name := "kernFrames", fn := fun _ => fun
  | [d1, d2, d3] => { results := [.lit (.bool false)], args := [d1, d2, d3] }
  | _ => none }
def KernFramesWrongFalsely : Prop := kernFramesRow.holds Try.pinned (OpenSpec.ofChange kernFramesWrong)

/-- 'commonagelaw8.KernAlone': WHATEVER THE INPUT: true; the input reads as it did. -/
def kernAloneSpec : ChangeSpec := { name := "kernAlone", fn := fun _ => fun
  | [d] => { results := [.lit (.bool true)], args := [d] }
  | _ => none }
def kernAloneRow : OpenClaim := { program := "ytkoigngajoefkaa", sum := "d591a014c1dd79aaf90dc8c06b5ce4d1a7ca72e681eae6e9c52c3ed062ab90aa", func := "commonage/commonagelaw8.KernAlone", spec := "kernAlone", unfollowed := true, recurses := true, plainKeys := false, apart := false }
def KernAloneSaid : Prop := kernAloneRow.holds Try.pinned (OpenSpec.ofChange kernAloneSpec)

/-- ITS FALSE NEIGHBOUR: 'it returns false'. Refute it at one input. -/
def kernAloneWrong : ChangeSpec := { name := "kernAlone", fn := fun _ => fun
  | [d] => { results := [.lit (.bool false)], args := [d] }
  | _ => none }
def KernAloneWrongFalsely : Prop := kernAloneRow.holds Try.pinned (OpenSpec.ofChange kernAloneWrong)

/-- 'commonagelaw8.KernClock': WHATEVER THE INPUT: true; the input reads as it did. -/
def kernClockSpec : ChangeSpec := { name := "kernClock", fn := fun _ => fun
  | [d] => { results := [.lit (.bool true)], args := [d] }
  | _ => none }
def kernClockRow : OpenClaim := { program := "ytkoigngajoefkaa", sum := "d591a014c1dd79aaf90dc8c06b5ce4d1a7ca72e681eae6e9c52c3ed062ab90aa", func := "commonage/commonagelaw8.KernClock", spec := "kernClock", unfollowed := true, recurses := true, plainKeys := false, apart := false }
def KernClockSaid : Prop := kernClockRow.holds Try.pinned (OpenSpec.ofChange kernClockSpec)

/-- ITS FALSE NEIGHBOUR: 'it returns false'. Refute it at one input. -/
def kernClockWrong : ChangeSpec := { name := "kernClock", fn := fun _ => fun
  | [d] => { results := [.lit (.bool false)], args := [d] }
  | _ => none }
def KernClockWrongFalsely : Prop := kernClockRow.holds Try.pinned (OpenSpec.ofChange kernClockWrong)

/-- 'commonagelaw8.KernCaps': WHATEVER THE INPUT: true; the input reads as it did. -/
def kernCapsSpec : ChangeSpec := { name := "kernCaps", fn := fun _ => fun
  | [d1, d2, d3, d4] => { results := [.lit (.bool true)], args := [d1, d2, d3, d4] }
  | _ => none }
def kernCapsRow : OpenClaim := { program := "ytkoigngajoefkaa", sum := "d591a014c1dd79aaf90dc8c06b5ce4d1a7ca72e681eae6e9c52c3ed062ab90aa", func := "commonage/commonagelaw8.KernCaps", spec := "kernCaps", unfollowed := true, recurses := true, plainKeys := false, apart := false }
def KernCapsSaid : Prop := kernCapsRow.holds Try.pinned (OpenSpec.ofChange kernCapsSpec)

/-- ITS FALSE NEIGHBOUR: 'it returns false'. Refute it at one input. -/
def kernCapsWrong : ChangeSpec := { name := "kernCaps", fn := fun _ => fun
  | [d1, d2, d3, d4] => { results := [.lit (.bool false)], args := [d1, d2, d3, d4] }
  | _ => none }
def KernCapsWrongFalsely : Prop := kernCapsRow.holds Try.pinned (OpenSpec.ofChange kernCapsWrong)

/-- 'commonagelaw8.KernSects': WHATEVER THE INPUT: true; the input reads as it did. -/
def kernSectsSpec : ChangeSpec := { name := "kernSects", fn := fun _ => fun
  | [d] => { results := [.lit (.bool true)], args := [d] }
  | _ => none }
def kernSectsRow : OpenClaim := { program := "ytkoigngajoefkaa", sum := "d591a014c1dd79aaf90dc8c06b5ce4d1a7ca72e681eae6e9c52c3ed062ab90aa", func := "commonage/commonagelaw8.KernSects", spec := "kernSects", unfollowed := true, recurses := true, plainKeys := false, apart := false }
def KernSectsSaid : Prop := kernSectsRow.holds Try.pinned (OpenSpec.ofChange kernSectsSpec)

/-- ITS FALSE NEIGHBOUR: 'it returns false'. Refute it at one input. -/
def kernSectsWrong : ChangeSpec := { name := "kernSects", fn := fun _ => fun
  | [d] => { results := [.lit (.bool false)], args := [d] }
  | _ => none }
def KernSectsWrongFalsely : Prop := kernSectsRow.holds Try.pinned (OpenSpec.ofChange kernSectsWrong)

/- THE SECOND FORM. 'bulk': how many values and letters a reading holds, each counted each time it is reached (what is shared counts as often as it is met; a slice's spare places count too). A statement '..UptoSaid' is the law's where the arguments, and the package variables that the reading takes, are together of bulk at most 1048576: NARROWER than '..Said'. Prove '..Said' where nothing that the law and all that it calls make is longer than what came in: it says more and counts as full. Else prove '..UptoSaid'. A law counts once. -/
mutual
def uptoBulk {H : Type} : DataW H → Nat
  | .lit (.string bytes) => bytes.length + 1
  | .lit _ => 1
  | .nil => 1
  | .ptr d => uptoBulk d + 1
  | .slice elems spare => uptoBulkAll elems + uptoBulkAll spare + 1
  | .agg parts => uptoBulkAll parts + 1
  | .iface _ d => uptoBulk d + 1
  | .map entries => uptoBulkEntries entries + 1
  | .held _ => 1
def uptoBulkAll {H : Type} : List (DataW H) → Nat
  | [] => 0
  | d :: r => uptoBulk d + uptoBulkAll r
def uptoBulkEntries {H : Type} : List (Lit × DataW H) → Nat
  | [] => 0
  | x :: r => uptoBulkEntry x + uptoBulkEntries r
def uptoBulkEntry {H : Type} : Lit × DataW H → Nat
  | (.string bytes, d) => bytes.length + uptoBulk d + 1
  | (_, d) => uptoBulk d + 1
 end
def uptoSmall : (H : Type) → List (DataW H) → Bool := fun _ ds => decide (uptoBulkAll ds ≤ 1048576)
def OpenSpec.upto (s : _root_.Go.ChangeSpec) : _root_.Go.OpenSpec := { _root_.Go.OpenSpec.ofChange s with cond := some uptoSmall }

/-- 'commonagelaw8.KernFrames', WHERE WHAT IT READS IS OF BULK AT MOST 1048576: true; the input reads as it did. -/
def kernFramesUptoRow : OpenClaim := { program := "ytkoigngajoefkaa", sum := "d591a014c1dd79aaf90dc8c06b5ce4d1a7ca72e681eae6e9c52c3ed062ab90aa", func := "commonage/commonagelaw8.KernFrames", spec := "kernFrames", unfollowed := true, recurses := true, plainKeys := false, apart := false, narrowed := true }
def KernFramesUptoSaid : Prop := kernFramesUptoRow.holds Try.pinned (OpenSpec.upto kernFramesSpec)

/-- 'commonagelaw8.KernAlone', WHERE WHAT IT READS IS OF BULK AT MOST 1048576: true; the input reads as it did. -/
def kernAloneUptoRow : OpenClaim := { program := "ytkoigngajoefkaa", sum := "d591a014c1dd79aaf90dc8c06b5ce4d1a7ca72e681eae6e9c52c3ed062ab90aa", func := "commonage/commonagelaw8.KernAlone", spec := "kernAlone", unfollowed := true, recurses := true, plainKeys := false, apart := false, narrowed := true }
def KernAloneUptoSaid : Prop := kernAloneUptoRow.holds Try.pinned (OpenSpec.upto kernAloneSpec)

/-- 'commonagelaw8.KernClock', WHERE WHAT IT READS IS OF BULK AT MOST 1048576: true; the input reads as it did. -/
def kernClockUptoRow : OpenClaim := { program := "ytkoigngajoefkaa", sum := "d591a014c1dd79aaf90dc8c06b5ce4d1a7ca72e681eae6e9c52c3ed062ab90aa", func := "commonage/commonagelaw8.KernClock", spec := "kernClock", unfollowed := true, recurses := true, plainKeys := false, apart := false, narrowed := true }
def KernClockUptoSaid : Prop := kernClockUptoRow.holds Try.pinned (OpenSpec.upto kernClockSpec)

/-- 'commonagelaw8.KernCaps', WHERE WHAT IT READS IS OF BULK AT MOST 1048576: true; the input reads as it did. -/
def kernCapsUptoRow : OpenClaim := { program := "ytkoigngajoefkaa", sum := "d591a014c1dd79aaf90dc8c06b5ce4d1a7ca72e681eae6e9c52c3ed062ab90aa", func := "commonage/commonagelaw8.KernCaps", spec := "kernCaps", unfollowed := true, recurses := true, plainKeys := false, apart := false, narrowed := true }
def KernCapsUptoSaid : Prop := kernCapsUptoRow.holds Try.pinned (OpenSpec.upto kernCapsSpec)

/-- 'commonagelaw8.KernSects', WHERE WHAT IT READS IS OF BULK AT MOST 1048576: true; the input reads as it did. -/
def kernSectsUptoRow : OpenClaim := { program := "ytkoigngajoefkaa", sum := "d591a014c1dd79aaf90dc8c06b5ce4d1a7ca72e681eae6e9c52c3ed062ab90aa", func := "commonage/commonagelaw8.KernSects", spec := "kernSects", unfollowed := true, recurses := true, plainKeys := false, apart := false, narrowed := true }
def KernSectsUptoSaid : Prop := kernSectsUptoRow.holds Try.pinned (OpenSpec.upto kernSectsSpec)

end Rows
end Go.Proofs.Ytkoigngajoefkaa
