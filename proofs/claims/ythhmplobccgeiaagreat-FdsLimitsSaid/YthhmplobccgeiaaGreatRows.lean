/-
  No cell of these rows narrows 'for every input' (looked for: loops, veiled, ifaces, maps, wideKeys, modest, calm, conditions, laid).
  DERIVED. THE GIVEN ROWS OF THIS SEAT. 9 by the template 'for every input the law returns true; each argument reads behind the call as it read before'; 0 by the template 'total and deterministic' (their statements: YthhmplobccgeiaaGreatTotals.lean).
  GIVEN WITH THE SEED: the statements are not yours to turn. If you find one false, say at which input.
  Laid BY PROGRAM, IN A SANDBOX (cutbox-rows.mjs): the forced cells as the released guide's own fill.sh prints them over the translation 2441075f123017f5… (all of the seat's roots in one cut). By AI agents, Wed Nov 11 2026. No macro, syntax, notation, axiom, sorry.
-/
import Derived.Test.YthhmplobccgeiaaGreatChecked
import GoSem.Claim
import GoSem.ClaimJoined
import GoSem.ClaimMapViews
import Derived.JoinedTies
import Derived.KernelRfl
namespace Go.Proofs.YthhmplobccgeiaaGreat
/- THE CELL 'sum', in the pinned program and in every row, IS THE sha256 OF THE DUMP (.gsa) THAT YthhmplobccgeiaaGreatProg.lean LOADS. Nothing in Lean hashes anything: it is a label: what it is worth is what the hold of that sum in a sandbox is worth. -/
noncomputable def Tryz.pinned : Pinned := { name := "ythhmplobccgeiaagreat", sum := "2441075f123017f5b6c380ffcdda4ecc5ae4ee39ff0b02ac2a9fc03b2da91708", checked := Tryz.checked }
namespace Rows
def none {H : Type} : Left H := { results := [], args := [] }

/-- 'commonagelaw15.CommonsBridges': WHATEVER THE INPUT: true; the input reads as it did. -/
def commonsBridgesSpec : ChangeSpec := { name := "commonsBridges", fn := fun _ => fun
  | [d1, d2, d3] => { results := [.lit (.bool true)], args := [d1, d2, d3] }
  | _ => none }
def commonsBridgesRow : OpenClaim := { program := "ythhmplobccgeiaagreat", sum := "2441075f123017f5b6c380ffcdda4ecc5ae4ee39ff0b02ac2a9fc03b2da91708", func := "commonage/commonagelaw15.CommonsBridges", spec := "commonsBridges", unfollowed := true, recurses := true, plainKeys := false, apart := false }
def CommonsBridgesSaid : Prop := commonsBridgesRow.holds Tryz.pinned (OpenSpec.ofChange commonsBridgesSpec)

/-- ITS FALSE NEIGHBOUR: 'it returns false'. Refute it at one input. -/
def commonsBridgesWrong : ChangeSpec := { name := "commonsBridges", fn := fun _ => fun
  | [d1, d2, d3] => { results := [.lit (.bool false)], args := [d1, d2, d3] }
  | _ => none }
def CommonsBridgesWrongFalsely : Prop := commonsBridgesRow.holds Tryz.pinned (OpenSpec.ofChange commonsBridgesWrong)

/-- 'commonagelaw15.CommonsApart': WHATEVER THE INPUT: true; the input reads as it did. -/
def commonsApartSpec : ChangeSpec := { name := "commonsApart", fn := fun _ => fun
  | [d1, d2, d3] => { results := [.lit (.bool true)], args := [d1, d2, d3] }
  | _ => none }
def commonsApartRow : OpenClaim := { program := "ythhmplobccgeiaagreat", sum := "2441075f123017f5b6c380ffcdda4ecc5ae4ee39ff0b02ac2a9fc03b2da91708", func := "commonage/commonagelaw15.CommonsApart", spec := "commonsApart", unfollowed := true, recurses := true, plainKeys := false, apart := false }
def CommonsApartSaid : Prop := commonsApartRow.holds Tryz.pinned (OpenSpec.ofChange commonsApartSpec)

/-- ITS FALSE NEIGHBOUR: 'it returns false'. Refute it at one input. -/
def commonsApartWrong : ChangeSpec := { name := "commonsApart", fn := fun _ => fun
  | [d1, d2, d3] => { results := [.lit (.bool false)], args := [d1, d2, d3] }
  | _ => none }
def CommonsApartWrongFalsely : Prop := commonsApartRow.holds Tryz.pinned (OpenSpec.ofChange commonsApartWrong)

/-- 'commonagelaw15.CommonsBytes': WHATEVER THE INPUT: true; the input reads as it did. -/
def commonsBytesSpec : ChangeSpec := { name := "commonsBytes", fn := fun _ => fun
  | [d1, d2, d3, d4] => { results := [.lit (.bool true)], args := [d1, d2, d3, d4] }
  | _ => none }
def commonsBytesRow : OpenClaim := { program := "ythhmplobccgeiaagreat", sum := "2441075f123017f5b6c380ffcdda4ecc5ae4ee39ff0b02ac2a9fc03b2da91708", func := "commonage/commonagelaw15.CommonsBytes", spec := "commonsBytes", unfollowed := true, recurses := true, plainKeys := false, apart := false }
def CommonsBytesSaid : Prop := commonsBytesRow.holds Tryz.pinned (OpenSpec.ofChange commonsBytesSpec)

/-- ITS FALSE NEIGHBOUR: 'it returns false'. Refute it at one input. -/
def commonsBytesWrong : ChangeSpec := { name := "commonsBytes", fn := fun _ => fun
  | [d1, d2, d3, d4] => { results := [.lit (.bool false)], args := [d1, d2, d3, d4] }
  | _ => none }
def CommonsBytesWrongFalsely : Prop := commonsBytesRow.holds Tryz.pinned (OpenSpec.ofChange commonsBytesWrong)

/-- 'commonagelaw17.ProcFull': WHATEVER THE INPUT: true; the input reads as it did. -/
def procFullSpec : ChangeSpec := { name := "procFull", fn := fun _ => fun
  | [d] => { results := [.lit (.bool true)], args := [d] }
  | _ => none }
def procFullRow : OpenClaim := { program := "ythhmplobccgeiaagreat", sum := "2441075f123017f5b6c380ffcdda4ecc5ae4ee39ff0b02ac2a9fc03b2da91708", func := "commonage/commonagelaw17.ProcFull", spec := "procFull", unfollowed := true, recurses := true, plainKeys := false, apart := false }
def ProcFullSaid : Prop := procFullRow.holds Tryz.pinned (OpenSpec.ofChange procFullSpec)

/-- ITS FALSE NEIGHBOUR: 'it returns false'. Refute it at one input. -/
def procFullWrong : ChangeSpec := { name := "procFull", fn := fun _ => fun
  | [d] => { results := [.lit (.bool false)], args := [d] }
  | _ => none }
def ProcFullWrongFalsely : Prop := procFullRow.holds Tryz.pinned (OpenSpec.ofChange procFullWrong)

/-- 'commonagelaw17.ProcOrphans': WHATEVER THE INPUT: true; the input reads as it did. -/
def procOrphansSpec : ChangeSpec := { name := "procOrphans", fn := fun _ => fun
  | [d1, d2] => { results := [.lit (.bool true)], args := [d1, d2] }
  | _ => none }
def procOrphansRow : OpenClaim := { program := "ythhmplobccgeiaagreat", sum := "2441075f123017f5b6c380ffcdda4ecc5ae4ee39ff0b02ac2a9fc03b2da91708", func := "commonage/commonagelaw17.ProcOrphans", spec := "procOrphans", unfollowed := true, recurses := true, plainKeys := false, apart := false }
def ProcOrphansSaid : Prop := procOrphansRow.holds Tryz.pinned (OpenSpec.ofChange procOrphansSpec)

/-- ITS FALSE NEIGHBOUR: 'it returns false'. Refute it at one input. -/
def procOrphansWrong : ChangeSpec := { name := "procOrphans", fn := fun _ => fun
  | [d1, d2] => { results := [.lit (.bool false)], args := [d1, d2] }
  | _ => none }
def ProcOrphansWrongFalsely : Prop := procOrphansRow.holds Tryz.pinned (OpenSpec.ofChange procOrphansWrong)

/-- 'commonagelaw17.ProcFamily': WHATEVER THE INPUT: true; the input reads as it did. -/
def procFamilySpec : ChangeSpec := { name := "procFamily", fn := fun _ => fun
  | [d1, d2, d3, d4] => { results := [.lit (.bool true)], args := [d1, d2, d3, d4] }
  | _ => none }
def procFamilyRow : OpenClaim := { program := "ythhmplobccgeiaagreat", sum := "2441075f123017f5b6c380ffcdda4ecc5ae4ee39ff0b02ac2a9fc03b2da91708", func := "commonage/commonagelaw17.ProcFamily", spec := "procFamily", unfollowed := true, recurses := true, plainKeys := false, apart := false }
def ProcFamilySaid : Prop := procFamilyRow.holds Tryz.pinned (OpenSpec.ofChange procFamilySpec)

/-- ITS FALSE NEIGHBOUR: 'it returns false'. Refute it at one input. -/
def procFamilyWrong : ChangeSpec := { name := "procFamily", fn := fun _ => fun
  | [d1, d2, d3, d4] => { results := [.lit (.bool false)], args := [d1, d2, d3, d4] }
  | _ => none }
def ProcFamilyWrongFalsely : Prop := procFamilyRow.holds Tryz.pinned (OpenSpec.ofChange procFamilyWrong)

/-- 'commonagelaw17.ProcGroups': WHATEVER THE INPUT: true; the input reads as it did. -/
def procGroupsSpec : ChangeSpec := { name := "procGroups", fn := fun _ => fun
  | [d1, d2, d3] => { results := [.lit (.bool true)], args := [d1, d2, d3] }
  | _ => none }
def procGroupsRow : OpenClaim := { program := "ythhmplobccgeiaagreat", sum := "2441075f123017f5b6c380ffcdda4ecc5ae4ee39ff0b02ac2a9fc03b2da91708", func := "commonage/commonagelaw17.ProcGroups", spec := "procGroups", unfollowed := true, recurses := true, plainKeys := false, apart := false }
def ProcGroupsSaid : Prop := procGroupsRow.holds Tryz.pinned (OpenSpec.ofChange procGroupsSpec)

/-- ITS FALSE NEIGHBOUR: 'it returns false'. Refute it at one input. -/
def procGroupsWrong : ChangeSpec := { name := "procGroups", fn := fun _ => fun
  | [d1, d2, d3] => { results := [.lit (.bool false)], args := [d1, d2, d3] }
  | _ => none }
def ProcGroupsWrongFalsely : Prop := procGroupsRow.holds Tryz.pinned (OpenSpec.ofChange procGroupsWrong)

/-- 'commonagelaw18.FdsDups': WHATEVER THE INPUT: true; the input reads as it did. -/
def fdsDupsSpec : ChangeSpec := { name := "fdsDups", fn := fun _ => fun
  | [d1, d2] => { results := [.lit (.bool true)], args := [d1, d2] }
  | _ => none }
def fdsDupsRow : OpenClaim := { program := "ythhmplobccgeiaagreat", sum := "2441075f123017f5b6c380ffcdda4ecc5ae4ee39ff0b02ac2a9fc03b2da91708", func := "commonage/commonagelaw18.FdsDups", spec := "fdsDups", unfollowed := true, recurses := true, plainKeys := false, apart := false }
def FdsDupsSaid : Prop := fdsDupsRow.holds Tryz.pinned (OpenSpec.ofChange fdsDupsSpec)

/-- ITS FALSE NEIGHBOUR: 'it returns false'. Refute it at one input. -/
def fdsDupsWrong : ChangeSpec := { name := "fdsDups", fn := fun _ => fun
  | [d1, d2] => { results := [.lit (.bool false)], args := [d1, d2] }
  | _ => none }
def FdsDupsWrongFalsely : Prop := fdsDupsRow.holds Tryz.pinned (OpenSpec.ofChange fdsDupsWrong)

/-- 'commonagelaw18.FdsLimits': WHATEVER THE INPUT: true; the input reads as it did. -/
def fdsLimitsSpec : ChangeSpec := { name := "fdsLimits", fn := fun _ => fun
  | [d] => { results := [.lit (.bool true)], args := [d] }
  | _ => none }
def fdsLimitsRow : OpenClaim := { program := "ythhmplobccgeiaagreat", sum := "2441075f123017f5b6c380ffcdda4ecc5ae4ee39ff0b02ac2a9fc03b2da91708", func := "commonage/commonagelaw18.FdsLimits", spec := "fdsLimits", unfollowed := true, recurses := true, plainKeys := false, apart := false }
def FdsLimitsSaid : Prop := fdsLimitsRow.holds Tryz.pinned (OpenSpec.ofChange fdsLimitsSpec)

/-- ITS FALSE NEIGHBOUR: 'it returns false'. Refute it at one input. -/
def fdsLimitsWrong : ChangeSpec := { name := "fdsLimits", fn := fun _ => fun
  | [d] => { results := [.lit (.bool false)], args := [d] }
  | _ => none }
def FdsLimitsWrongFalsely : Prop := fdsLimitsRow.holds Tryz.pinned (OpenSpec.ofChange fdsLimitsWrong)

/- THE SECOND FORM. 'bulk': how many values and letters a reading holds, each counted each time it is reached (what is shared counts as often as it is met; a slice's spare places count too). A statement '..UptoSaid' is the law's where the arguments, and the package variables that the reading takes, are together of bulk at most 1048576: NARROWER than '..Said'. Prove '..Said' where nothing that the law and all that it calls make is longer than what came in: it says more and counts as full. Else prove '..UptoSaid'. A law counts once. -/
mutual
def uptoBulk {H : Type} : DataW H → Nat
  | .lit (.string bytes) => bytes.length + 1
  | .lit _ => 1
  | .nil => 1
  | .ptr d => uptoBulk d + 1
  | .slice elems spare => uptoBulkAll elems + uptoBulkAll spare + 1
  | .agg parts => uptoBulkAll parts + 1
  | .iface _ d => uptoBulk d + 1
  | .map entries => uptoBulkEntries entries + 1
  | .held _ => 1
def uptoBulkAll {H : Type} : List (DataW H) → Nat
  | [] => 0
  | d :: r => uptoBulk d + uptoBulkAll r
def uptoBulkEntries {H : Type} : List (Lit × DataW H) → Nat
  | [] => 0
  | x :: r => uptoBulkEntry x + uptoBulkEntries r
def uptoBulkEntry {H : Type} : Lit × DataW H → Nat
  | (.string bytes, d) => bytes.length + uptoBulk d + 1
  | (_, d) => uptoBulk d + 1
 end
def uptoSmall : (H : Type) → List (DataW H) → Bool := fun _ ds => decide (uptoBulkAll ds ≤ 1048576)
def OpenSpec.upto (s : _root_.Go.ChangeSpec) : _root_.Go.OpenSpec := { _root_.Go.OpenSpec.ofChange s with cond := some uptoSmall }

/-- 'commonagelaw15.CommonsBridges', WHERE WHAT IT READS IS OF BULK AT MOST 1048576: true; the input reads as it did. -/
def commonsBridgesUptoRow : OpenClaim := { program := "ythhmplobccgeiaagreat", sum := "2441075f123017f5b6c380ffcdda4ecc5ae4ee39ff0b02ac2a9fc03b2da91708", func := "commonage/commonagelaw15.CommonsBridges", spec := "commonsBridges", unfollowed := true, recurses := true, plainKeys := false, apart := false, narrowed := true }
def CommonsBridgesUptoSaid : Prop := commonsBridgesUptoRow.holds Tryz.pinned (OpenSpec.upto commonsBridgesSpec)

/-- 'commonagelaw15.CommonsApart', WHERE WHAT IT READS IS OF BULK AT MOST 1048576: true; the input reads as it did. -/
def commonsApartUptoRow : OpenClaim := { program := "ythhmplobccgeiaagreat", sum := "2441075f123017f5b6c380ffcdda4ecc5ae4ee39ff0b02ac2a9fc03b2da91708", func := "commonage/commonagelaw15.CommonsApart", spec := "commonsApart", unfollowed := true, recurses := true, plainKeys := false, apart := false, narrowed := true }
def CommonsApartUptoSaid : Prop := commonsApartUptoRow.holds Tryz.pinned (OpenSpec.upto commonsApartSpec)

/-- 'commonagelaw15.CommonsBytes', WHERE WHAT IT READS IS OF BULK AT MOST 1048576: true; the input reads as it did. -/
def commonsBytesUptoRow : OpenClaim := { program := "ythhmplobccgeiaagreat", sum := "2441075f123017f5b6c380ffcdda4ecc5ae4ee39ff0b02ac2a9fc03b2da91708", func := "commonage/commonagelaw15.CommonsBytes", spec := "commonsBytes", unfollowed := true, recurses := true, plainKeys := false, apart := false, narrowed := true }
def CommonsBytesUptoSaid : Prop := commonsBytesUptoRow.holds Tryz.pinned (OpenSpec.upto commonsBytesSpec)

/-- 'commonagelaw17.ProcFull', WHERE WHAT IT READS IS OF BULK AT MOST 1048576: true; the input reads as it did. -/
def procFullUptoRow : OpenClaim := { program := "ythhmplobccgeiaagreat", sum := "2441075f123017f5b6c380ffcdda4ecc5ae4ee39ff0b02ac2a9fc03b2da91708", func := "commonage/commonagelaw17.ProcFull", spec := "procFull", unfollowed := true, recurses := true, plainKeys := false, apart := false, narrowed := true }
def ProcFullUptoSaid : Prop := procFullUptoRow.holds Tryz.pinned (OpenSpec.upto procFullSpec)

/-- 'commonagelaw17.ProcOrphans', WHERE WHAT IT READS IS OF BULK AT MOST 1048576: true; the input reads as it did. -/
def procOrphansUptoRow : OpenClaim := { program := "ythhmplobccgeiaagreat", sum := "2441075f123017f5b6c380ffcdda4ecc5ae4ee39ff0b02ac2a9fc03b2da91708", func := "commonage/commonagelaw17.ProcOrphans", spec := "procOrphans", unfollowed := true, recurses := true, plainKeys := false, apart := false, narrowed := true }
def ProcOrphansUptoSaid : Prop := procOrphansUptoRow.holds Tryz.pinned (OpenSpec.upto procOrphansSpec)

/-- 'commonagelaw17.ProcFamily', WHERE WHAT IT READS IS OF BULK AT MOST 1048576: true; the input reads as it did. -/
def procFamilyUptoRow : OpenClaim := { program := "ythhmplobccgeiaagreat", sum := "2441075f123017f5b6c380ffcdda4ecc5ae4ee39ff0b02ac2a9fc03b2da91708", func := "commonage/commonagelaw17.ProcFamily", spec := "procFamily", unfollowed := true, recurses := true, plainKeys := false, apart := false, narrowed := true }
def ProcFamilyUptoSaid : Prop := procFamilyUptoRow.holds Tryz.pinned (OpenSpec.upto procFamilySpec)

/-- 'commonagelaw17.ProcGroups', WHERE WHAT IT READS IS OF BULK AT MOST 1048576: true; the input reads as it did. -/
def procGroupsUptoRow : OpenClaim := { program := "ythhmplobccgeiaagreat", sum := "2441075f123017f5b6c380ffcdda4ecc5ae4ee39ff0b02ac2a9fc03b2da91708", func := "commonage/commonagelaw17.ProcGroups", spec := "procGroups", unfollowed := true, recurses := true, plainKeys := false, apart := false, narrowed := true }
def ProcGroupsUptoSaid : Prop := procGroupsUptoRow.holds Tryz.pinned (OpenSpec.upto procGroupsSpec)

/-- 'commonagelaw18.FdsDups', WHERE WHAT IT READS IS OF BULK AT MOST 1048576: true; the input reads as it did. -/
def fdsDupsUptoRow : OpenClaim := { program := "ythhmplobccgeiaagreat", sum := "2441075f123017f5b6c380ffcdda4ecc5ae4ee39ff0b02ac2a9fc03b2da91708", func := "commonage/commonagelaw18.FdsDups", spec := "fdsDups", unfollowed := true, recurses := true, plainKeys := false, apart := false, narrowed := true }
def FdsDupsUptoSaid : Prop := fdsDupsUptoRow.holds Tryz.pinned (OpenSpec.upto fdsDupsSpec)

/-- 'commonagelaw18.FdsLimits', WHERE WHAT IT READS IS OF BULK AT MOST 1048576: true; the input reads as it did. -/
def fdsLimitsUptoRow : OpenClaim := { program := "ythhmplobccgeiaagreat", sum := "2441075f123017f5b6c380ffcdda4ecc5ae4ee39ff0b02ac2a9fc03b2da91708", func := "commonage/commonagelaw18.FdsLimits", spec := "fdsLimits", unfollowed := true, recurses := true, plainKeys := false, apart := false, narrowed := true }
def FdsLimitsUptoSaid : Prop := fdsLimitsUptoRow.holds Tryz.pinned (OpenSpec.upto fdsLimitsSpec)

end Rows
end Go.Proofs.YthhmplobccgeiaaGreat
