/-
  No cell of these rows narrows 'for every input' (looked for: loops, veiled, ifaces, maps, wideKeys, modest, calm, conditions, laid).
  DERIVED. THE GIVEN ROWS OF THIS SEAT. 9 by the template 'for every input the law returns true; each argument reads behind the call as it read before'; 0 by the template 'total and deterministic' (their statements: YtbpobnlkfpjijaaTotals.lean).
  GIVEN WITH THE SEED: the statements are not yours to turn. If you find one false, say at which input.
  Laid BY PROGRAM, IN A SANDBOX (cutbox-rows.mjs): the forced cells as the released guide's own fill.sh prints them over the translation f5fd97a698f84da0… (all of the seat's roots in one cut). By AI agents, Wed Nov 11 2026. No macro, syntax, notation, axiom, sorry.
-/
import Derived.Test.YtbpobnlkfpjijaaChecked
import GoSem.Claim
import GoSem.ClaimJoined
import GoSem.ClaimMapViews
import Derived.JoinedTies
import Derived.KernelRfl
namespace Go.Proofs.Ytbpobnlkfpjijaa
/- THE CELL 'sum', in the pinned program and in every row, IS THE sha256 OF THE DUMP (.gsa) THAT YtbpobnlkfpjijaaProg.lean LOADS. Nothing in Lean hashes anything: it is a label: what it is worth is what the hold of that sum in a sandbox is worth. -/
noncomputable def Try.pinned : Pinned := { name := "ytbpobnlkfpjijaa", sum := "f5fd97a698f84da0cd3fcd13c34b6b82539a5b6ce7619769229c0c5418494c64", checked := Try.checked }
namespace Rows
def none {H : Type} : Left H := { results := [], args := [] }

/-- 'tallysticklaw19.PlanLong': WHATEVER THE INPUT: true; the input reads as it did. -/
def planLongSpec : ChangeSpec := { name := "planLong", fn := fun _ => fun
  | [d] => { results := [.lit (.bool true)], args := [d] }
  | _ => none }
def planLongRow : OpenClaim := { program := "ytbpobnlkfpjijaa", sum := "f5fd97a698f84da0cd3fcd13c34b6b82539a5b6ce7619769229c0c5418494c64", func := "tallystick/tallysticklaw19.PlanLong", spec := "planLong", inPlace := ["math/bits.Add64", "math/bits.Sub64"], unfollowed := true, recurses := true, plainKeys := false, apart := false }
def PlanLongSaid : Prop := planLongRow.holds Try.pinned (OpenSpec.ofChange planLongSpec)

/-- ITS FALSE NEIGHBOUR: 'it returns false'. Refute it at one input. -/
def planLongWrong : ChangeSpec := { name := "planLong", fn := fun _ => fun
  | [d] => { results := [.lit (.bool false)], args := [d] }
  | _ => none }
def PlanLongWrongFalsely : Prop := planLongRow.holds Try.pinned (OpenSpec.ofChange planLongWrong)

/-- 'tallysticklaw19.PlanWanted': WHATEVER THE INPUT: true; the input reads as it did. -/
def planWantedSpec : ChangeSpec := { name := "planWanted", fn := fun _ => fun
  | [d1, d2, d3] => { results := [.lit (.bool true)], args := [d1, d2, d3] }
  | _ => none }
def planWantedRow : OpenClaim := { program := "ytbpobnlkfpjijaa", sum := "f5fd97a698f84da0cd3fcd13c34b6b82539a5b6ce7619769229c0c5418494c64", func := "tallystick/tallysticklaw19.PlanWanted", spec := "planWanted", inPlace := ["math/bits.Add64", "math/bits.Sub64"], unfollowed := true, recurses := true, plainKeys := false, apart := false }
def PlanWantedSaid : Prop := planWantedRow.holds Try.pinned (OpenSpec.ofChange planWantedSpec)

/-- ITS FALSE NEIGHBOUR: 'it returns false'. Refute it at one input. -/
def planWantedWrong : ChangeSpec := { name := "planWanted", fn := fun _ => fun
  | [d1, d2, d3] => { results := [.lit (.bool false)], args := [d1, d2, d3] }
  | _ => none }
def PlanWantedWrongFalsely : Prop := planWantedRow.holds Try.pinned (OpenSpec.ofChange planWantedWrong)

/-- 'tallysticklaw19.PlanMissing': WHATEVER THE INPUT: true; the input reads as it did. -/
def planMissingSpec : ChangeSpec := { name := "planMissing", fn := fun _ => fun
  | [d1, d2] => { results := [.lit (.bool true)], args := [d1, d2] }
  | _ => none }
def planMissingRow : OpenClaim := { program := "ytbpobnlkfpjijaa", sum := "f5fd97a698f84da0cd3fcd13c34b6b82539a5b6ce7619769229c0c5418494c64", func := "tallystick/tallysticklaw19.PlanMissing", spec := "planMissing", inPlace := ["math/bits.Add64", "math/bits.Sub64"], unfollowed := true, recurses := true, plainKeys := false, apart := false }
def PlanMissingSaid : Prop := planMissingRow.holds Try.pinned (OpenSpec.ofChange planMissingSpec)

/-- ITS FALSE NEIGHBOUR: 'it returns false'. Refute it at one input. -/
def planMissingWrong : ChangeSpec := { name := "planMissing", fn := fun _ => fun
  | [d1, d2] => { results := [.lit (.bool false)], args := [d1, d2] }
  | _ => none }
def PlanMissingWrongFalsely : Prop := planMissingRow.holds Try.pinned (OpenSpec.ofChange planMissingWrong)

/-- 'tallysticklaw15.DiskCrashes': WHATEVER THE INPUT: true; the input reads as it did. -/
def diskCrashesSpec : ChangeSpec := { name := "diskCrashes", fn := fun _ => fun
  | [d1, d2, d3] => { results := [.lit (.bool true)], args := [d1, d2, d3] }
  | _ => none }
def diskCrashesRow : OpenClaim := { program := "ytbpobnlkfpjijaa", sum := "f5fd97a698f84da0cd3fcd13c34b6b82539a5b6ce7619769229c0c5418494c64", func := "tallystick/tallysticklaw15.DiskCrashes", spec := "diskCrashes", inPlace := ["slices.overlaps[tallystick/api.File]"], unfollowed := true, recurses := true, plainKeys := false, apart := false }
def DiskCrashesSaid : Prop := diskCrashesRow.holds Try.pinned (OpenSpec.ofChange diskCrashesSpec)

/-- ITS FALSE NEIGHBOUR: 'it returns false'. Refute it at one input. -/
def diskCrashesWrong : ChangeSpec := { name := "diskCrashes", fn := fun _ => fun
  | [d1, d2, d3] => { results := [.lit (.bool false)], args := [d1, d2, d3] }
  | _ => none }
def DiskCrashesWrongFalsely : Prop := diskCrashesRow.holds Try.pinned (OpenSpec.ofChange diskCrashesWrong)

/-- 'tallysticklaw15.DiskEither': WHATEVER THE INPUT: true; the input reads as it did. -/
def diskEitherSpec : ChangeSpec := { name := "diskEither", fn := fun _ => fun
  | [d] => { results := [.lit (.bool true)], args := [d] }
  | _ => none }
def diskEitherRow : OpenClaim := { program := "ytbpobnlkfpjijaa", sum := "f5fd97a698f84da0cd3fcd13c34b6b82539a5b6ce7619769229c0c5418494c64", func := "tallystick/tallysticklaw15.DiskEither", spec := "diskEither", inPlace := ["slices.overlaps[tallystick/api.File]"], unfollowed := true, recurses := true, plainKeys := false, apart := false }
def DiskEitherSaid : Prop := diskEitherRow.holds Try.pinned (OpenSpec.ofChange diskEitherSpec)

/-- ITS FALSE NEIGHBOUR: 'it returns false'. Refute it at one input. -/
def diskEitherWrong : ChangeSpec := { name := "diskEither", fn := fun _ => fun
  | [d] => { results := [.lit (.bool false)], args := [d] }
  | _ => none }
def DiskEitherWrongFalsely : Prop := diskEitherRow.holds Try.pinned (OpenSpec.ofChange diskEitherWrong)

/-- 'tallysticklaw15.DiskTwice': WHATEVER THE INPUT: true; the input reads as it did. -/
def diskTwiceSpec : ChangeSpec := { name := "diskTwice", fn := fun _ => fun
  | [d1, d2, d3] => { results := [.lit (.bool true)], args := [d1, d2, d3] }
  | _ => none }
def diskTwiceRow : OpenClaim := { program := "ytbpobnlkfpjijaa", sum := "f5fd97a698f84da0cd3fcd13c34b6b82539a5b6ce7619769229c0c5418494c64", func := "tallystick/tallysticklaw15.DiskTwice", spec := "diskTwice", inPlace := ["slices.overlaps[tallystick/api.File]"], unfollowed := true, recurses := true, plainKeys := false, apart := false }
def DiskTwiceSaid : Prop := diskTwiceRow.holds Try.pinned (OpenSpec.ofChange diskTwiceSpec)

/-- ITS FALSE NEIGHBOUR: 'it returns false'. Refute it at one input. -/
def diskTwiceWrong : ChangeSpec := { name := "diskTwice", fn := fun _ => fun
  | [d1, d2, d3] => { results := [.lit (.bool false)], args := [d1, d2, d3] }
  | _ => none }
def DiskTwiceWrongFalsely : Prop := diskTwiceRow.holds Try.pinned (OpenSpec.ofChange diskTwiceWrong)

/-- 'tallysticklaw15.DiskStays': WHATEVER THE INPUT: true; the input reads as it did. -/
def diskStaysSpec : ChangeSpec := { name := "diskStays", fn := fun _ => fun
  | [d] => { results := [.lit (.bool true)], args := [d] }
  | _ => none }
def diskStaysRow : OpenClaim := { program := "ytbpobnlkfpjijaa", sum := "f5fd97a698f84da0cd3fcd13c34b6b82539a5b6ce7619769229c0c5418494c64", func := "tallystick/tallysticklaw15.DiskStays", spec := "diskStays", inPlace := ["slices.overlaps[tallystick/api.File]"], unfollowed := true, recurses := true, plainKeys := false, apart := false }
def DiskStaysSaid : Prop := diskStaysRow.holds Try.pinned (OpenSpec.ofChange diskStaysSpec)

/-- ITS FALSE NEIGHBOUR: 'it returns false'. Refute it at one input. -/
def diskStaysWrong : ChangeSpec := { name := "diskStays", fn := fun _ => fun
  | [d] => { results := [.lit (.bool false)], args := [d] }
  | _ => none }
def DiskStaysWrongFalsely : Prop := diskStaysRow.holds Try.pinned (OpenSpec.ofChange diskStaysWrong)

/-- 'tallysticklaw15.DiskReads': WHATEVER THE INPUT: true; the input reads as it did. -/
def diskReadsSpec : ChangeSpec := { name := "diskReads", fn := fun _ => fun
  | [d] => { results := [.lit (.bool true)], args := [d] }
  | _ => none }
def diskReadsRow : OpenClaim := { program := "ytbpobnlkfpjijaa", sum := "f5fd97a698f84da0cd3fcd13c34b6b82539a5b6ce7619769229c0c5418494c64", func := "tallystick/tallysticklaw15.DiskReads", spec := "diskReads", inPlace := ["slices.overlaps[tallystick/api.File]"], unfollowed := true, recurses := true, plainKeys := false, apart := false }
def DiskReadsSaid : Prop := diskReadsRow.holds Try.pinned (OpenSpec.ofChange diskReadsSpec)

/-- ITS FALSE NEIGHBOUR: 'it returns false'. Refute it at one input. -/
def diskReadsWrong : ChangeSpec := { name := "diskReads", fn := fun _ => fun
  | [d] => { results := [.lit (.bool false)], args := [d] }
  | _ => none }
def DiskReadsWrongFalsely : Prop := diskReadsRow.holds Try.pinned (OpenSpec.ofChange diskReadsWrong)

/-- 'tallysticklaw15.DiskSafe': WHATEVER THE INPUT: true; the input reads as it did. -/
def diskSafeSpec : ChangeSpec := { name := "diskSafe", fn := fun _ => fun
  | [d1, d2, d3] => { results := [.lit (.bool true)], args := [d1, d2, d3] }
  | _ => none }
def diskSafeRow : OpenClaim := { program := "ytbpobnlkfpjijaa", sum := "f5fd97a698f84da0cd3fcd13c34b6b82539a5b6ce7619769229c0c5418494c64", func := "tallystick/tallysticklaw15.DiskSafe", spec := "diskSafe", inPlace := ["slices.overlaps[tallystick/api.File]"], unfollowed := true, recurses := true, plainKeys := false, apart := false }
def DiskSafeSaid : Prop := diskSafeRow.holds Try.pinned (OpenSpec.ofChange diskSafeSpec)

/-- ITS FALSE NEIGHBOUR: 'it returns false'. Refute it at one input. -/
def diskSafeWrong : ChangeSpec := { name := "diskSafe", fn := fun _ => fun
  | [d1, d2, d3] => { results := [.lit (.bool false)], args := [d1, d2, d3] }
  | _ => none }
def DiskSafeWrongFalsely : Prop := diskSafeRow.holds Try.pinned (OpenSpec.ofChange diskSafeWrong)

/- THE SECOND FORM. 'bulk': how many values and letters a reading holds, each counted each time it is reached (what is shared counts as often as it is met; a slice's spare places count too). A statement '..UptoSaid' is the law's where the arguments, and the package variables that the reading takes, are together of bulk at most 1048576: NARROWER than '..Said'. Prove '..Said' where nothing that the law and all that it calls make is longer than what came in: it says more and counts as full. Else prove '..UptoSaid'. A law counts once. -/
mutual
def uptoBulk {H : Type} : DataW H → Nat
  | .lit (.string bytes) => bytes.length + 1
  | .lit _ => 1
  | .nil => 1
  | .ptr d => uptoBulk d + 1
  | .slice elems spare => uptoBulkAll elems + uptoBulkAll spare + 1
  | .agg parts => uptoBulkAll parts + 1
  | .iface _ d => uptoBulk d + 1
  | .map entries => uptoBulkEntries entries + 1
  | .held _ => 1
def uptoBulkAll {H : Type} : List (DataW H) → Nat
  | [] => 0
  | d :: r => uptoBulk d + uptoBulkAll r
def uptoBulkEntries {H : Type} : List (Lit × DataW H) → Nat
  | [] => 0
  | x :: r => uptoBulkEntry x + uptoBulkEntries r
def uptoBulkEntry {H : Type} : Lit × DataW H → Nat
  | (.string bytes, d) => bytes.length + uptoBulk d + 1
  | (_, d) => uptoBulk d + 1
 end
def uptoSmall : (H : Type) → List (DataW H) → Bool := fun _ ds => decide (uptoBulkAll ds ≤ 1048576)
def OpenSpec.upto (s : _root_.Go.ChangeSpec) : _root_.Go.OpenSpec := { _root_.Go.OpenSpec.ofChange s with cond := some uptoSmall }

/-- 'tallysticklaw19.PlanLong', WHERE WHAT IT READS IS OF BULK AT MOST 1048576: true; the input reads as it did. -/
def planLongUptoRow : OpenClaim := { program := "ytbpobnlkfpjijaa", sum := "f5fd97a698f84da0cd3fcd13c34b6b82539a5b6ce7619769229c0c5418494c64", func := "tallystick/tallysticklaw19.PlanLong", spec := "planLong", inPlace := ["math/bits.Add64", "math/bits.Sub64"], unfollowed := true, recurses := true, plainKeys := false, apart := false, narrowed := true }
def PlanLongUptoSaid : Prop := planLongUptoRow.holds Try.pinned (OpenSpec.upto planLongSpec)

/-- 'tallysticklaw19.PlanWanted', WHERE WHAT IT READS IS OF BULK AT MOST 1048576: true; the input reads as it did. -/
def planWantedUptoRow : OpenClaim := { program := "ytbpobnlkfpjijaa", sum := "f5fd97a698f84da0cd3fcd13c34b6b82539a5b6ce7619769229c0c5418494c64", func := "tallystick/tallysticklaw19.PlanWanted", spec := "planWanted", inPlace := ["math/bits.Add64", "math/bits.Sub64"], unfollowed := true, recurses := true, plainKeys := false, apart := false, narrowed := true }
def PlanWantedUptoSaid : Prop := planWantedUptoRow.holds Try.pinned (OpenSpec.upto planWantedSpec)

/-- 'tallysticklaw19.PlanMissing', WHERE WHAT IT READS IS OF BULK AT MOST 1048576: true; the input reads as it did. -/
def planMissingUptoRow : OpenClaim := { program := "ytbpobnlkfpjijaa", sum := "f5fd97a698f84da0cd3fcd13c34b6b82539a5b6ce7619769229c0c5418494c64", func := "tallystick/tallysticklaw19.PlanMissing", spec := "planMissing", inPlace := ["math/bits.Add64", "math/bits.Sub64"], unfollowed := true, recurses := true, plainKeys := false, apart := false, narrowed := true }
def PlanMissingUptoSaid : Prop := planMissingUptoRow.holds Try.pinned (OpenSpec.upto planMissingSpec)

/-- 'tallysticklaw15.DiskCrashes', WHERE WHAT IT READS IS OF BULK AT MOST 1048576: true; the input reads as it did. -/
def diskCrashesUptoRow : OpenClaim := { program := "ytbpobnlkfpjijaa", sum := "f5fd97a698f84da0cd3fcd13c34b6b82539a5b6ce7619769229c0c5418494c64", func := "tallystick/tallysticklaw15.DiskCrashes", spec := "diskCrashes", inPlace := ["slices.overlaps[tallystick/api.File]"], unfollowed := true, recurses := true, plainKeys := false, apart := false, narrowed := true }
def DiskCrashesUptoSaid : Prop := diskCrashesUptoRow.holds Try.pinned (OpenSpec.upto diskCrashesSpec)

/-- 'tallysticklaw15.DiskEither', WHERE WHAT IT READS IS OF BULK AT MOST 1048576: true; the input reads as it did. -/
def diskEitherUptoRow : OpenClaim := { program := "ytbpobnlkfpjijaa", sum := "f5fd97a698f84da0cd3fcd13c34b6b82539a5b6ce7619769229c0c5418494c64", func := "tallystick/tallysticklaw15.DiskEither", spec := "diskEither", inPlace := ["slices.overlaps[tallystick/api.File]"], unfollowed := true, recurses := true, plainKeys := false, apart := false, narrowed := true }
def DiskEitherUptoSaid : Prop := diskEitherUptoRow.holds Try.pinned (OpenSpec.upto diskEitherSpec)

/-- 'tallysticklaw15.DiskTwice', WHERE WHAT IT READS IS OF BULK AT MOST 1048576: true; the input reads as it did. -/
def diskTwiceUptoRow : OpenClaim := { program := "ytbpobnlkfpjijaa", sum := "f5fd97a698f84da0cd3fcd13c34b6b82539a5b6ce7619769229c0c5418494c64", func := "tallystick/tallysticklaw15.DiskTwice", spec := "diskTwice", inPlace := ["slices.overlaps[tallystick/api.File]"], unfollowed := true, recurses := true, plainKeys := false, apart := false, narrowed := true }
def DiskTwiceUptoSaid : Prop := diskTwiceUptoRow.holds Try.pinned (OpenSpec.upto diskTwiceSpec)

/-- 'tallysticklaw15.DiskStays', WHERE WHAT IT READS IS OF BULK AT MOST 1048576: true; the input reads as it did. -/
def diskStaysUptoRow : OpenClaim := { program := "ytbpobnlkfpjijaa", sum := "f5fd97a698f84da0cd3fcd13c34b6b82539a5b6ce7619769229c0c5418494c64", func := "tallystick/tallysticklaw15.DiskStays", spec := "diskStays", inPlace := ["slices.overlaps[tallystick/api.File]"], unfollowed := true, recurses := true, plainKeys := false, apart := false, narrowed := true }
def DiskStaysUptoSaid : Prop := diskStaysUptoRow.holds Try.pinned (OpenSpec.upto diskStaysSpec)

/-- 'tallysticklaw15.DiskReads', WHERE WHAT IT READS IS OF BULK AT MOST 1048576: true; the input reads as it did. -/
def diskReadsUptoRow : OpenClaim := { program := "ytbpobnlkfpjijaa", sum := "f5fd97a698f84da0cd3fcd13c34b6b82539a5b6ce7619769229c0c5418494c64", func := "tallystick/tallysticklaw15.DiskReads", spec := "diskReads", inPlace := ["slices.overlaps[tallystick/api.File]"], unfollowed := true, recurses := true, plainKeys := false, apart := false, narrowed := true }
def DiskReadsUptoSaid : Prop := diskReadsUptoRow.holds Try.pinned (OpenSpec.upto diskReadsSpec)

/-- 'tallysticklaw15.DiskSafe', WHERE WHAT IT READS IS OF BULK AT MOST 1048576: true; the input reads as it did. -/
def diskSafeUptoRow : OpenClaim := { program := "ytbpobnlkfpjijaa", sum := "f5fd97a698f84da0cd3fcd13c34b6b82539a5b6ce7619769229c0c5418494c64", func := "tallystick/tallysticklaw15.DiskSafe", spec := "diskSafe", inPlace := ["slices.overlaps[tallystick/api.File]"], unfollowed := true, recurses := true, plainKeys := false, apart := false, narrowed := true }
def DiskSafeUptoSaid : Prop := diskSafeUptoRow.holds Try.pinned (OpenSpec.upto diskSafeSpec)

end Rows
end Go.Proofs.Ytbpobnlkfpjijaa
