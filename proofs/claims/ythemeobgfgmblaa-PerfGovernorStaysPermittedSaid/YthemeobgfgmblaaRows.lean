/-
  No cell of these rows narrows 'for every input' (looked for: loops, veiled, ifaces, maps, wideKeys, modest, calm, conditions, laid).
  DERIVED. THE GIVEN ROWS OF THIS SEAT. 9 by the template 'for every input the law returns true; each argument reads behind the call as it read before'; 0 by the template 'total and deterministic' (their statements: YthemeobgfgmblaaTotals.lean).
  GIVEN WITH THE SEED: the statements are not yours to turn. If you find one false, say at which input.
  Laid BY PROGRAM, IN A SANDBOX (cutbox-rows.mjs): the forced cells as the released guide's own fill.sh prints them over the translation 53694b3b3aa22bc8… (all of the seat's roots in one cut). By AI agents, Wed Nov 11 2026. No macro, syntax, notation, axiom, sorry.
-/
import Derived.Test.YthemeobgfgmblaaChecked
import GoSem.Claim
import GoSem.ClaimJoined
import GoSem.ClaimMapViews
import Derived.JoinedTies
import Derived.KernelRfl
namespace Go.Proofs.Ythemeobgfgmblaa
/- THE CELL 'sum', in the pinned program and in every row, IS THE sha256 OF THE DUMP (.gsa) THAT YthemeobgfgmblaaProg.lean LOADS. Nothing in Lean hashes anything: it is a label: what it is worth is what the hold of that sum in a sandbox is worth. -/
noncomputable def Try.pinned : Pinned := { name := "ythemeobgfgmblaa", sum := "53694b3b3aa22bc85f5c0e4187869e4210cc5846e8b6ddd72f48ca8148af569b", checked := Try.checked }
namespace Rows
def none {H : Type} : Left H := { results := [], args := [] }

/-- 'platformfwlaw36.PerfCheckAgrees': WHATEVER THE INPUT: true; the input reads as it did. -/
def perfCheckAgreesSpec : ChangeSpec := { name := "perfCheckAgrees", fn := fun _ => fun
  | [d1, d2, d3, d4] => { results := [.lit (.bool true)], args := [d1, d2, d3, d4] }
  | _ => none }
def perfCheckAgreesRow : OpenClaim := { program := "ythemeobgfgmblaa", sum := "53694b3b3aa22bc85f5c0e4187869e4210cc5846e8b6ddd72f48ca8148af569b", func := "platformfw/platformfwlaw36.PerfCheckAgrees", spec := "perfCheckAgrees", inPlace := ["slices.overlaps[platformfw/api.PerfOp]"], unfollowed := true, recurses := true, apart := false }
def PerfCheckAgreesSaid : Prop := perfCheckAgreesRow.holds Try.pinned (OpenSpec.ofChange perfCheckAgreesSpec)

/-- ITS FALSE NEIGHBOUR: 'it returns false'. Refute it at one input. -/
def perfCheckAgreesWrong : ChangeSpec := { name := "perfCheckAgrees", fn := fun _ => fun
  | [d1, d2, d3, d4] => { results := [.lit (.bool false)], args := [d1, d2, d3, d4] }
  | _ => none }
def PerfCheckAgreesWrongFalsely : Prop := perfCheckAgreesRow.holds Try.pinned (OpenSpec.ofChange perfCheckAgreesWrong)

/-- 'platformfwlaw36.PerfTransitionAgrees': WHATEVER THE INPUT: true; the input reads as it did. -/
def perfTransitionAgreesSpec : ChangeSpec := { name := "perfTransitionAgrees", fn := fun _ => fun
  | [d1, d2, d3] => { results := [.lit (.bool true)], args := [d1, d2, d3] }
  | _ => none }
def perfTransitionAgreesRow : OpenClaim := { program := "ythemeobgfgmblaa", sum := "53694b3b3aa22bc85f5c0e4187869e4210cc5846e8b6ddd72f48ca8148af569b", func := "platformfw/platformfwlaw36.PerfTransitionAgrees", spec := "perfTransitionAgrees", inPlace := ["slices.overlaps[platformfw/api.PerfOp]"], unfollowed := true, recurses := true, apart := false }
def PerfTransitionAgreesSaid : Prop := perfTransitionAgreesRow.holds Try.pinned (OpenSpec.ofChange perfTransitionAgreesSpec)

/-- ITS FALSE NEIGHBOUR: 'it returns false'. Refute it at one input. -/
def perfTransitionAgreesWrong : ChangeSpec := { name := "perfTransitionAgrees", fn := fun _ => fun
  | [d1, d2, d3] => { results := [.lit (.bool false)], args := [d1, d2, d3] }
  | _ => none }
def PerfTransitionAgreesWrongFalsely : Prop := perfTransitionAgreesRow.holds Try.pinned (OpenSpec.ofChange perfTransitionAgreesWrong)

/-- 'platformfwlaw36.PerfTransitionIsSafe': WHATEVER THE INPUT: true; the input reads as it did. -/
def perfTransitionIsSafeSpec : ChangeSpec := { name := "perfTransitionIsSafe", fn := fun _ => fun
  | [d1, d2, d3] => { results := [.lit (.bool true)], args := [d1, d2, d3] }
  | _ => none }
def perfTransitionIsSafeRow : OpenClaim := { program := "ythemeobgfgmblaa", sum := "53694b3b3aa22bc85f5c0e4187869e4210cc5846e8b6ddd72f48ca8148af569b", func := "platformfw/platformfwlaw36.PerfTransitionIsSafe", spec := "perfTransitionIsSafe", inPlace := ["slices.overlaps[platformfw/api.PerfOp]"], unfollowed := true, recurses := true, apart := false }
def PerfTransitionIsSafeSaid : Prop := perfTransitionIsSafeRow.holds Try.pinned (OpenSpec.ofChange perfTransitionIsSafeSpec)

/-- ITS FALSE NEIGHBOUR: 'it returns false'. Refute it at one input. -/
def perfTransitionIsSafeWrong : ChangeSpec := { name := "perfTransitionIsSafe", fn := fun _ => fun
  | [d1, d2, d3] => { results := [.lit (.bool false)], args := [d1, d2, d3] }
  | _ => none }
def PerfTransitionIsSafeWrongFalsely : Prop := perfTransitionIsSafeRow.holds Try.pinned (OpenSpec.ofChange perfTransitionIsSafeWrong)

/-- 'platformfwlaw36.PerfSafeAgrees': WHATEVER THE INPUT: true; the input reads as it did. -/
def perfSafeAgreesSpec : ChangeSpec := { name := "perfSafeAgrees", fn := fun _ => fun
  | [d1, d2, d3] => { results := [.lit (.bool true)], args := [d1, d2, d3] }
  | _ => none }
def perfSafeAgreesRow : OpenClaim := { program := "ythemeobgfgmblaa", sum := "53694b3b3aa22bc85f5c0e4187869e4210cc5846e8b6ddd72f48ca8148af569b", func := "platformfw/platformfwlaw36.PerfSafeAgrees", spec := "perfSafeAgrees", inPlace := ["slices.overlaps[platformfw/api.PerfOp]"], unfollowed := true, recurses := true, apart := false }
def PerfSafeAgreesSaid : Prop := perfSafeAgreesRow.holds Try.pinned (OpenSpec.ofChange perfSafeAgreesSpec)

/-- ITS FALSE NEIGHBOUR: 'it returns false'. Refute it at one input. -/
def perfSafeAgreesWrong : ChangeSpec := { name := "perfSafeAgrees", fn := fun _ => fun
  | [d1, d2, d3] => { results := [.lit (.bool false)], args := [d1, d2, d3] }
  | _ => none }
def PerfSafeAgreesWrongFalsely : Prop := perfSafeAgreesRow.holds Try.pinned (OpenSpec.ofChange perfSafeAgreesWrong)

/-- 'platformfwlaw36.PerfReachesFrequency': WHATEVER THE INPUT: true; the input reads as it did. -/
def perfReachesFrequencySpec : ChangeSpec := { name := "perfReachesFrequency", fn := fun _ => fun
  | [d1, d2, d3] => { results := [.lit (.bool true)], args := [d1, d2, d3] }
  | _ => none }
def perfReachesFrequencyRow : OpenClaim := { program := "ythemeobgfgmblaa", sum := "53694b3b3aa22bc85f5c0e4187869e4210cc5846e8b6ddd72f48ca8148af569b", func := "platformfw/platformfwlaw36.PerfReachesFrequency", spec := "perfReachesFrequency", inPlace := ["slices.overlaps[platformfw/api.PerfOp]"], unfollowed := true, recurses := true, apart := false }
def PerfReachesFrequencySaid : Prop := perfReachesFrequencyRow.holds Try.pinned (OpenSpec.ofChange perfReachesFrequencySpec)

/-- ITS FALSE NEIGHBOUR: 'it returns false'. Refute it at one input. -/
def perfReachesFrequencyWrong : ChangeSpec := { name := "perfReachesFrequency", fn := fun _ => fun
  | [d1, d2, d3] => { results := [.lit (.bool false)], args := [d1, d2, d3] }
  | _ => none }
def PerfReachesFrequencyWrongFalsely : Prop := perfReachesFrequencyRow.holds Try.pinned (OpenSpec.ofChange perfReachesFrequencyWrong)

/-- 'platformfwlaw36.PerfGovernorWaits': WHATEVER THE INPUT: true; the input reads as it did. -/
def perfGovernorWaitsSpec : ChangeSpec := { name := "perfGovernorWaits", fn := fun _ => fun
  | [d1, d2, d3] => { results := [.lit (.bool true)], args := [d1, d2, d3] }
  | _ => none }
def perfGovernorWaitsRow : OpenClaim := { program := "ythemeobgfgmblaa", sum := "53694b3b3aa22bc85f5c0e4187869e4210cc5846e8b6ddd72f48ca8148af569b", func := "platformfw/platformfwlaw36.PerfGovernorWaits", spec := "perfGovernorWaits", inPlace := ["slices.overlaps[platformfw/api.PerfOp]"], unfollowed := true, recurses := true, apart := false }
def PerfGovernorWaitsSaid : Prop := perfGovernorWaitsRow.holds Try.pinned (OpenSpec.ofChange perfGovernorWaitsSpec)

/-- ITS FALSE NEIGHBOUR: 'it returns false'. Refute it at one input. -/
def perfGovernorWaitsWrong : ChangeSpec := { name := "perfGovernorWaits", fn := fun _ => fun
  | [d1, d2, d3] => { results := [.lit (.bool false)], args := [d1, d2, d3] }
  | _ => none }
def PerfGovernorWaitsWrongFalsely : Prop := perfGovernorWaitsRow.holds Try.pinned (OpenSpec.ofChange perfGovernorWaitsWrong)

/-- 'platformfwlaw36.PerfGovernorSwitchesSafely': WHATEVER THE INPUT: true; the input reads as it did. -/
def perfGovernorSwitchesSafelySpec : ChangeSpec := { name := "perfGovernorSwitchesSafely", fn := fun _ => fun
  | [d1, d2, d3] => { results := [.lit (.bool true)], args := [d1, d2, d3] }
  | _ => none }
def perfGovernorSwitchesSafelyRow : OpenClaim := { program := "ythemeobgfgmblaa", sum := "53694b3b3aa22bc85f5c0e4187869e4210cc5846e8b6ddd72f48ca8148af569b", func := "platformfw/platformfwlaw36.PerfGovernorSwitchesSafely", spec := "perfGovernorSwitchesSafely", inPlace := ["slices.overlaps[platformfw/api.PerfOp]"], unfollowed := true, recurses := true, apart := false }
def PerfGovernorSwitchesSafelySaid : Prop := perfGovernorSwitchesSafelyRow.holds Try.pinned (OpenSpec.ofChange perfGovernorSwitchesSafelySpec)

/-- ITS FALSE NEIGHBOUR: 'it returns false'. Refute it at one input. -/
def perfGovernorSwitchesSafelyWrong : ChangeSpec := { name := "perfGovernorSwitchesSafely", fn := fun _ => fun
  | [d1, d2, d3] => { results := [.lit (.bool false)], args := [d1, d2, d3] }
  | _ => none }
def PerfGovernorSwitchesSafelyWrongFalsely : Prop := perfGovernorSwitchesSafelyRow.holds Try.pinned (OpenSpec.ofChange perfGovernorSwitchesSafelyWrong)

/-- 'platformfwlaw36.PerfGovernorAgrees': WHATEVER THE INPUT: true; the input reads as it did. -/
def perfGovernorAgreesSpec : ChangeSpec := { name := "perfGovernorAgrees", fn := fun _ => fun
  | [d1, d2, d3] => { results := [.lit (.bool true)], args := [d1, d2, d3] }
  | _ => none }
def perfGovernorAgreesRow : OpenClaim := { program := "ythemeobgfgmblaa", sum := "53694b3b3aa22bc85f5c0e4187869e4210cc5846e8b6ddd72f48ca8148af569b", func := "platformfw/platformfwlaw36.PerfGovernorAgrees", spec := "perfGovernorAgrees", inPlace := ["slices.overlaps[platformfw/api.PerfOp]"], unfollowed := true, recurses := true, apart := false }
def PerfGovernorAgreesSaid : Prop := perfGovernorAgreesRow.holds Try.pinned (OpenSpec.ofChange perfGovernorAgreesSpec)

/-- ITS FALSE NEIGHBOUR: 'it returns false'. Refute it at one input. -/
def perfGovernorAgreesWrong : ChangeSpec := { name := "perfGovernorAgrees", fn := fun _ => fun
  | [d1, d2, d3] => { results := [.lit (.bool false)], args := [d1, d2, d3] }
  | _ => none }
def PerfGovernorAgreesWrongFalsely : Prop := perfGovernorAgreesRow.holds Try.pinned (OpenSpec.ofChange perfGovernorAgreesWrong)

/-- 'platformfwlaw36.PerfGovernorStaysPermitted': WHATEVER THE INPUT: true; the input reads as it did. -/
def perfGovernorStaysPermittedSpec : ChangeSpec := { name := "perfGovernorStaysPermitted", fn := fun _ => fun
  | [d1, d2, d3, d4, d5] => { results := [.lit (.bool true)], args := [d1, d2, d3, d4, d5] }
  | _ => none }
def perfGovernorStaysPermittedRow : OpenClaim := { program := "ythemeobgfgmblaa", sum := "53694b3b3aa22bc85f5c0e4187869e4210cc5846e8b6ddd72f48ca8148af569b", func := "platformfw/platformfwlaw36.PerfGovernorStaysPermitted", spec := "perfGovernorStaysPermitted", inPlace := ["slices.overlaps[platformfw/api.PerfOp]"], unfollowed := true, recurses := true, apart := false }
def PerfGovernorStaysPermittedSaid : Prop := perfGovernorStaysPermittedRow.holds Try.pinned (OpenSpec.ofChange perfGovernorStaysPermittedSpec)

/-- ITS FALSE NEIGHBOUR: 'it returns false'. Refute it at one input. -/
def perfGovernorStaysPermittedWrong : ChangeSpec := { name := "perfGovernorStaysPermitted", fn := fun _ => fun
  | [d1, d2, d3, d4, d5] => { results := [.lit (.bool false)], args := [d1, d2, d3, d4, d5] }
  | _ => none }
def PerfGovernorStaysPermittedWrongFalsely : Prop := perfGovernorStaysPermittedRow.holds Try.pinned (OpenSpec.ofChange perfGovernorStaysPermittedWrong)

/- THE SECOND FORM. 'bulk': how many values and letters a reading holds, each counted each time it is reached (what is shared counts as often as it is met; a slice's spare places count too). A statement '..UptoSaid' is the law's where the arguments, and the package variables that the reading takes, are together of bulk at most 1048576: NARROWER than '..Said'. Prove '..Said' where nothing that the law and all that it calls make is longer than what came in: it says more and counts as full. Else prove '..UptoSaid'. A law counts once. -/
mutual
def uptoBulk {H : Type} : DataW H → Nat
  | .lit (.string bytes) => bytes.length + 1
  | .lit _ => 1
  | .nil => 1
  | .ptr d => uptoBulk d + 1
  | .slice elems spare => uptoBulkAll elems + uptoBulkAll spare + 1
  | .agg parts => uptoBulkAll parts + 1
  | .iface _ d => uptoBulk d + 1
  | .map entries => uptoBulkEntries entries + 1
  | .held _ => 1
def uptoBulkAll {H : Type} : List (DataW H) → Nat
  | [] => 0
  | d :: r => uptoBulk d + uptoBulkAll r
def uptoBulkEntries {H : Type} : List (Lit × DataW H) → Nat
  | [] => 0
  | x :: r => uptoBulkEntry x + uptoBulkEntries r
def uptoBulkEntry {H : Type} : Lit × DataW H → Nat
  | (.string bytes, d) => bytes.length + uptoBulk d + 1
  | (_, d) => uptoBulk d + 1
 end
def uptoSmall : (H : Type) → List (DataW H) → Bool := fun _ ds => decide (uptoBulkAll ds ≤ 1048576)
def OpenSpec.upto (s : _root_.Go.ChangeSpec) : _root_.Go.OpenSpec := { _root_.Go.OpenSpec.ofChange s with cond := some uptoSmall }

/-- 'platformfwlaw36.PerfCheckAgrees', WHERE WHAT IT READS IS OF BULK AT MOST 1048576: true; the input reads as it did. -/
def perfCheckAgreesUptoRow : OpenClaim := { program := "ythemeobgfgmblaa", sum := "53694b3b3aa22bc85f5c0e4187869e4210cc5846e8b6ddd72f48ca8148af569b", func := "platformfw/platformfwlaw36.PerfCheckAgrees", spec := "perfCheckAgrees", inPlace := ["slices.overlaps[platformfw/api.PerfOp]"], unfollowed := true, recurses := true, apart := false, narrowed := true }
def PerfCheckAgreesUptoSaid : Prop := perfCheckAgreesUptoRow.holds Try.pinned (OpenSpec.upto perfCheckAgreesSpec)

/-- 'platformfwlaw36.PerfTransitionAgrees', WHERE WHAT IT READS IS OF BULK AT MOST 1048576: true; the input reads as it did. -/
def perfTransitionAgreesUptoRow : OpenClaim := { program := "ythemeobgfgmblaa", sum := "53694b3b3aa22bc85f5c0e4187869e4210cc5846e8b6ddd72f48ca8148af569b", func := "platformfw/platformfwlaw36.PerfTransitionAgrees", spec := "perfTransitionAgrees", inPlace := ["slices.overlaps[platformfw/api.PerfOp]"], unfollowed := true, recurses := true, apart := false, narrowed := true }
def PerfTransitionAgreesUptoSaid : Prop := perfTransitionAgreesUptoRow.holds Try.pinned (OpenSpec.upto perfTransitionAgreesSpec)

/-- 'platformfwlaw36.PerfTransitionIsSafe', WHERE WHAT IT READS IS OF BULK AT MOST 1048576: true; the input reads as it did. -/
def perfTransitionIsSafeUptoRow : OpenClaim := { program := "ythemeobgfgmblaa", sum := "53694b3b3aa22bc85f5c0e4187869e4210cc5846e8b6ddd72f48ca8148af569b", func := "platformfw/platformfwlaw36.PerfTransitionIsSafe", spec := "perfTransitionIsSafe", inPlace := ["slices.overlaps[platformfw/api.PerfOp]"], unfollowed := true, recurses := true, apart := false, narrowed := true }
def PerfTransitionIsSafeUptoSaid : Prop := perfTransitionIsSafeUptoRow.holds Try.pinned (OpenSpec.upto perfTransitionIsSafeSpec)

/-- 'platformfwlaw36.PerfSafeAgrees', WHERE WHAT IT READS IS OF BULK AT MOST 1048576: true; the input reads as it did. -/
def perfSafeAgreesUptoRow : OpenClaim := { program := "ythemeobgfgmblaa", sum := "53694b3b3aa22bc85f5c0e4187869e4210cc5846e8b6ddd72f48ca8148af569b", func := "platformfw/platformfwlaw36.PerfSafeAgrees", spec := "perfSafeAgrees", inPlace := ["slices.overlaps[platformfw/api.PerfOp]"], unfollowed := true, recurses := true, apart := false, narrowed := true }
def PerfSafeAgreesUptoSaid : Prop := perfSafeAgreesUptoRow.holds Try.pinned (OpenSpec.upto perfSafeAgreesSpec)

/-- 'platformfwlaw36.PerfReachesFrequency', WHERE WHAT IT READS IS OF BULK AT MOST 1048576: true; the input reads as it did. -/
def perfReachesFrequencyUptoRow : OpenClaim := { program := "ythemeobgfgmblaa", sum := "53694b3b3aa22bc85f5c0e4187869e4210cc5846e8b6ddd72f48ca8148af569b", func := "platformfw/platformfwlaw36.PerfReachesFrequency", spec := "perfReachesFrequency", inPlace := ["slices.overlaps[platformfw/api.PerfOp]"], unfollowed := true, recurses := true, apart := false, narrowed := true }
def PerfReachesFrequencyUptoSaid : Prop := perfReachesFrequencyUptoRow.holds Try.pinned (OpenSpec.upto perfReachesFrequencySpec)

/-- 'platformfwlaw36.PerfGovernorWaits', WHERE WHAT IT READS IS OF BULK AT MOST 1048576: true; the input reads as it did. -/
def perfGovernorWaitsUptoRow : OpenClaim := { program := "ythemeobgfgmblaa", sum := "53694b3b3aa22bc85f5c0e4187869e4210cc5846e8b6ddd72f48ca8148af569b", func := "platformfw/platformfwlaw36.PerfGovernorWaits", spec := "perfGovernorWaits", inPlace := ["slices.overlaps[platformfw/api.PerfOp]"], unfollowed := true, recurses := true, apart := false, narrowed := true }
def PerfGovernorWaitsUptoSaid : Prop := perfGovernorWaitsUptoRow.holds Try.pinned (OpenSpec.upto perfGovernorWaitsSpec)

/-- 'platformfwlaw36.PerfGovernorSwitchesSafely', WHERE WHAT IT READS IS OF BULK AT MOST 1048576: true; the input reads as it did. -/
def perfGovernorSwitchesSafelyUptoRow : OpenClaim := { program := "ythemeobgfgmblaa", sum := "53694b3b3aa22bc85f5c0e4187869e4210cc5846e8b6ddd72f48ca8148af569b", func := "platformfw/platformfwlaw36.PerfGovernorSwitchesSafely", spec := "perfGovernorSwitchesSafely", inPlace := ["slices.overlaps[platformfw/api.PerfOp]"], unfollowed := true, recurses := true, apart := false, narrowed := true }
def PerfGovernorSwitchesSafelyUptoSaid : Prop := perfGovernorSwitchesSafelyUptoRow.holds Try.pinned (OpenSpec.upto perfGovernorSwitchesSafelySpec)

/-- 'platformfwlaw36.PerfGovernorAgrees', WHERE WHAT IT READS IS OF BULK AT MOST 1048576: true; the input reads as it did. -/
def perfGovernorAgreesUptoRow : OpenClaim := { program := "ythemeobgfgmblaa", sum := "53694b3b3aa22bc85f5c0e4187869e4210cc5846e8b6ddd72f48ca8148af569b", func := "platformfw/platformfwlaw36.PerfGovernorAgrees", spec := "perfGovernorAgrees", inPlace := ["slices.overlaps[platformfw/api.PerfOp]"], unfollowed := true, recurses := true, apart := false, narrowed := true }
def PerfGovernorAgreesUptoSaid : Prop := perfGovernorAgreesUptoRow.holds Try.pinned (OpenSpec.upto perfGovernorAgreesSpec)

/-- 'platformfwlaw36.PerfGovernorStaysPermitted', WHERE WHAT IT READS IS OF BULK AT MOST 1048576: true; the input reads as it did. -/
def perfGovernorStaysPermittedUptoRow : OpenClaim := { program := "ythemeobgfgmblaa", sum := "53694b3b3aa22bc85f5c0e4187869e4210cc5846e8b6ddd72f48ca8148af569b", func := "platformfw/platformfwlaw36.PerfGovernorStaysPermitted", spec := "perfGovernorStaysPermitted", inPlace := ["slices.overlaps[platformfw/api.PerfOp]"], unfollowed := true, recurses := true, apart := false, narrowed := true }
def PerfGovernorStaysPermittedUptoSaid : Prop := perfGovernorStaysPermittedUptoRow.holds Try.pinned (OpenSpec.upto perfGovernorStaysPermittedSpec)

end Rows
end Go.Proofs.Ythemeobgfgmblaa
