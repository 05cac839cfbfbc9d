/-
  No cell of these rows narrows 'for every input' (looked for: loops, veiled, ifaces, maps, wideKeys, modest, calm, conditions, laid).
  DERIVED. THE GIVEN ROWS OF THIS SEAT. 8 by the template 'for every input the law returns true; each argument reads behind the call as it read before'; 0 by the template 'total and deterministic' (their statements: YtakaooegofiloaaTotals.lean).
  GIVEN WITH THE SEED: the statements are not yours to turn. If you find one false, say at which input.
  Laid BY PROGRAM, IN A SANDBOX (cutbox-rows.mjs): the forced cells as the released guide's own fill.sh prints them over the translation 91af2bc59a2723ad… (all of the seat's roots in one cut). By AI agents, Wed Nov 11 2026. No macro, syntax, notation, axiom, sorry.
-/
import Derived.Test.YtakaooegofiloaaChecked
import GoSem.Claim
import GoSem.ClaimJoined
import GoSem.ClaimMapViews
import Derived.JoinedTies
import Derived.KernelRfl
namespace Go.Proofs.Ytakaooegofiloaa
/- THE CELL 'sum', in the pinned program and in every row, IS THE sha256 OF THE DUMP (.gsa) THAT YtakaooegofiloaaProg.lean LOADS. Nothing in Lean hashes anything: it is a label: what it is worth is what the hold of that sum in a sandbox is worth. -/
noncomputable def Try.pinned : Pinned := { name := "ytakaooegofiloaa", sum := "91af2bc59a2723adc6bc72350caea260d1b0adb5a5f72fb67fb4125a94611db9", checked := Try.checked }
namespace Rows
def none {H : Type} : Left H := { results := [], args := [] }

/-- 'platformfwlaw38.HeatConservation': WHATEVER THE INPUT: true; the input reads as it did. -/
def heatConservationSpec : ChangeSpec := { name := "heatConservation", fn := fun _ => fun
  | [d1, d2, d3, d4] => { results := [.lit (.bool true)], args := [d1, d2, d3, d4] }
  | _ => none }
def heatConservationRow : OpenClaim := { program := "ytakaooegofiloaa", sum := "91af2bc59a2723adc6bc72350caea260d1b0adb5a5f72fb67fb4125a94611db9", func := "platformfw/platformfwlaw38.HeatConservation", spec := "heatConservation", unfollowed := true, recurses := true, apart := false }
def HeatConservationSaid : Prop := heatConservationRow.holds Try.pinned (OpenSpec.ofChange heatConservationSpec)

/-- ITS FALSE NEIGHBOUR: 'it returns false'. Refute it at one input. -/
def heatConservationWrong : ChangeSpec := { name := "heatConservation", fn := fun _ => fun
  | [d1, d2, d3, d4] => { results := [.lit (.bool false)], args := [d1, d2, d3, d4] }
  | _ => none }
def HeatConservationWrongFalsely : Prop := heatConservationRow.holds Try.pinned (OpenSpec.ofChange heatConservationWrong)

/-- 'platformfwlaw38.HeatRelabeling': WHATEVER THE INPUT: true; the input reads as it did. -/
def heatRelabelingSpec : ChangeSpec := { name := "heatRelabeling", fn := fun _ => fun
  | [d1, d2, d3, d4] => { results := [.lit (.bool true)], args := [d1, d2, d3, d4] }
  | _ => none }
def heatRelabelingRow : OpenClaim := { program := "ytakaooegofiloaa", sum := "91af2bc59a2723adc6bc72350caea260d1b0adb5a5f72fb67fb4125a94611db9", func := "platformfw/platformfwlaw38.HeatRelabeling", spec := "heatRelabeling", unfollowed := true, recurses := true, apart := false }
def HeatRelabelingSaid : Prop := heatRelabelingRow.holds Try.pinned (OpenSpec.ofChange heatRelabelingSpec)

/-- ITS FALSE NEIGHBOUR: 'it returns false'. Refute it at one input. -/
def heatRelabelingWrong : ChangeSpec := { name := "heatRelabeling", fn := fun _ => fun
  | [d1, d2, d3, d4] => { results := [.lit (.bool false)], args := [d1, d2, d3, d4] }
  | _ => none }
def HeatRelabelingWrongFalsely : Prop := heatRelabelingRow.holds Try.pinned (OpenSpec.ofChange heatRelabelingWrong)

/-- 'platformfwlaw38.HeatCopies': WHATEVER THE INPUT: true; the input reads as it did. -/
def heatCopiesSpec : ChangeSpec := { name := "heatCopies", fn := fun _ => fun
  | [d1, d2, d3, d4, d5] => { results := [.lit (.bool true)], args := [d1, d2, d3, d4, d5] }
  | _ => none }
def heatCopiesRow : OpenClaim := { program := "ytakaooegofiloaa", sum := "91af2bc59a2723adc6bc72350caea260d1b0adb5a5f72fb67fb4125a94611db9", func := "platformfw/platformfwlaw38.HeatCopies", spec := "heatCopies", unfollowed := true, recurses := true, apart := false }
def HeatCopiesSaid : Prop := heatCopiesRow.holds Try.pinned (OpenSpec.ofChange heatCopiesSpec)

/-- ITS FALSE NEIGHBOUR: 'it returns false'. Refute it at one input. -/
def heatCopiesWrong : ChangeSpec := { name := "heatCopies", fn := fun _ => fun
  | [d1, d2, d3, d4, d5] => { results := [.lit (.bool false)], args := [d1, d2, d3, d4, d5] }
  | _ => none }
def HeatCopiesWrongFalsely : Prop := heatCopiesRow.holds Try.pinned (OpenSpec.ofChange heatCopiesWrong)

/-- 'platformfwlaw38.HeatStepsAgree': WHATEVER THE INPUT: true; the input reads as it did. -/
def heatStepsAgreeSpec : ChangeSpec := { name := "heatStepsAgree", fn := fun _ => fun
  | [d1, d2, d3, d4] => { results := [.lit (.bool true)], args := [d1, d2, d3, d4] }
  | _ => none }
def heatStepsAgreeRow : OpenClaim := { program := "ytakaooegofiloaa", sum := "91af2bc59a2723adc6bc72350caea260d1b0adb5a5f72fb67fb4125a94611db9", func := "platformfw/platformfwlaw38.HeatStepsAgree", spec := "heatStepsAgree", unfollowed := true, recurses := true, apart := false }
def HeatStepsAgreeSaid : Prop := heatStepsAgreeRow.holds Try.pinned (OpenSpec.ofChange heatStepsAgreeSpec)

/-- ITS FALSE NEIGHBOUR: 'it returns false'. Refute it at one input. -/
def heatStepsAgreeWrong : ChangeSpec := { name := "heatStepsAgree", fn := fun _ => fun
  | [d1, d2, d3, d4] => { results := [.lit (.bool false)], args := [d1, d2, d3, d4] }
  | _ => none }
def HeatStepsAgreeWrongFalsely : Prop := heatStepsAgreeRow.holds Try.pinned (OpenSpec.ofChange heatStepsAgreeWrong)

/-- 'platformfwlaw38.HeatEquilibrium': WHATEVER THE INPUT: true; the input reads as it did. -/
def heatEquilibriumSpec : ChangeSpec := { name := "heatEquilibrium", fn := fun _ => fun
  | [d1, d2, d3, d4] => { results := [.lit (.bool true)], args := [d1, d2, d3, d4] }
  | _ => none }
def heatEquilibriumRow : OpenClaim := { program := "ytakaooegofiloaa", sum := "91af2bc59a2723adc6bc72350caea260d1b0adb5a5f72fb67fb4125a94611db9", func := "platformfw/platformfwlaw38.HeatEquilibrium", spec := "heatEquilibrium", unfollowed := true, recurses := true, apart := false }
def HeatEquilibriumSaid : Prop := heatEquilibriumRow.holds Try.pinned (OpenSpec.ofChange heatEquilibriumSpec)

/-- ITS FALSE NEIGHBOUR: 'it returns false'. Refute it at one input. -/
def heatEquilibriumWrong : ChangeSpec := { name := "heatEquilibrium", fn := fun _ => fun
  | [d1, d2, d3, d4] => { results := [.lit (.bool false)], args := [d1, d2, d3, d4] }
  | _ => none }
def HeatEquilibriumWrongFalsely : Prop := heatEquilibriumRow.holds Try.pinned (OpenSpec.ofChange heatEquilibriumWrong)

/-- 'platformfwlaw38.HeatNewAgrees': WHATEVER THE INPUT: true; the input reads as it did. -/
def heatNewAgreesSpec : ChangeSpec := { name := "heatNewAgrees", fn := fun _ => fun
  | [d1, d2, d3, d4, d5, d6, d7] => { results := [.lit (.bool true)], args := [d1, d2, d3, d4, d5, d6, d7] }
  | _ => none }
def heatNewAgreesRow : OpenClaim := { program := "ytakaooegofiloaa", sum := "91af2bc59a2723adc6bc72350caea260d1b0adb5a5f72fb67fb4125a94611db9", func := "platformfw/platformfwlaw38.HeatNewAgrees", spec := "heatNewAgrees", unfollowed := true, recurses := true, apart := false }
def HeatNewAgreesSaid : Prop := heatNewAgreesRow.holds Try.pinned (OpenSpec.ofChange heatNewAgreesSpec)

/-- ITS FALSE NEIGHBOUR: 'it returns false'. Refute it at one input. -/
def heatNewAgreesWrong : ChangeSpec := { name := "heatNewAgrees", fn := fun _ => fun
  | [d1, d2, d3, d4, d5, d6, d7] => { results := [.lit (.bool false)], args := [d1, d2, d3, d4, d5, d6, d7] }
  | _ => none }
def HeatNewAgreesWrongFalsely : Prop := heatNewAgreesRow.holds Try.pinned (OpenSpec.ofChange heatNewAgreesWrong)

/-- 'platformfwlaw38.HeatShift': WHATEVER THE INPUT: true; the input reads as it did. -/
def heatShiftSpec : ChangeSpec := { name := "heatShift", fn := fun _ => fun
  | [d1, d2, d3, d4, d5] => { results := [.lit (.bool true)], args := [d1, d2, d3, d4, d5] }
  | _ => none }
def heatShiftRow : OpenClaim := { program := "ytakaooegofiloaa", sum := "91af2bc59a2723adc6bc72350caea260d1b0adb5a5f72fb67fb4125a94611db9", func := "platformfw/platformfwlaw38.HeatShift", spec := "heatShift", unfollowed := true, recurses := true, apart := false }
def HeatShiftSaid : Prop := heatShiftRow.holds Try.pinned (OpenSpec.ofChange heatShiftSpec)

/-- ITS FALSE NEIGHBOUR: 'it returns false'. Refute it at one input. -/
def heatShiftWrong : ChangeSpec := { name := "heatShift", fn := fun _ => fun
  | [d1, d2, d3, d4, d5] => { results := [.lit (.bool false)], args := [d1, d2, d3, d4, d5] }
  | _ => none }
def HeatShiftWrongFalsely : Prop := heatShiftRow.holds Try.pinned (OpenSpec.ofChange heatShiftWrong)

/-- 'platformfwlaw38.HeatBoundHolds': WHATEVER THE INPUT: true; the input reads as it did. -/
def heatBoundHoldsSpec : ChangeSpec := { name := "heatBoundHolds", fn := fun _ => fun
  | [d1, d2, d3, d4, d5] => { results := [.lit (.bool true)], args := [d1, d2, d3, d4, d5] }
  | _ => none }
def heatBoundHoldsRow : OpenClaim := { program := "ytakaooegofiloaa", sum := "91af2bc59a2723adc6bc72350caea260d1b0adb5a5f72fb67fb4125a94611db9", func := "platformfw/platformfwlaw38.HeatBoundHolds", spec := "heatBoundHolds", unfollowed := true, recurses := true, apart := false }
def HeatBoundHoldsSaid : Prop := heatBoundHoldsRow.holds Try.pinned (OpenSpec.ofChange heatBoundHoldsSpec)

/-- ITS FALSE NEIGHBOUR: 'it returns false'. Refute it at one input. -/
def heatBoundHoldsWrong : ChangeSpec := { name := "heatBoundHolds", fn := fun _ => fun
  | [d1, d2, d3, d4, d5] => { results := [.lit (.bool false)], args := [d1, d2, d3, d4, d5] }
  | _ => none }
def HeatBoundHoldsWrongFalsely : Prop := heatBoundHoldsRow.holds Try.pinned (OpenSpec.ofChange heatBoundHoldsWrong)

/- THE SECOND FORM. 'bulk': how many values and letters a reading holds, each counted each time it is reached (what is shared counts as often as it is met; a slice's spare places count too). A statement '..UptoSaid' is the law's where the arguments, and the package variables that the reading takes, are together of bulk at most 1048576: NARROWER than '..Said'. Prove '..Said' where nothing that the law and all that it calls make is longer than what came in: it says more and counts as full. Else prove '..UptoSaid'. A law counts once. -/
mutual
def uptoBulk {H : Type} : DataW H → Nat
  | .lit (.string bytes) => bytes.length + 1
  | .lit _ => 1
  | .nil => 1
  | .ptr d => uptoBulk d + 1
  | .slice elems spare => uptoBulkAll elems + uptoBulkAll spare + 1
  | .agg parts => uptoBulkAll parts + 1
  | .iface _ d => uptoBulk d + 1
  | .map entries => uptoBulkEntries entries + 1
  | .held _ => 1
def uptoBulkAll {H : Type} : List (DataW H) → Nat
  | [] => 0
  | d :: r => uptoBulk d + uptoBulkAll r
def uptoBulkEntries {H : Type} : List (Lit × DataW H) → Nat
  | [] => 0
  | x :: r => uptoBulkEntry x + uptoBulkEntries r
def uptoBulkEntry {H : Type} : Lit × DataW H → Nat
  | (.string bytes, d) => bytes.length + uptoBulk d + 1
  | (_, d) => uptoBulk d + 1
 end
def uptoSmall : (H : Type) → List (DataW H) → Bool := fun _ ds => decide (uptoBulkAll ds ≤ 1048576)
def OpenSpec.upto (s : _root_.Go.ChangeSpec) : _root_.Go.OpenSpec := { _root_.Go.OpenSpec.ofChange s with cond := some uptoSmall }

/-- 'platformfwlaw38.HeatConservation', WHERE WHAT IT READS IS OF BULK AT MOST 1048576: true; the input reads as it did. -/
def heatConservationUptoRow : OpenClaim := { program := "ytakaooegofiloaa", sum := "91af2bc59a2723adc6bc72350caea260d1b0adb5a5f72fb67fb4125a94611db9", func := "platformfw/platformfwlaw38.HeatConservation", spec := "heatConservation", unfollowed := true, recurses := true, apart := false, narrowed := true }
def HeatConservationUptoSaid : Prop := heatConservationUptoRow.holds Try.pinned (OpenSpec.upto heatConservationSpec)

/-- 'platformfwlaw38.HeatRelabeling', WHERE WHAT IT READS IS OF BULK AT MOST 1048576: true; the input reads as it did. -/
def heatRelabelingUptoRow : OpenClaim := { program := "ytakaooegofiloaa", sum := "91af2bc59a2723adc6bc72350caea260d1b0adb5a5f72fb67fb4125a94611db9", func := "platformfw/platformfwlaw38.HeatRelabeling", spec := "heatRelabeling", unfollowed := true, recurses := true, apart := false, narrowed := true }
def HeatRelabelingUptoSaid : Prop := heatRelabelingUptoRow.holds Try.pinned (OpenSpec.upto heatRelabelingSpec)

/-- 'platformfwlaw38.HeatCopies', WHERE WHAT IT READS IS OF BULK AT MOST 1048576: true; the input reads as it did. -/
def heatCopiesUptoRow : OpenClaim := { program := "ytakaooegofiloaa", sum := "91af2bc59a2723adc6bc72350caea260d1b0adb5a5f72fb67fb4125a94611db9", func := "platformfw/platformfwlaw38.HeatCopies", spec := "heatCopies", unfollowed := true, recurses := true, apart := false, narrowed := true }
def HeatCopiesUptoSaid : Prop := heatCopiesUptoRow.holds Try.pinned (OpenSpec.upto heatCopiesSpec)

/-- 'platformfwlaw38.HeatStepsAgree', WHERE WHAT IT READS IS OF BULK AT MOST 1048576: true; the input reads as it did. -/
def heatStepsAgreeUptoRow : OpenClaim := { program := "ytakaooegofiloaa", sum := "91af2bc59a2723adc6bc72350caea260d1b0adb5a5f72fb67fb4125a94611db9", func := "platformfw/platformfwlaw38.HeatStepsAgree", spec := "heatStepsAgree", unfollowed := true, recurses := true, apart := false, narrowed := true }
def HeatStepsAgreeUptoSaid : Prop := heatStepsAgreeUptoRow.holds Try.pinned (OpenSpec.upto heatStepsAgreeSpec)

/-- 'platformfwlaw38.HeatEquilibrium', WHERE WHAT IT READS IS OF BULK AT MOST 1048576: true; the input reads as it did. -/
def heatEquilibriumUptoRow : OpenClaim := { program := "ytakaooegofiloaa", sum := "91af2bc59a2723adc6bc72350caea260d1b0adb5a5f72fb67fb4125a94611db9", func := "platformfw/platformfwlaw38.HeatEquilibrium", spec := "heatEquilibrium", unfollowed := true, recurses := true, apart := false, narrowed := true }
def HeatEquilibriumUptoSaid : Prop := heatEquilibriumUptoRow.holds Try.pinned (OpenSpec.upto heatEquilibriumSpec)

/-- 'platformfwlaw38.HeatNewAgrees', WHERE WHAT IT READS IS OF BULK AT MOST 1048576: true; the input reads as it did. -/
def heatNewAgreesUptoRow : OpenClaim := { program := "ytakaooegofiloaa", sum := "91af2bc59a2723adc6bc72350caea260d1b0adb5a5f72fb67fb4125a94611db9", func := "platformfw/platformfwlaw38.HeatNewAgrees", spec := "heatNewAgrees", unfollowed := true, recurses := true, apart := false, narrowed := true }
def HeatNewAgreesUptoSaid : Prop := heatNewAgreesUptoRow.holds Try.pinned (OpenSpec.upto heatNewAgreesSpec)

/-- 'platformfwlaw38.HeatShift', WHERE WHAT IT READS IS OF BULK AT MOST 1048576: true; the input reads as it did. -/
def heatShiftUptoRow : OpenClaim := { program := "ytakaooegofiloaa", sum := "91af2bc59a2723adc6bc72350caea260d1b0adb5a5f72fb67fb4125a94611db9", func := "platformfw/platformfwlaw38.HeatShift", spec := "heatShift", unfollowed := true, recurses := true, apart := false, narrowed := true }
def HeatShiftUptoSaid : Prop := heatShiftUptoRow.holds Try.pinned (OpenSpec.upto heatShiftSpec)

/-- 'platformfwlaw38.HeatBoundHolds', WHERE WHAT IT READS IS OF BULK AT MOST 1048576: true; the input reads as it did. -/
def heatBoundHoldsUptoRow : OpenClaim := { program := "ytakaooegofiloaa", sum := "91af2bc59a2723adc6bc72350caea260d1b0adb5a5f72fb67fb4125a94611db9", func := "platformfw/platformfwlaw38.HeatBoundHolds", spec := "heatBoundHolds", unfollowed := true, recurses := true, apart := false, narrowed := true }
def HeatBoundHoldsUptoSaid : Prop := heatBoundHoldsUptoRow.holds Try.pinned (OpenSpec.upto heatBoundHoldsSpec)

end Rows
end Go.Proofs.Ytakaooegofiloaa
