/-
  No cell of these rows narrows 'for every input' (looked for: loops, veiled, ifaces, maps, wideKeys, modest, calm, conditions, laid).
  DERIVED. THE GIVEN ROWS OF THIS SEAT. 6 by the template 'for every input the law returns true; each argument reads behind the call as it read before'; 0 by the template 'total and deterministic' (their statements: YtannodkbindlbaaTotals.lean).
  GIVEN WITH THE SEED: the statements are not yours to turn. If you find one false, say at which input.
  Laid BY PROGRAM, IN A SANDBOX (cutbox-rows.mjs): the forced cells as the released guide's own fill.sh prints them over the translation bedecfeb79a76592… (all of the seat's roots in one cut). By AI agents, Wed Nov 11 2026. No macro, syntax, notation, axiom, sorry.
-/
import Derived.Test.YtannodkbindlbaaChecked
import GoSem.Claim
import GoSem.ClaimJoined
import GoSem.ClaimMapViews
import Derived.JoinedTies
import Derived.KernelRfl
namespace Go.Proofs.Ytannodkbindlbaa
/- THE CELL 'sum', in the pinned program and in every row, IS THE sha256 OF THE DUMP (.gsa) THAT YtannodkbindlbaaProg.lean LOADS. Nothing in Lean hashes anything: it is a label: what it is worth is what the hold of that sum in a sandbox is worth. -/
noncomputable def Try.pinned : Pinned := { name := "ytannodkbindlbaa", sum := "bedecfeb79a76592ea427bec18b014ca8f85c8a806358c3caf638c4049d642fe", checked := Try.checked }
namespace Rows
def none {H : Type} : Left H := { results := [], args := [] }

/-- 'platformfwlaw39.ThermalThrottle': WHATEVER THE INPUT: true; the input reads as it did. -/
def thermalThrottleSpec : ChangeSpec := { name := "thermalThrottle", fn := fun _ => fun
  | [d1, d2] => { results := [.lit (.bool true)], args := [d1, d2] }
  | _ => none }
def thermalThrottleRow : OpenClaim := { program := "ytannodkbindlbaa", sum := "bedecfeb79a76592ea427bec18b014ca8f85c8a806358c3caf638c4049d642fe", func := "platformfw/platformfwlaw39.ThermalThrottle", spec := "thermalThrottle", unfollowed := true, recurses := true, apart := false }
def ThermalThrottleSaid : Prop := thermalThrottleRow.holds Try.pinned (OpenSpec.ofChange thermalThrottleSpec)

/-- ITS FALSE NEIGHBOUR: 'it returns false'. Refute it at one input. -/
def thermalThrottleWrong : ChangeSpec := { name := "thermalThrottle", fn := fun _ => fun
  | [d1, d2] => { results := [.lit (.bool false)], args := [d1, d2] }
  | _ => none }
def ThermalThrottleWrongFalsely : Prop := thermalThrottleRow.holds Try.pinned (OpenSpec.ofChange thermalThrottleWrong)

/-- 'platformfwlaw39.ThermalKeepsLimit': WHATEVER THE INPUT: true; the input reads as it did. -/
def thermalKeepsLimitSpec : ChangeSpec := { name := "thermalKeepsLimit", fn := fun _ => fun
  | [d1, d2, d3, d4] => { results := [.lit (.bool true)], args := [d1, d2, d3, d4] }
  | _ => none }
def thermalKeepsLimitRow : OpenClaim := { program := "ytannodkbindlbaa", sum := "bedecfeb79a76592ea427bec18b014ca8f85c8a806358c3caf638c4049d642fe", func := "platformfw/platformfwlaw39.ThermalKeepsLimit", spec := "thermalKeepsLimit", unfollowed := true, recurses := true, apart := false }
def ThermalKeepsLimitSaid : Prop := thermalKeepsLimitRow.holds Try.pinned (OpenSpec.ofChange thermalKeepsLimitSpec)

/-- ITS FALSE NEIGHBOUR: 'it returns false'. Refute it at one input. -/
def thermalKeepsLimitWrong : ChangeSpec := { name := "thermalKeepsLimit", fn := fun _ => fun
  | [d1, d2, d3, d4] => { results := [.lit (.bool false)], args := [d1, d2, d3, d4] }
  | _ => none }
def ThermalKeepsLimitWrongFalsely : Prop := thermalKeepsLimitRow.holds Try.pinned (OpenSpec.ofChange thermalKeepsLimitWrong)

/-- 'platformfwlaw39.ThermalOvershootIsBounded': WHATEVER THE INPUT: true; the input reads as it did. -/
def thermalOvershootIsBoundedSpec : ChangeSpec := { name := "thermalOvershootIsBounded", fn := fun _ => fun
  | [d1, d2, d3, d4, d5, d6, d7] => { results := [.lit (.bool true)], args := [d1, d2, d3, d4, d5, d6, d7] }
  | _ => none }
def thermalOvershootIsBoundedRow : OpenClaim := { program := "ytannodkbindlbaa", sum := "bedecfeb79a76592ea427bec18b014ca8f85c8a806358c3caf638c4049d642fe", func := "platformfw/platformfwlaw39.ThermalOvershootIsBounded", spec := "thermalOvershootIsBounded", unfollowed := true, recurses := true, apart := false }
def ThermalOvershootIsBoundedSaid : Prop := thermalOvershootIsBoundedRow.holds Try.pinned (OpenSpec.ofChange thermalOvershootIsBoundedSpec)

/-- ITS FALSE NEIGHBOUR: 'it returns false'. Refute it at one input. -/
def thermalOvershootIsBoundedWrong : ChangeSpec := { name := "thermalOvershootIsBounded", fn := fun _ => fun
  | [d1, d2, d3, d4, d5, d6, d7] => { results := [.lit (.bool false)], args := [d1, d2, d3, d4, d5, d6, d7] }
  | _ => none }
def ThermalOvershootIsBoundedWrongFalsely : Prop := thermalOvershootIsBoundedRow.holds Try.pinned (OpenSpec.ofChange thermalOvershootIsBoundedWrong)

/-- 'platformfwlaw39.ThermalBudgetKeepsLimit': WHATEVER THE INPUT: true; the input reads as it did. -/
def thermalBudgetKeepsLimitSpec : ChangeSpec := { name := "thermalBudgetKeepsLimit", fn := fun _ => fun
  | [d1, d2, d3, d4, d5] => { results := [.lit (.bool true)], args := [d1, d2, d3, d4, d5] }
  | _ => none }
def thermalBudgetKeepsLimitRow : OpenClaim := { program := "ytannodkbindlbaa", sum := "bedecfeb79a76592ea427bec18b014ca8f85c8a806358c3caf638c4049d642fe", func := "platformfw/platformfwlaw39.ThermalBudgetKeepsLimit", spec := "thermalBudgetKeepsLimit", unfollowed := true, recurses := true, apart := false }
def ThermalBudgetKeepsLimitSaid : Prop := thermalBudgetKeepsLimitRow.holds Try.pinned (OpenSpec.ofChange thermalBudgetKeepsLimitSpec)

/-- ITS FALSE NEIGHBOUR: 'it returns false'. Refute it at one input. -/
def thermalBudgetKeepsLimitWrong : ChangeSpec := { name := "thermalBudgetKeepsLimit", fn := fun _ => fun
  | [d1, d2, d3, d4, d5] => { results := [.lit (.bool false)], args := [d1, d2, d3, d4, d5] }
  | _ => none }
def ThermalBudgetKeepsLimitWrongFalsely : Prop := thermalBudgetKeepsLimitRow.holds Try.pinned (OpenSpec.ofChange thermalBudgetKeepsLimitWrong)

/-- 'platformfwlaw39.ThermalDomainsKeepLimit': WHATEVER THE INPUT: true; the input reads as it did. -/
def thermalDomainsKeepLimitSpec : ChangeSpec := { name := "thermalDomainsKeepLimit", fn := fun _ => fun
  | [d1, d2, d3, d4, d5, d6] => { results := [.lit (.bool true)], args := [d1, d2, d3, d4, d5, d6] }
  | _ => none }
def thermalDomainsKeepLimitRow : OpenClaim := { program := "ytannodkbindlbaa", sum := "bedecfeb79a76592ea427bec18b014ca8f85c8a806358c3caf638c4049d642fe", func := "platformfw/platformfwlaw39.ThermalDomainsKeepLimit", spec := "thermalDomainsKeepLimit", unfollowed := true, recurses := true, apart := false }
def ThermalDomainsKeepLimitSaid : Prop := thermalDomainsKeepLimitRow.holds Try.pinned (OpenSpec.ofChange thermalDomainsKeepLimitSpec)

/-- ITS FALSE NEIGHBOUR: 'it returns false'. Refute it at one input. -/
def thermalDomainsKeepLimitWrong : ChangeSpec := { name := "thermalDomainsKeepLimit", fn := fun _ => fun
  | [d1, d2, d3, d4, d5, d6] => { results := [.lit (.bool false)], args := [d1, d2, d3, d4, d5, d6] }
  | _ => none }
def ThermalDomainsKeepLimitWrongFalsely : Prop := thermalDomainsKeepLimitRow.holds Try.pinned (OpenSpec.ofChange thermalDomainsKeepLimitWrong)

/-- 'platformfwlaw39.ThermalThrottledGovernor': WHATEVER THE INPUT: true; the input reads as it did. -/
def thermalThrottledGovernorSpec : ChangeSpec := { name := "thermalThrottledGovernor", fn := fun _ => fun
  | [d1, d2, d3, d4, d5] => { results := [.lit (.bool true)], args := [d1, d2, d3, d4, d5] }
  | _ => none }
def thermalThrottledGovernorRow : OpenClaim := { program := "ytannodkbindlbaa", sum := "bedecfeb79a76592ea427bec18b014ca8f85c8a806358c3caf638c4049d642fe", func := "platformfw/platformfwlaw39.ThermalThrottledGovernor", spec := "thermalThrottledGovernor", unfollowed := true, recurses := true, apart := false }
def ThermalThrottledGovernorSaid : Prop := thermalThrottledGovernorRow.holds Try.pinned (OpenSpec.ofChange thermalThrottledGovernorSpec)

/-- ITS FALSE NEIGHBOUR: 'it returns false'. Refute it at one input. -/
def thermalThrottledGovernorWrong : ChangeSpec := { name := "thermalThrottledGovernor", fn := fun _ => fun
  | [d1, d2, d3, d4, d5] => { results := [.lit (.bool false)], args := [d1, d2, d3, d4, d5] }
  | _ => none }
def ThermalThrottledGovernorWrongFalsely : Prop := thermalThrottledGovernorRow.holds Try.pinned (OpenSpec.ofChange thermalThrottledGovernorWrong)

/- THE SECOND FORM. 'bulk': how many values and letters a reading holds, each counted each time it is reached (what is shared counts as often as it is met; a slice's spare places count too). A statement '..UptoSaid' is the law's where the arguments, and the package variables that the reading takes, are together of bulk at most 1048576: NARROWER than '..Said'. Prove '..Said' where nothing that the law and all that it calls make is longer than what came in: it says more and counts as full. Else prove '..UptoSaid'. A law counts once. -/
mutual
def uptoBulk {H : Type} : DataW H → Nat
  | .lit (.string bytes) => bytes.length + 1
  | .lit _ => 1
  | .nil => 1
  | .ptr d => uptoBulk d + 1
  | .slice elems spare => uptoBulkAll elems + uptoBulkAll spare + 1
  | .agg parts => uptoBulkAll parts + 1
  | .iface _ d => uptoBulk d + 1
  | .map entries => uptoBulkEntries entries + 1
  | .held _ => 1
def uptoBulkAll {H : Type} : List (DataW H) → Nat
  | [] => 0
  | d :: r => uptoBulk d + uptoBulkAll r
def uptoBulkEntries {H : Type} : List (Lit × DataW H) → Nat
  | [] => 0
  | x :: r => uptoBulkEntry x + uptoBulkEntries r
def uptoBulkEntry {H : Type} : Lit × DataW H → Nat
  | (.string bytes, d) => bytes.length + uptoBulk d + 1
  | (_, d) => uptoBulk d + 1
 end
def uptoSmall : (H : Type) → List (DataW H) → Bool := fun _ ds => decide (uptoBulkAll ds ≤ 1048576)
def OpenSpec.upto (s : _root_.Go.ChangeSpec) : _root_.Go.OpenSpec := { _root_.Go.OpenSpec.ofChange s with cond := some uptoSmall }

/-- 'platformfwlaw39.ThermalThrottle', WHERE WHAT IT READS IS OF BULK AT MOST 1048576: true; the input reads as it did. -/
def thermalThrottleUptoRow : OpenClaim := { program := "ytannodkbindlbaa", sum := "bedecfeb79a76592ea427bec18b014ca8f85c8a806358c3caf638c4049d642fe", func := "platformfw/platformfwlaw39.ThermalThrottle", spec := "thermalThrottle", unfollowed := true, recurses := true, apart := false, narrowed := true }
def ThermalThrottleUptoSaid : Prop := thermalThrottleUptoRow.holds Try.pinned (OpenSpec.upto thermalThrottleSpec)

/-- 'platformfwlaw39.ThermalKeepsLimit', WHERE WHAT IT READS IS OF BULK AT MOST 1048576: true; the input reads as it did. -/
def thermalKeepsLimitUptoRow : OpenClaim := { program := "ytannodkbindlbaa", sum := "bedecfeb79a76592ea427bec18b014ca8f85c8a806358c3caf638c4049d642fe", func := "platformfw/platformfwlaw39.ThermalKeepsLimit", spec := "thermalKeepsLimit", unfollowed := true, recurses := true, apart := false, narrowed := true }
def ThermalKeepsLimitUptoSaid : Prop := thermalKeepsLimitUptoRow.holds Try.pinned (OpenSpec.upto thermalKeepsLimitSpec)

/-- 'platformfwlaw39.ThermalOvershootIsBounded', WHERE WHAT IT READS IS OF BULK AT MOST 1048576: true; the input reads as it did. -/
def thermalOvershootIsBoundedUptoRow : OpenClaim := { program := "ytannodkbindlbaa", sum := "bedecfeb79a76592ea427bec18b014ca8f85c8a806358c3caf638c4049d642fe", func := "platformfw/platformfwlaw39.ThermalOvershootIsBounded", spec := "thermalOvershootIsBounded", unfollowed := true, recurses := true, apart := false, narrowed := true }
def ThermalOvershootIsBoundedUptoSaid : Prop := thermalOvershootIsBoundedUptoRow.holds Try.pinned (OpenSpec.upto thermalOvershootIsBoundedSpec)

/-- 'platformfwlaw39.ThermalBudgetKeepsLimit', WHERE WHAT IT READS IS OF BULK AT MOST 1048576: true; the input reads as it did. -/
def thermalBudgetKeepsLimitUptoRow : OpenClaim := { program := "ytannodkbindlbaa", sum := "bedecfeb79a76592ea427bec18b014ca8f85c8a806358c3caf638c4049d642fe", func := "platformfw/platformfwlaw39.ThermalBudgetKeepsLimit", spec := "thermalBudgetKeepsLimit", unfollowed := true, recurses := true, apart := false, narrowed := true }
def ThermalBudgetKeepsLimitUptoSaid : Prop := thermalBudgetKeepsLimitUptoRow.holds Try.pinned (OpenSpec.upto thermalBudgetKeepsLimitSpec)

/-- 'platformfwlaw39.ThermalDomainsKeepLimit', WHERE WHAT IT READS IS OF BULK AT MOST 1048576: true; the input reads as it did. -/
def thermalDomainsKeepLimitUptoRow : OpenClaim := { program := "ytannodkbindlbaa", sum := "bedecfeb79a76592ea427bec18b014ca8f85c8a806358c3caf638c4049d642fe", func := "platformfw/platformfwlaw39.ThermalDomainsKeepLimit", spec := "thermalDomainsKeepLimit", unfollowed := true, recurses := true, apart := false, narrowed := true }
def ThermalDomainsKeepLimitUptoSaid : Prop := thermalDomainsKeepLimitUptoRow.holds Try.pinned (OpenSpec.upto thermalDomainsKeepLimitSpec)

/-- 'platformfwlaw39.ThermalThrottledGovernor', WHERE WHAT IT READS IS OF BULK AT MOST 1048576: true; the input reads as it did. -/
def thermalThrottledGovernorUptoRow : OpenClaim := { program := "ytannodkbindlbaa", sum := "bedecfeb79a76592ea427bec18b014ca8f85c8a806358c3caf638c4049d642fe", func := "platformfw/platformfwlaw39.ThermalThrottledGovernor", spec := "thermalThrottledGovernor", unfollowed := true, recurses := true, apart := false, narrowed := true }
def ThermalThrottledGovernorUptoSaid : Prop := thermalThrottledGovernorUptoRow.holds Try.pinned (OpenSpec.upto thermalThrottledGovernorSpec)

end Rows
end Go.Proofs.Ytannodkbindlbaa
