/-
  No cell of these rows narrows 'for every input' (looked for: loops, veiled, ifaces, maps, wideKeys, modest, calm, conditions, laid).
  DERIVED. THE GIVEN ROWS OF THIS SEAT. 10 by the template 'for every input the law returns true; each argument reads behind the call as it read before'; 0 by the template 'total and deterministic' (their statements: YtmjfdknjloidoaaTotals.lean).
  GIVEN WITH THE SEED: the statements are not yours to turn. If you find one false, say at which input.
  Laid BY PROGRAM, IN A SANDBOX (cutbox-rows.mjs): the forced cells as the released guide's own fill.sh prints them over the translation 0734cb1a8b46f692… (all of the seat's roots in one cut). By AI agents, Wed Nov 11 2026. No macro, syntax, notation, axiom, sorry.
-/
import Derived.Test.YtmjfdknjloidoaaChecked
import GoSem.Claim
import GoSem.ClaimJoined
import GoSem.ClaimMapViews
import Derived.JoinedTies
import Derived.KernelRfl
namespace Go.Proofs.Ytmjfdknjloidoaa
/- THE CELL 'sum', in the pinned program and in every row, IS THE sha256 OF THE DUMP (.gsa) THAT YtmjfdknjloidoaaProg.lean LOADS. Nothing in Lean hashes anything: it is a label: what it is worth is what the hold of that sum in a sandbox is worth. -/
noncomputable def Try.pinned : Pinned := { name := "ytmjfdknjloidoaa", sum := "0734cb1a8b46f6926c45eb628cff17aacabc22ca78f3c6384d5f819ef50dbf48", checked := Try.checked }
namespace Rows
def none {H : Type} : Left H := { results := [], args := [] }

/-- 'platformfwlaw37.IdleSelectAgrees': WHATEVER THE INPUT: true; the input reads as it did. -/
def idleSelectAgreesSpec : ChangeSpec := { name := "idleSelectAgrees", fn := fun _ => fun
  | [d1, d2, d3, d4, d5] => { results := [.lit (.bool true)], args := [d1, d2, d3, d4, d5] }
  | _ => none }
def idleSelectAgreesRow : OpenClaim := { program := "ytmjfdknjloidoaa", sum := "0734cb1a8b46f6926c45eb628cff17aacabc22ca78f3c6384d5f819ef50dbf48", func := "platformfw/platformfwlaw37.IdleSelectAgrees", spec := "idleSelectAgrees", apart := false }
def IdleSelectAgreesSaid : Prop := idleSelectAgreesRow.holds Try.pinned (OpenSpec.ofChange idleSelectAgreesSpec)

/-- ITS FALSE NEIGHBOUR: 'it returns false'. Refute it at one input. -/
def idleSelectAgreesWrong : ChangeSpec := { name := "idleSelectAgrees", fn := fun _ => fun
  | [d1, d2, d3, d4, d5] => { results := [.lit (.bool false)], args := [d1, d2, d3, d4, d5] }
  | _ => none }
def IdleSelectAgreesWrongFalsely : Prop := idleSelectAgreesRow.holds Try.pinned (OpenSpec.ofChange idleSelectAgreesWrong)

/-- 'platformfwlaw37.IdleEnergyAgrees': WHATEVER THE INPUT: true; the input reads as it did. -/
def idleEnergyAgreesSpec : ChangeSpec := { name := "idleEnergyAgrees", fn := fun _ => fun
  | [d1, d2, d3] => { results := [.lit (.bool true)], args := [d1, d2, d3] }
  | _ => none }
def idleEnergyAgreesRow : OpenClaim := { program := "ytmjfdknjloidoaa", sum := "0734cb1a8b46f6926c45eb628cff17aacabc22ca78f3c6384d5f819ef50dbf48", func := "platformfw/platformfwlaw37.IdleEnergyAgrees", spec := "idleEnergyAgrees", apart := false }
def IdleEnergyAgreesSaid : Prop := idleEnergyAgreesRow.holds Try.pinned (OpenSpec.ofChange idleEnergyAgreesSpec)

/-- ITS FALSE NEIGHBOUR: 'it returns false'. Refute it at one input. -/
def idleEnergyAgreesWrong : ChangeSpec := { name := "idleEnergyAgrees", fn := fun _ => fun
  | [d1, d2, d3] => { results := [.lit (.bool false)], args := [d1, d2, d3] }
  | _ => none }
def IdleEnergyAgreesWrongFalsely : Prop := idleEnergyAgreesRow.holds Try.pinned (OpenSpec.ofChange idleEnergyAgreesWrong)

/-- 'platformfwlaw37.IdleSelectRespectsLimits': WHATEVER THE INPUT: true; the input reads as it did. -/
def idleSelectRespectsLimitsSpec : ChangeSpec := { name := "idleSelectRespectsLimits", fn := fun _ => fun
  | [d1, d2, d3] => { results := [.lit (.bool true)], args := [d1, d2, d3] }
  | _ => none }
def idleSelectRespectsLimitsRow : OpenClaim := { program := "ytmjfdknjloidoaa", sum := "0734cb1a8b46f6926c45eb628cff17aacabc22ca78f3c6384d5f819ef50dbf48", func := "platformfw/platformfwlaw37.IdleSelectRespectsLimits", spec := "idleSelectRespectsLimits", apart := false }
def IdleSelectRespectsLimitsSaid : Prop := idleSelectRespectsLimitsRow.holds Try.pinned (OpenSpec.ofChange idleSelectRespectsLimitsSpec)

/-- ITS FALSE NEIGHBOUR: 'it returns false'. Refute it at one input. -/
def idleSelectRespectsLimitsWrong : ChangeSpec := { name := "idleSelectRespectsLimits", fn := fun _ => fun
  | [d1, d2, d3] => { results := [.lit (.bool false)], args := [d1, d2, d3] }
  | _ => none }
def IdleSelectRespectsLimitsWrongFalsely : Prop := idleSelectRespectsLimitsRow.holds Try.pinned (OpenSpec.ofChange idleSelectRespectsLimitsWrong)

/-- 'platformfwlaw37.IdleSelectMinimizesEnergy': WHATEVER THE INPUT: true; the input reads as it did. -/
def idleSelectMinimizesEnergySpec : ChangeSpec := { name := "idleSelectMinimizesEnergy", fn := fun _ => fun
  | [d1, d2, d3] => { results := [.lit (.bool true)], args := [d1, d2, d3] }
  | _ => none }
def idleSelectMinimizesEnergyRow : OpenClaim := { program := "ytmjfdknjloidoaa", sum := "0734cb1a8b46f6926c45eb628cff17aacabc22ca78f3c6384d5f819ef50dbf48", func := "platformfw/platformfwlaw37.IdleSelectMinimizesEnergy", spec := "idleSelectMinimizesEnergy", apart := false }
def IdleSelectMinimizesEnergySaid : Prop := idleSelectMinimizesEnergyRow.holds Try.pinned (OpenSpec.ofChange idleSelectMinimizesEnergySpec)

/-- ITS FALSE NEIGHBOUR: 'it returns false'. Refute it at one input. -/
def idleSelectMinimizesEnergyWrong : ChangeSpec := { name := "idleSelectMinimizesEnergy", fn := fun _ => fun
  | [d1, d2, d3] => { results := [.lit (.bool false)], args := [d1, d2, d3] }
  | _ => none }
def IdleSelectMinimizesEnergyWrongFalsely : Prop := idleSelectMinimizesEnergyRow.holds Try.pinned (OpenSpec.ofChange idleSelectMinimizesEnergyWrong)

/-- 'platformfwlaw37.IdleBreakEven': WHATEVER THE INPUT: true; the input reads as it did. -/
def idleBreakEvenSpec : ChangeSpec := { name := "idleBreakEven", fn := fun _ => fun
  | [d1, d2, d3] => { results := [.lit (.bool true)], args := [d1, d2, d3] }
  | _ => none }
def idleBreakEvenRow : OpenClaim := { program := "ytmjfdknjloidoaa", sum := "0734cb1a8b46f6926c45eb628cff17aacabc22ca78f3c6384d5f819ef50dbf48", func := "platformfw/platformfwlaw37.IdleBreakEven", spec := "idleBreakEven", apart := false }
def IdleBreakEvenSaid : Prop := idleBreakEvenRow.holds Try.pinned (OpenSpec.ofChange idleBreakEvenSpec)

/-- ITS FALSE NEIGHBOUR: 'it returns false'. Refute it at one input. -/
def idleBreakEvenWrong : ChangeSpec := { name := "idleBreakEven", fn := fun _ => fun
  | [d1, d2, d3] => { results := [.lit (.bool false)], args := [d1, d2, d3] }
  | _ => none }
def IdleBreakEvenWrongFalsely : Prop := idleBreakEvenRow.holds Try.pinned (OpenSpec.ofChange idleBreakEvenWrong)

/-- 'platformfwlaw37.IdleLimitIsMinimum': WHATEVER THE INPUT: true; the input reads as it did. -/
def idleLimitIsMinimumSpec : ChangeSpec := { name := "idleLimitIsMinimum", fn := fun _ => fun
  | [d1, d2] => { results := [.lit (.bool true)], args := [d1, d2] }
  | _ => none }
def idleLimitIsMinimumRow : OpenClaim := { program := "ytmjfdknjloidoaa", sum := "0734cb1a8b46f6926c45eb628cff17aacabc22ca78f3c6384d5f819ef50dbf48", func := "platformfw/platformfwlaw37.IdleLimitIsMinimum", spec := "idleLimitIsMinimum", apart := false }
def IdleLimitIsMinimumSaid : Prop := idleLimitIsMinimumRow.holds Try.pinned (OpenSpec.ofChange idleLimitIsMinimumSpec)

/-- ITS FALSE NEIGHBOUR: 'it returns false'. Refute it at one input. -/
def idleLimitIsMinimumWrong : ChangeSpec := { name := "idleLimitIsMinimum", fn := fun _ => fun
  | [d1, d2] => { results := [.lit (.bool false)], args := [d1, d2] }
  | _ => none }
def IdleLimitIsMinimumWrongFalsely : Prop := idleLimitIsMinimumRow.holds Try.pinned (OpenSpec.ofChange idleLimitIsMinimumWrong)

/-- 'platformfwlaw37.IdleLimitsAgree': WHATEVER THE INPUT: true; the input reads as it did. -/
def idleLimitsAgreeSpec : ChangeSpec := { name := "idleLimitsAgree", fn := fun _ => fun
  | [d] => { results := [.lit (.bool true)], args := [d] }
  | _ => none }
def idleLimitsAgreeRow : OpenClaim := { program := "ytmjfdknjloidoaa", sum := "0734cb1a8b46f6926c45eb628cff17aacabc22ca78f3c6384d5f819ef50dbf48", func := "platformfw/platformfwlaw37.IdleLimitsAgree", spec := "idleLimitsAgree", apart := false }
def IdleLimitsAgreeSaid : Prop := idleLimitsAgreeRow.holds Try.pinned (OpenSpec.ofChange idleLimitsAgreeSpec)

/-- ITS FALSE NEIGHBOUR: 'it returns false'. Refute it at one input. -/
def idleLimitsAgreeWrong : ChangeSpec := { name := "idleLimitsAgree", fn := fun _ => fun
  | [d] => { results := [.lit (.bool false)], args := [d] }
  | _ => none }
def IdleLimitsAgreeWrongFalsely : Prop := idleLimitsAgreeRow.holds Try.pinned (OpenSpec.ofChange idleLimitsAgreeWrong)

/-- 'platformfwlaw37.IdleTighterIsShallower': WHATEVER THE INPUT: true; the input reads as it did. -/
def idleTighterIsShallowerSpec : ChangeSpec := { name := "idleTighterIsShallower", fn := fun _ => fun
  | [d1, d2, d3, d4, d5] => { results := [.lit (.bool true)], args := [d1, d2, d3, d4, d5] }
  | _ => none }
def idleTighterIsShallowerRow : OpenClaim := { program := "ytmjfdknjloidoaa", sum := "0734cb1a8b46f6926c45eb628cff17aacabc22ca78f3c6384d5f819ef50dbf48", func := "platformfw/platformfwlaw37.IdleTighterIsShallower", spec := "idleTighterIsShallower", apart := false }
def IdleTighterIsShallowerSaid : Prop := idleTighterIsShallowerRow.holds Try.pinned (OpenSpec.ofChange idleTighterIsShallowerSpec)

/-- ITS FALSE NEIGHBOUR: 'it returns false'. Refute it at one input. -/
def idleTighterIsShallowerWrong : ChangeSpec := { name := "idleTighterIsShallower", fn := fun _ => fun
  | [d1, d2, d3, d4, d5] => { results := [.lit (.bool false)], args := [d1, d2, d3, d4, d5] }
  | _ => none }
def IdleTighterIsShallowerWrongFalsely : Prop := idleTighterIsShallowerRow.holds Try.pinned (OpenSpec.ofChange idleTighterIsShallowerWrong)

/-- 'platformfwlaw37.IdlePredictorAgrees': WHATEVER THE INPUT: true; the input reads as it did. -/
def idlePredictorAgreesSpec : ChangeSpec := { name := "idlePredictorAgrees", fn := fun _ => fun
  | [d1, d2] => { results := [.lit (.bool true)], args := [d1, d2] }
  | _ => none }
def idlePredictorAgreesRow : OpenClaim := { program := "ytmjfdknjloidoaa", sum := "0734cb1a8b46f6926c45eb628cff17aacabc22ca78f3c6384d5f819ef50dbf48", func := "platformfw/platformfwlaw37.IdlePredictorAgrees", spec := "idlePredictorAgrees", apart := false }
def IdlePredictorAgreesSaid : Prop := idlePredictorAgreesRow.holds Try.pinned (OpenSpec.ofChange idlePredictorAgreesSpec)

/-- ITS FALSE NEIGHBOUR: 'it returns false'. Refute it at one input. -/
def idlePredictorAgreesWrong : ChangeSpec := { name := "idlePredictorAgrees", fn := fun _ => fun
  | [d1, d2] => { results := [.lit (.bool false)], args := [d1, d2] }
  | _ => none }
def IdlePredictorAgreesWrongFalsely : Prop := idlePredictorAgreesRow.holds Try.pinned (OpenSpec.ofChange idlePredictorAgreesWrong)

/-- 'platformfwlaw37.IdlePredictorBounds': WHATEVER THE INPUT: true; the input reads as it did. -/
def idlePredictorBoundsSpec : ChangeSpec := { name := "idlePredictorBounds", fn := fun _ => fun
  | [d1, d2, d3] => { results := [.lit (.bool true)], args := [d1, d2, d3] }
  | _ => none }
def idlePredictorBoundsRow : OpenClaim := { program := "ytmjfdknjloidoaa", sum := "0734cb1a8b46f6926c45eb628cff17aacabc22ca78f3c6384d5f819ef50dbf48", func := "platformfw/platformfwlaw37.IdlePredictorBounds", spec := "idlePredictorBounds", apart := false }
def IdlePredictorBoundsSaid : Prop := idlePredictorBoundsRow.holds Try.pinned (OpenSpec.ofChange idlePredictorBoundsSpec)

/-- ITS FALSE NEIGHBOUR: 'it returns false'. Refute it at one input. -/
def idlePredictorBoundsWrong : ChangeSpec := { name := "idlePredictorBounds", fn := fun _ => fun
  | [d1, d2, d3] => { results := [.lit (.bool false)], args := [d1, d2, d3] }
  | _ => none }
def IdlePredictorBoundsWrongFalsely : Prop := idlePredictorBoundsRow.holds Try.pinned (OpenSpec.ofChange idlePredictorBoundsWrong)

/- THE SECOND FORM. 'bulk': how many values and letters a reading holds, each counted each time it is reached (what is shared counts as often as it is met; a slice's spare places count too). A statement '..UptoSaid' is the law's where the arguments, and the package variables that the reading takes, are together of bulk at most 1048576: NARROWER than '..Said'. Prove '..Said' where nothing that the law and all that it calls make is longer than what came in: it says more and counts as full. Else prove '..UptoSaid'. A law counts once. -/
mutual
def uptoBulk {H : Type} : DataW H → Nat
  | .lit (.string bytes) => bytes.length + 1
  | .lit _ => 1
  | .nil => 1
  | .ptr d => uptoBulk d + 1
  | .slice elems spare => uptoBulkAll elems + uptoBulkAll spare + 1
  | .agg parts => uptoBulkAll parts + 1
  | .iface _ d => uptoBulk d + 1
  | .map entries => uptoBulkEntries entries + 1
  | .held _ => 1
def uptoBulkAll {H : Type} : List (DataW H) → Nat
  | [] => 0
  | d :: r => uptoBulk d + uptoBulkAll r
def uptoBulkEntries {H : Type} : List (Lit × DataW H) → Nat
  | [] => 0
  | x :: r => uptoBulkEntry x + uptoBulkEntries r
def uptoBulkEntry {H : Type} : Lit × DataW H → Nat
  | (.string bytes, d) => bytes.length + uptoBulk d + 1
  | (_, d) => uptoBulk d + 1
 end
def uptoSmall : (H : Type) → List (DataW H) → Bool := fun _ ds => decide (uptoBulkAll ds ≤ 1048576)
def OpenSpec.upto (s : _root_.Go.ChangeSpec) : _root_.Go.OpenSpec := { _root_.Go.OpenSpec.ofChange s with cond := some uptoSmall }

/-- 'platformfwlaw37.IdleSelectAgrees', WHERE WHAT IT READS IS OF BULK AT MOST 1048576: true; the input reads as it did. -/
def idleSelectAgreesUptoRow : OpenClaim := { program := "ytmjfdknjloidoaa", sum := "0734cb1a8b46f6926c45eb628cff17aacabc22ca78f3c6384d5f819ef50dbf48", func := "platformfw/platformfwlaw37.IdleSelectAgrees", spec := "idleSelectAgrees", apart := false, narrowed := true }
def IdleSelectAgreesUptoSaid : Prop := idleSelectAgreesUptoRow.holds Try.pinned (OpenSpec.upto idleSelectAgreesSpec)

/-- 'platformfwlaw37.IdleEnergyAgrees', WHERE WHAT IT READS IS OF BULK AT MOST 1048576: true; the input reads as it did. -/
def idleEnergyAgreesUptoRow : OpenClaim := { program := "ytmjfdknjloidoaa", sum := "0734cb1a8b46f6926c45eb628cff17aacabc22ca78f3c6384d5f819ef50dbf48", func := "platformfw/platformfwlaw37.IdleEnergyAgrees", spec := "idleEnergyAgrees", apart := false, narrowed := true }
def IdleEnergyAgreesUptoSaid : Prop := idleEnergyAgreesUptoRow.holds Try.pinned (OpenSpec.upto idleEnergyAgreesSpec)

/-- 'platformfwlaw37.IdleSelectRespectsLimits', WHERE WHAT IT READS IS OF BULK AT MOST 1048576: true; the input reads as it did. -/
def idleSelectRespectsLimitsUptoRow : OpenClaim := { program := "ytmjfdknjloidoaa", sum := "0734cb1a8b46f6926c45eb628cff17aacabc22ca78f3c6384d5f819ef50dbf48", func := "platformfw/platformfwlaw37.IdleSelectRespectsLimits", spec := "idleSelectRespectsLimits", apart := false, narrowed := true }
def IdleSelectRespectsLimitsUptoSaid : Prop := idleSelectRespectsLimitsUptoRow.holds Try.pinned (OpenSpec.upto idleSelectRespectsLimitsSpec)

/-- 'platformfwlaw37.IdleSelectMinimizesEnergy', WHERE WHAT IT READS IS OF BULK AT MOST 1048576: true; the input reads as it did. -/
def idleSelectMinimizesEnergyUptoRow : OpenClaim := { program := "ytmjfdknjloidoaa", sum := "0734cb1a8b46f6926c45eb628cff17aacabc22ca78f3c6384d5f819ef50dbf48", func := "platformfw/platformfwlaw37.IdleSelectMinimizesEnergy", spec := "idleSelectMinimizesEnergy", apart := false, narrowed := true }
def IdleSelectMinimizesEnergyUptoSaid : Prop := idleSelectMinimizesEnergyUptoRow.holds Try.pinned (OpenSpec.upto idleSelectMinimizesEnergySpec)

/-- 'platformfwlaw37.IdleBreakEven', WHERE WHAT IT READS IS OF BULK AT MOST 1048576: true; the input reads as it did. -/
def idleBreakEvenUptoRow : OpenClaim := { program := "ytmjfdknjloidoaa", sum := "0734cb1a8b46f6926c45eb628cff17aacabc22ca78f3c6384d5f819ef50dbf48", func := "platformfw/platformfwlaw37.IdleBreakEven", spec := "idleBreakEven", apart := false, narrowed := true }
def IdleBreakEvenUptoSaid : Prop := idleBreakEvenUptoRow.holds Try.pinned (OpenSpec.upto idleBreakEvenSpec)

/-- 'platformfwlaw37.IdleLimitIsMinimum', WHERE WHAT IT READS IS OF BULK AT MOST 1048576: true; the input reads as it did. -/
def idleLimitIsMinimumUptoRow : OpenClaim := { program := "ytmjfdknjloidoaa", sum := "0734cb1a8b46f6926c45eb628cff17aacabc22ca78f3c6384d5f819ef50dbf48", func := "platformfw/platformfwlaw37.IdleLimitIsMinimum", spec := "idleLimitIsMinimum", apart := false, narrowed := true }
def IdleLimitIsMinimumUptoSaid : Prop := idleLimitIsMinimumUptoRow.holds Try.pinned (OpenSpec.upto idleLimitIsMinimumSpec)

/-- 'platformfwlaw37.IdleLimitsAgree', WHERE WHAT IT READS IS OF BULK AT MOST 1048576: true; the input reads as it did. -/
def idleLimitsAgreeUptoRow : OpenClaim := { program := "ytmjfdknjloidoaa", sum := "0734cb1a8b46f6926c45eb628cff17aacabc22ca78f3c6384d5f819ef50dbf48", func := "platformfw/platformfwlaw37.IdleLimitsAgree", spec := "idleLimitsAgree", apart := false, narrowed := true }
def IdleLimitsAgreeUptoSaid : Prop := idleLimitsAgreeUptoRow.holds Try.pinned (OpenSpec.upto idleLimitsAgreeSpec)

/-- 'platformfwlaw37.IdleTighterIsShallower', WHERE WHAT IT READS IS OF BULK AT MOST 1048576: true; the input reads as it did. -/
def idleTighterIsShallowerUptoRow : OpenClaim := { program := "ytmjfdknjloidoaa", sum := "0734cb1a8b46f6926c45eb628cff17aacabc22ca78f3c6384d5f819ef50dbf48", func := "platformfw/platformfwlaw37.IdleTighterIsShallower", spec := "idleTighterIsShallower", apart := false, narrowed := true }
def IdleTighterIsShallowerUptoSaid : Prop := idleTighterIsShallowerUptoRow.holds Try.pinned (OpenSpec.upto idleTighterIsShallowerSpec)

/-- 'platformfwlaw37.IdlePredictorAgrees', WHERE WHAT IT READS IS OF BULK AT MOST 1048576: true; the input reads as it did. -/
def idlePredictorAgreesUptoRow : OpenClaim := { program := "ytmjfdknjloidoaa", sum := "0734cb1a8b46f6926c45eb628cff17aacabc22ca78f3c6384d5f819ef50dbf48", func := "platformfw/platformfwlaw37.IdlePredictorAgrees", spec := "idlePredictorAgrees", apart := false, narrowed := true }
def IdlePredictorAgreesUptoSaid : Prop := idlePredictorAgreesUptoRow.holds Try.pinned (OpenSpec.upto idlePredictorAgreesSpec)

/-- 'platformfwlaw37.IdlePredictorBounds', WHERE WHAT IT READS IS OF BULK AT MOST 1048576: true; the input reads as it did. -/
def idlePredictorBoundsUptoRow : OpenClaim := { program := "ytmjfdknjloidoaa", sum := "0734cb1a8b46f6926c45eb628cff17aacabc22ca78f3c6384d5f819ef50dbf48", func := "platformfw/platformfwlaw37.IdlePredictorBounds", spec := "idlePredictorBounds", apart := false, narrowed := true }
def IdlePredictorBoundsUptoSaid : Prop := idlePredictorBoundsUptoRow.holds Try.pinned (OpenSpec.upto idlePredictorBoundsSpec)

end Rows
end Go.Proofs.Ytmjfdknjloidoaa
