/-
  No cell of these rows narrows 'for every input' (looked for: loops, veiled, ifaces, maps, wideKeys, modest, calm, conditions, laid).
  DERIVED. THE GIVEN ROWS OF THIS SEAT. 7 by the template 'for every input the law returns true; each argument reads behind the call as it read before'; 0 by the template 'total and deterministic' (their statements: YtkcmohmnmapnbaaTotals.lean).
  GIVEN WITH THE SEED: the statements are not yours to turn. If you find one false, say at which input.
  Laid BY PROGRAM, IN A SANDBOX (cutbox-rows.mjs): the forced cells as the released guide's own fill.sh prints them over the translation d00aceb6a8812c1e… (all of the seat's roots in one cut). By AI agents, Wed Nov 11 2026. No macro, syntax, notation, axiom, sorry.
-/
import Derived.Test.YtkcmohmnmapnbaaChecked
import GoSem.Claim
import GoSem.ClaimJoined
import GoSem.ClaimMapViews
import Derived.JoinedTies
import Derived.KernelRfl
namespace Go.Proofs.Ytkcmohmnmapnbaa
/- THE CELL 'sum', in the pinned program and in every row, IS THE sha256 OF THE DUMP (.gsa) THAT YtkcmohmnmapnbaaProg.lean LOADS. Nothing in Lean hashes anything: it is a label: what it is worth is what the hold of that sum in a sandbox is worth. -/
noncomputable def Try.pinned : Pinned := { name := "ytkcmohmnmapnbaa", sum := "d00aceb6a8812c1e308838df4382912b4c293e3f7387f648ca8f68782e426d96", checked := Try.checked }
namespace Rows
def none {H : Type} : Left H := { results := [], args := [] }

/-- 'platformfwlaw39.ThermalTripsAgree': WHATEVER THE INPUT: true; the input reads as it did. -/
def thermalTripsAgreeSpec : ChangeSpec := { name := "thermalTripsAgree", fn := fun _ => fun
  | [d1, d2, d3, d4] => { results := [.lit (.bool true)], args := [d1, d2, d3, d4] }
  | _ => none }
def thermalTripsAgreeRow : OpenClaim := { program := "ytkcmohmnmapnbaa", sum := "d00aceb6a8812c1e308838df4382912b4c293e3f7387f648ca8f68782e426d96", func := "platformfw/platformfwlaw39.ThermalTripsAgree", spec := "thermalTripsAgree", unfollowed := true, recurses := true, apart := false }
def ThermalTripsAgreeSaid : Prop := thermalTripsAgreeRow.holds Try.pinned (OpenSpec.ofChange thermalTripsAgreeSpec)

/-- ITS FALSE NEIGHBOUR: 'it returns false'. Refute it at one input. -/
def thermalTripsAgreeWrong : ChangeSpec := { name := "thermalTripsAgree", fn := fun _ => fun
  | [d1, d2, d3, d4] => { results := [.lit (.bool false)], args := [d1, d2, d3, d4] }
  | _ => none }
def ThermalTripsAgreeWrongFalsely : Prop := thermalTripsAgreeRow.holds Try.pinned (OpenSpec.ofChange thermalTripsAgreeWrong)

/-- 'platformfwlaw39.ThermalAllocateAgrees': WHATEVER THE INPUT: true; the input reads as it did. -/
def thermalAllocateAgreesSpec : ChangeSpec := { name := "thermalAllocateAgrees", fn := fun _ => fun
  | [d1, d2] => { results := [.lit (.bool true)], args := [d1, d2] }
  | _ => none }
def thermalAllocateAgreesRow : OpenClaim := { program := "ytkcmohmnmapnbaa", sum := "d00aceb6a8812c1e308838df4382912b4c293e3f7387f648ca8f68782e426d96", func := "platformfw/platformfwlaw39.ThermalAllocateAgrees", spec := "thermalAllocateAgrees", unfollowed := true, recurses := true, apart := false }
def ThermalAllocateAgreesSaid : Prop := thermalAllocateAgreesRow.holds Try.pinned (OpenSpec.ofChange thermalAllocateAgreesSpec)

/-- ITS FALSE NEIGHBOUR: 'it returns false'. Refute it at one input. -/
def thermalAllocateAgreesWrong : ChangeSpec := { name := "thermalAllocateAgrees", fn := fun _ => fun
  | [d1, d2] => { results := [.lit (.bool false)], args := [d1, d2] }
  | _ => none }
def ThermalAllocateAgreesWrongFalsely : Prop := thermalAllocateAgreesRow.holds Try.pinned (OpenSpec.ofChange thermalAllocateAgreesWrong)

/-- 'platformfwlaw39.ThermalMoreBudgetHelps': WHATEVER THE INPUT: true; the input reads as it did. -/
def thermalMoreBudgetHelpsSpec : ChangeSpec := { name := "thermalMoreBudgetHelps", fn := fun _ => fun
  | [d1, d2, d3] => { results := [.lit (.bool true)], args := [d1, d2, d3] }
  | _ => none }
def thermalMoreBudgetHelpsRow : OpenClaim := { program := "ytkcmohmnmapnbaa", sum := "d00aceb6a8812c1e308838df4382912b4c293e3f7387f648ca8f68782e426d96", func := "platformfw/platformfwlaw39.ThermalMoreBudgetHelps", spec := "thermalMoreBudgetHelps", unfollowed := true, recurses := true, apart := false }
def ThermalMoreBudgetHelpsSaid : Prop := thermalMoreBudgetHelpsRow.holds Try.pinned (OpenSpec.ofChange thermalMoreBudgetHelpsSpec)

/-- ITS FALSE NEIGHBOUR: 'it returns false'. Refute it at one input. -/
def thermalMoreBudgetHelpsWrong : ChangeSpec := { name := "thermalMoreBudgetHelps", fn := fun _ => fun
  | [d1, d2, d3] => { results := [.lit (.bool false)], args := [d1, d2, d3] }
  | _ => none }
def ThermalMoreBudgetHelpsWrongFalsely : Prop := thermalMoreBudgetHelpsRow.holds Try.pinned (OpenSpec.ofChange thermalMoreBudgetHelpsWrong)

/-- 'platformfwlaw39.ThermalZoneAgrees': WHATEVER THE INPUT: true; the input reads as it did. -/
def thermalZoneAgreesSpec : ChangeSpec := { name := "thermalZoneAgrees", fn := fun _ => fun
  | [d1, d2, d3] => { results := [.lit (.bool true)], args := [d1, d2, d3] }
  | _ => none }
def thermalZoneAgreesRow : OpenClaim := { program := "ytkcmohmnmapnbaa", sum := "d00aceb6a8812c1e308838df4382912b4c293e3f7387f648ca8f68782e426d96", func := "platformfw/platformfwlaw39.ThermalZoneAgrees", spec := "thermalZoneAgrees", unfollowed := true, recurses := true, apart := false }
def ThermalZoneAgreesSaid : Prop := thermalZoneAgreesRow.holds Try.pinned (OpenSpec.ofChange thermalZoneAgreesSpec)

/-- ITS FALSE NEIGHBOUR: 'it returns false'. Refute it at one input. -/
def thermalZoneAgreesWrong : ChangeSpec := { name := "thermalZoneAgrees", fn := fun _ => fun
  | [d1, d2, d3] => { results := [.lit (.bool false)], args := [d1, d2, d3] }
  | _ => none }
def ThermalZoneAgreesWrongFalsely : Prop := thermalZoneAgreesRow.holds Try.pinned (OpenSpec.ofChange thermalZoneAgreesWrong)

/-- 'platformfwlaw39.ThermalHysteresis': WHATEVER THE INPUT: true; the input reads as it did. -/
def thermalHysteresisSpec : ChangeSpec := { name := "thermalHysteresis", fn := fun _ => fun
  | [d1, d2, d3] => { results := [.lit (.bool true)], args := [d1, d2, d3] }
  | _ => none }
def thermalHysteresisRow : OpenClaim := { program := "ytkcmohmnmapnbaa", sum := "d00aceb6a8812c1e308838df4382912b4c293e3f7387f648ca8f68782e426d96", func := "platformfw/platformfwlaw39.ThermalHysteresis", spec := "thermalHysteresis", unfollowed := true, recurses := true, apart := false }
def ThermalHysteresisSaid : Prop := thermalHysteresisRow.holds Try.pinned (OpenSpec.ofChange thermalHysteresisSpec)

/-- ITS FALSE NEIGHBOUR: 'it returns false'. Refute it at one input. -/
def thermalHysteresisWrong : ChangeSpec := { name := "thermalHysteresis", fn := fun _ => fun
  | [d1, d2, d3] => { results := [.lit (.bool false)], args := [d1, d2, d3] }
  | _ => none }
def ThermalHysteresisWrongFalsely : Prop := thermalHysteresisRow.holds Try.pinned (OpenSpec.ofChange thermalHysteresisWrong)

/-- 'platformfwlaw39.ThermalAllocateIsFair': WHATEVER THE INPUT: true; the input reads as it did. -/
def thermalAllocateIsFairSpec : ChangeSpec := { name := "thermalAllocateIsFair", fn := fun _ => fun
  | [d1, d2] => { results := [.lit (.bool true)], args := [d1, d2] }
  | _ => none }
def thermalAllocateIsFairRow : OpenClaim := { program := "ytkcmohmnmapnbaa", sum := "d00aceb6a8812c1e308838df4382912b4c293e3f7387f648ca8f68782e426d96", func := "platformfw/platformfwlaw39.ThermalAllocateIsFair", spec := "thermalAllocateIsFair", unfollowed := true, recurses := true, apart := false }
def ThermalAllocateIsFairSaid : Prop := thermalAllocateIsFairRow.holds Try.pinned (OpenSpec.ofChange thermalAllocateIsFairSpec)

/-- ITS FALSE NEIGHBOUR: 'it returns false'. Refute it at one input. -/
def thermalAllocateIsFairWrong : ChangeSpec := { name := "thermalAllocateIsFair", fn := fun _ => fun
  | [d1, d2] => { results := [.lit (.bool false)], args := [d1, d2] }
  | _ => none }
def ThermalAllocateIsFairWrongFalsely : Prop := thermalAllocateIsFairRow.holds Try.pinned (OpenSpec.ofChange thermalAllocateIsFairWrong)

/-- 'platformfwlaw39.ThermalFairAgrees': WHATEVER THE INPUT: true; the input reads as it did. -/
def thermalFairAgreesSpec : ChangeSpec := { name := "thermalFairAgrees", fn := fun _ => fun
  | [d1, d2, d3, d4, d5] => { results := [.lit (.bool true)], args := [d1, d2, d3, d4, d5] }
  | _ => none }
def thermalFairAgreesRow : OpenClaim := { program := "ytkcmohmnmapnbaa", sum := "d00aceb6a8812c1e308838df4382912b4c293e3f7387f648ca8f68782e426d96", func := "platformfw/platformfwlaw39.ThermalFairAgrees", spec := "thermalFairAgrees", unfollowed := true, recurses := true, apart := false }
def ThermalFairAgreesSaid : Prop := thermalFairAgreesRow.holds Try.pinned (OpenSpec.ofChange thermalFairAgreesSpec)

/-- ITS FALSE NEIGHBOUR: 'it returns false'. Refute it at one input. -/
def thermalFairAgreesWrong : ChangeSpec := { name := "thermalFairAgrees", fn := fun _ => fun
  | [d1, d2, d3, d4, d5] => { results := [.lit (.bool false)], args := [d1, d2, d3, d4, d5] }
  | _ => none }
def ThermalFairAgreesWrongFalsely : Prop := thermalFairAgreesRow.holds Try.pinned (OpenSpec.ofChange thermalFairAgreesWrong)

/- THE SECOND FORM. 'bulk': how many values and letters a reading holds, each counted each time it is reached (what is shared counts as often as it is met; a slice's spare places count too). A statement '..UptoSaid' is the law's where the arguments, and the package variables that the reading takes, are together of bulk at most 1048576: NARROWER than '..Said'. Prove '..Said' where nothing that the law and all that it calls make is longer than what came in: it says more and counts as full. Else prove '..UptoSaid'. A law counts once. -/
mutual
def uptoBulk {H : Type} : DataW H → Nat
  | .lit (.string bytes) => bytes.length + 1
  | .lit _ => 1
  | .nil => 1
  | .ptr d => uptoBulk d + 1
  | .slice elems spare => uptoBulkAll elems + uptoBulkAll spare + 1
  | .agg parts => uptoBulkAll parts + 1
  | .iface _ d => uptoBulk d + 1
  | .map entries => uptoBulkEntries entries + 1
  | .held _ => 1
def uptoBulkAll {H : Type} : List (DataW H) → Nat
  | [] => 0
  | d :: r => uptoBulk d + uptoBulkAll r
def uptoBulkEntries {H : Type} : List (Lit × DataW H) → Nat
  | [] => 0
  | x :: r => uptoBulkEntry x + uptoBulkEntries r
def uptoBulkEntry {H : Type} : Lit × DataW H → Nat
  | (.string bytes, d) => bytes.length + uptoBulk d + 1
  | (_, d) => uptoBulk d + 1
 end
def uptoSmall : (H : Type) → List (DataW H) → Bool := fun _ ds => decide (uptoBulkAll ds ≤ 1048576)
def OpenSpec.upto (s : _root_.Go.ChangeSpec) : _root_.Go.OpenSpec := { _root_.Go.OpenSpec.ofChange s with cond := some uptoSmall }

/-- 'platformfwlaw39.ThermalTripsAgree', WHERE WHAT IT READS IS OF BULK AT MOST 1048576: true; the input reads as it did. -/
def thermalTripsAgreeUptoRow : OpenClaim := { program := "ytkcmohmnmapnbaa", sum := "d00aceb6a8812c1e308838df4382912b4c293e3f7387f648ca8f68782e426d96", func := "platformfw/platformfwlaw39.ThermalTripsAgree", spec := "thermalTripsAgree", unfollowed := true, recurses := true, apart := false, narrowed := true }
def ThermalTripsAgreeUptoSaid : Prop := thermalTripsAgreeUptoRow.holds Try.pinned (OpenSpec.upto thermalTripsAgreeSpec)

/-- 'platformfwlaw39.ThermalAllocateAgrees', WHERE WHAT IT READS IS OF BULK AT MOST 1048576: true; the input reads as it did. -/
def thermalAllocateAgreesUptoRow : OpenClaim := { program := "ytkcmohmnmapnbaa", sum := "d00aceb6a8812c1e308838df4382912b4c293e3f7387f648ca8f68782e426d96", func := "platformfw/platformfwlaw39.ThermalAllocateAgrees", spec := "thermalAllocateAgrees", unfollowed := true, recurses := true, apart := false, narrowed := true }
def ThermalAllocateAgreesUptoSaid : Prop := thermalAllocateAgreesUptoRow.holds Try.pinned (OpenSpec.upto thermalAllocateAgreesSpec)

/-- 'platformfwlaw39.ThermalMoreBudgetHelps', WHERE WHAT IT READS IS OF BULK AT MOST 1048576: true; the input reads as it did. -/
def thermalMoreBudgetHelpsUptoRow : OpenClaim := { program := "ytkcmohmnmapnbaa", sum := "d00aceb6a8812c1e308838df4382912b4c293e3f7387f648ca8f68782e426d96", func := "platformfw/platformfwlaw39.ThermalMoreBudgetHelps", spec := "thermalMoreBudgetHelps", unfollowed := true, recurses := true, apart := false, narrowed := true }
def ThermalMoreBudgetHelpsUptoSaid : Prop := thermalMoreBudgetHelpsUptoRow.holds Try.pinned (OpenSpec.upto thermalMoreBudgetHelpsSpec)

/-- 'platformfwlaw39.ThermalZoneAgrees', WHERE WHAT IT READS IS OF BULK AT MOST 1048576: true; the input reads as it did. -/
def thermalZoneAgreesUptoRow : OpenClaim := { program := "ytkcmohmnmapnbaa", sum := "d00aceb6a8812c1e308838df4382912b4c293e3f7387f648ca8f68782e426d96", func := "platformfw/platformfwlaw39.ThermalZoneAgrees", spec := "thermalZoneAgrees", unfollowed := true, recurses := true, apart := false, narrowed := true }
def ThermalZoneAgreesUptoSaid : Prop := thermalZoneAgreesUptoRow.holds Try.pinned (OpenSpec.upto thermalZoneAgreesSpec)

/-- 'platformfwlaw39.ThermalHysteresis', WHERE WHAT IT READS IS OF BULK AT MOST 1048576: true; the input reads as it did. -/
def thermalHysteresisUptoRow : OpenClaim := { program := "ytkcmohmnmapnbaa", sum := "d00aceb6a8812c1e308838df4382912b4c293e3f7387f648ca8f68782e426d96", func := "platformfw/platformfwlaw39.ThermalHysteresis", spec := "thermalHysteresis", unfollowed := true, recurses := true, apart := false, narrowed := true }
def ThermalHysteresisUptoSaid : Prop := thermalHysteresisUptoRow.holds Try.pinned (OpenSpec.upto thermalHysteresisSpec)

/-- 'platformfwlaw39.ThermalAllocateIsFair', WHERE WHAT IT READS IS OF BULK AT MOST 1048576: true; the input reads as it did. -/
def thermalAllocateIsFairUptoRow : OpenClaim := { program := "ytkcmohmnmapnbaa", sum := "d00aceb6a8812c1e308838df4382912b4c293e3f7387f648ca8f68782e426d96", func := "platformfw/platformfwlaw39.ThermalAllocateIsFair", spec := "thermalAllocateIsFair", unfollowed := true, recurses := true, apart := false, narrowed := true }
def ThermalAllocateIsFairUptoSaid : Prop := thermalAllocateIsFairUptoRow.holds Try.pinned (OpenSpec.upto thermalAllocateIsFairSpec)

/-- 'platformfwlaw39.ThermalFairAgrees', WHERE WHAT IT READS IS OF BULK AT MOST 1048576: true; the input reads as it did. -/
def thermalFairAgreesUptoRow : OpenClaim := { program := "ytkcmohmnmapnbaa", sum := "d00aceb6a8812c1e308838df4382912b4c293e3f7387f648ca8f68782e426d96", func := "platformfw/platformfwlaw39.ThermalFairAgrees", spec := "thermalFairAgrees", unfollowed := true, recurses := true, apart := false, narrowed := true }
def ThermalFairAgreesUptoSaid : Prop := thermalFairAgreesUptoRow.holds Try.pinned (OpenSpec.upto thermalFairAgreesSpec)

end Rows
end Go.Proofs.Ytkcmohmnmapnbaa
