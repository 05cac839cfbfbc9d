/- What cells are that read as data. -/
import Derived.Test.YthemeobgfgmblaaFb
namespace Go.Proofs.Ythemeobgfgmblaa.X
open Go Go.RowKit Go.Sx

set_option maxRecDepth 100000 in
theorem ri_25 : RdI Try.prog K_api_OperatingPoint OperatingPoint.wf := by
  refine ⟨by kernel_rfl, fun enc w base spare held n cs x h => ?_⟩
  obtain ⟨xs, n', _, _, hl, hx, hf⟩ := DataW.trod_struct Try.underlying25 h
  have hl' : cs.length = 3 := hl.trans (by kernel_rfl)
  obtain ⟨c0, c1, c2, rfl⟩ : ∃ c0 c1 c2, cs = [c0, c1, c2] := by
    match cs, hl' with
    | [c0, c1, c2], _ => exact ⟨c0, c1, c2, rfl⟩
  obtain ⟨m0, rfl, w0⟩ := fld_int (hf 0 _ rfl) (isSome_of hx (by decide)) Try.underlying23 rfl (by kernel_rfl)
  obtain ⟨m1, rfl, w1⟩ := fld_int (hf 1 _ rfl) (isSome_of hx (by decide)) Try.underlying23 rfl (by kernel_rfl)
  obtain ⟨m2, rfl, w2⟩ := fld_int (hf 2 _ rfl) (isSome_of hx (by decide)) Try.underlying23 rfl (by kernel_rfl)
  exact ⟨⟨m0, m1, m2⟩, rfl, w0, w1, w2⟩
set_option maxRecDepth 100000 in
theorem ri_40 : RdI Try.prog K_api_PerfOp PerfOp.wf := by
  refine ⟨by kernel_rfl, fun enc w base spare held n cs x h => ?_⟩
  obtain ⟨xs, n', _, _, hl, hx, hf⟩ := DataW.trod_struct Try.underlying40 h
  have hl' : cs.length = 2 := hl.trans (by kernel_rfl)
  obtain ⟨c0, c1, rfl⟩ : ∃ c0 c1, cs = [c0, c1] := by
    match cs, hl' with
    | [c0, c1], _ => exact ⟨c0, c1, rfl⟩
  obtain ⟨m0, rfl⟩ := fld_bool (hf 0 _ rfl) (isSome_of hx (by decide)) Try.underlying4 rfl (by kernel_rfl)
  obtain ⟨m1, rfl, w1⟩ := fld_int (hf 1 _ rfl) (isSome_of hx (by decide)) Try.underlying23 rfl (by kernel_rfl)
  exact ⟨⟨m0, m1⟩, rfl, w1⟩
set_option maxRecDepth 100000 in
theorem ri_45 : RdI Try.prog K_api_GovernorParams GovernorParams.wf := by
  refine ⟨by kernel_rfl, fun enc w base spare held n cs x h => ?_⟩
  obtain ⟨xs, n', _, _, hl, hx, hf⟩ := DataW.trod_struct Try.underlying45 h
  have hl' : cs.length = 3 := hl.trans (by kernel_rfl)
  obtain ⟨c0, c1, c2, rfl⟩ : ∃ c0 c1 c2, cs = [c0, c1, c2] := by
    match cs, hl' with
    | [c0, c1, c2], _ => exact ⟨c0, c1, c2, rfl⟩
  obtain ⟨m0, rfl, w0⟩ := fld_int (hf 0 _ rfl) (isSome_of hx (by decide)) Try.underlying3 rfl (by kernel_rfl)
  obtain ⟨m1, rfl, w1⟩ := fld_int (hf 1 _ rfl) (isSome_of hx (by decide)) Try.underlying3 rfl (by kernel_rfl)
  obtain ⟨m2, rfl, w2⟩ := fld_int (hf 2 _ rfl) (isSome_of hx (by decide)) Try.underlying3 rfl (by kernel_rfl)
  exact ⟨⟨m0, m1, m2⟩, rfl, w0, w1, w2⟩
theorem ri_3 : RdI Try.prog K_int (inK .i64) := rdI_int Try.underlying3 (by kernel_rfl) (fun _ => rfl)

end Go.Proofs.Ythemeobgfgmblaa.X
