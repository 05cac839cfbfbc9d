/- What cells are that read as data. -/
import Derived.Test.YtmjfdknjloidoaaFb
namespace Go.Proofs.Ytmjfdknjloidoaa.X
open Go Go.RowKit Go.Sx

theorem ri_23 : RdI Try.prog K_uint64 (inK .u64) := rdI_int Try.underlying23 (by kernel_rfl) (fun _ => rfl)
set_option maxRecDepth 100000 in
theorem ri_49 : RdI Try.prog K_platformfwlaw37_Request Request.wf := by
  refine ⟨by kernel_rfl, fun enc w base spare held n cs x h => ?_⟩
  obtain ⟨xs, n', _, _, hl, hx, hf⟩ := DataW.trod_struct Try.underlying49 h
  have hl' : cs.length = 4 := hl.trans (by kernel_rfl)
  obtain ⟨c0, c1, c2, c3, rfl⟩ : ∃ c0 c1 c2 c3, cs = [c0, c1, c2, c3] := by
    match cs, hl' with
    | [c0, c1, c2, c3], _ => exact ⟨c0, c1, c2, c3, rfl⟩
  obtain ⟨m0, rfl, w0⟩ := fld_int (hf 0 _ rfl) (isSome_of hx (by decide)) Try.underlying3 rfl (by kernel_rfl)
  obtain ⟨m1, rfl, w1⟩ := fld_int (hf 1 _ rfl) (isSome_of hx (by decide)) Try.underlying23 rfl (by kernel_rfl)
  obtain ⟨m2, rfl⟩ := fld_bool (hf 2 _ rfl) (isSome_of hx (by decide)) Try.underlying4 rfl (by kernel_rfl)
  obtain ⟨m3, rfl⟩ := fld_bool (hf 3 _ rfl) (isSome_of hx (by decide)) Try.underlying4 rfl (by kernel_rfl)
  exact ⟨⟨m0, m1, m2, m3⟩, rfl, w0, w1⟩
set_option maxRecDepth 100000 in
theorem ri_25 : RdI Try.prog K_api_IdleState IdleState.wf := by
  refine ⟨by kernel_rfl, fun enc w base spare held n cs x h => ?_⟩
  obtain ⟨xs, n', _, _, hl, hx, hf⟩ := DataW.trod_struct Try.underlying25 h
  have hl' : cs.length = 3 := hl.trans (by kernel_rfl)
  obtain ⟨c0, c1, c2, rfl⟩ : ∃ c0 c1 c2, cs = [c0, c1, c2] := by
    match cs, hl' with
    | [c0, c1, c2], _ => exact ⟨c0, c1, c2, rfl⟩
  obtain ⟨m0, rfl, w0⟩ := fld_int (hf 0 _ rfl) (isSome_of hx (by decide)) Try.underlying23 rfl (by kernel_rfl)
  obtain ⟨m1, rfl, w1⟩ := fld_int (hf 1 _ rfl) (isSome_of hx (by decide)) Try.underlying23 rfl (by kernel_rfl)
  obtain ⟨m2, rfl, w2⟩ := fld_int (hf 2 _ rfl) (isSome_of hx (by decide)) Try.underlying23 rfl (by kernel_rfl)
  exact ⟨⟨m0, m1, m2⟩, rfl, w0, w1, w2⟩

end Go.Proofs.Ytmjfdknjloidoaa.X
