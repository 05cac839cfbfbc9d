/- What cells are that read as data. -/
import Derived.Test.YtigadacjaglfeaaFb
namespace Go.Proofs.Ytigadacjaglfeaa.X
open Go Go.RowKit Go.Sx
set_option maxRecDepth 100000 in
theorem ri_43 : RdI Try.prog K_platformfwlaw09_Op Op.wf := by
  refine ⟨by kernel_rfl, fun enc w base spare held n cs x h => ?_⟩
  obtain ⟨xs, n', _, _, hl, hx, hf⟩ := DataW.trod_struct Try.underlying43 h
  have hl' : cs.length = 9 := hl.trans (by kernel_rfl)
  obtain ⟨c0, c1, c2, c3, c4, c5, c6, c7, c8, rfl⟩ : ∃ c0 c1 c2 c3 c4 c5 c6 c7 c8, cs = [c0, c1, c2, c3, c4, c5, c6, c7, c8] := by
    match cs, hl' with
    | [c0, c1, c2, c3, c4, c5, c6, c7, c8], _ => exact ⟨c0, c1, c2, c3, c4, c5, c6, c7, c8, rfl⟩
  obtain ⟨m0, rfl, w0⟩ := fld_int (hf 0 _ rfl) (isSome_of hx (by decide)) Try.underlying3 rfl (by kernel_rfl)
  obtain ⟨m1, rfl, w1⟩ := fld_int (hf 1 _ rfl) (isSome_of hx (by decide)) Try.underlying3 rfl (by kernel_rfl)
  obtain ⟨m2, rfl, w2⟩ := fld_int (hf 2 _ rfl) (isSome_of hx (by decide)) Try.underlying22 rfl (by kernel_rfl)
  obtain ⟨m3, rfl, w3⟩ := fld_int (hf 3 _ rfl) (isSome_of hx (by decide)) Try.underlying22 rfl (by kernel_rfl)
  obtain ⟨m4, rfl, w4⟩ := fld_int (hf 4 _ rfl) (isSome_of hx (by decide)) Try.underlying3 rfl (by kernel_rfl)
  obtain ⟨m5, rfl, w5⟩ := fld_int (hf 5 _ rfl) (isSome_of hx (by decide)) Try.underlying3 rfl (by kernel_rfl)
  obtain ⟨m6, rfl⟩ := fld_bool (hf 6 _ rfl) (isSome_of hx (by decide)) Try.underlying4 rfl (by kernel_rfl)
  obtain ⟨m7, rfl, w7⟩ := fld_int (hf 7 _ rfl) (isSome_of hx (by decide)) Try.underlying22 rfl (by kernel_rfl)
  obtain ⟨m8, rfl⟩ := fld_bool (hf 8 _ rfl) (isSome_of hx (by decide)) Try.underlying4 rfl (by kernel_rfl)
  exact ⟨⟨m0, m1, m2, m3, m4, m5, m6, m7, m8⟩, rfl, w0, w1, w2, w3, w4, w5, w7⟩
end Go.Proofs.Ytigadacjaglfeaa.X
